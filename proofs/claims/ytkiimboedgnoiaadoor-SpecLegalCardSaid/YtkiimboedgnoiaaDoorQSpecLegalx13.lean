/- The walk of SpecLegal, part of it: what the Go functions answer; no condition. -/
import Derived.Test.YtkiimboedgnoiaaDoorQSpecLegalx0
import Derived.Test.YtkiimboedgnoiaaDoorQSpecLegalx1
import Derived.Test.YtkiimboedgnoiaaDoorQSpecLegalx5
import Derived.Test.YtkiimboedgnoiaaDoorQSpecLegalx6
import Derived.Test.YtkiimboedgnoiaaDoorQSpecLegalx7
import Derived.Test.YtkiimboedgnoiaaDoorQSpecLegalx9
import Derived.Test.YtkiimboedgnoiaaDoorQSpecLegalx12
namespace Go.Proofs.YtkiimboedgnoiaaDoor.PSpecLegal
open Go.RowKit Go.Proofs.YtkiimboedgnoiaaDoorW.PrintWords Go.Proofs.YtkiimboedgnoiaaDoorW.PrintLast Go.Proofs.YtkiimboedgnoiaaDoorW.PrintMore
attribute [local go_sem] max2_int min2_int max_two min_two max_three min_three max_four min_four   -- for this text's walks alone
set_option linter.unusedVariables false
set_option linter.unusedSimpArgs false

theorem w64u_ (x : Int) : wrap64 (IntKind.u32.wrap x) = x % 4294967296 := by
  rw [show IntKind.u32.wrap x = x % 4294967296 by simp [IntKind.wrap, IntKind.bits, IntKind.signed]]; unfold wrap64; omega

/-! ### lodgerlaw11_SpecLegal: function 4 -/
mutual
def lodgerlaw11_SpecLegal.j0 : Nat → List Int → Bool → Int → Int → List Int → Int → Int → Int → Int → Int → Int → List Int → Int → Int → Bool → List Int → List Int → Option (Bool)
 | 0, _, _, _, _, _, _, _, _, _, _, _, _, _, _, _, _, _ => none
 | k + 1, x1, x34, x540000, x540001, x540002, x540003, x540004, x540005, x540006, x541000, x541001, x541002, x542000, x542001, x542002, x542003, x542004 => if x34 = true then ((lodgerlaw11_awake.f k).bind fun t546 => (some t546)) else ((spec_Some.f k x540000 x540001 x540002 x540003 x540004 x540005 x540006 x1 x541000 x541001 x541002).bind fun bt547 => ((spec_Legal.f k x540000 x540001 x540002 x540003 x540004 x540005 x540006 x1 x541000 x541001 x541002 bt547.2.1 bt547.2.2.1 bt547.2.2.2.1 bt547.2.2.2.2.1 bt547.2.2.2.2.2).bind fun bt560 => (if bt560.2 = true then ((lodgerref03_Ints.f k bt547.1 bt560.1).bind fun t564 => (if t564 = true then ((lodgerref09_May.f k x540000 x540001 x540002 x540003 x540004 x540005 x540006 bt547.1).bind fun t565 => (if t565 = true then (if bt547.2.1 = 10 then (lodgerlaw11_SpecLegal.j1 k x1 true x540000 x540001 x540002 x540003 x540004 x540005 x540006 x541000 x541001 x541002 x542000 x542001 x542002 x542003 x542004) else (if bt547.2.1 = 12 then (lodgerlaw11_SpecLegal.j1 k x1 true x540000 x540001 x540002 x540003 x540004 x540005 x540006 x541000 x541001 x541002 x542000 x542001 x542002 x542003 x542004) else (lodgerlaw11_SpecLegal.j1 k x1 (bt547.2.1 == 11) x540000 x540001 x540002 x540003 x540004 x540005 x540006 x541000 x541001 x541002 x542000 x542001 x542002 x542003 x542004))) else (lodgerlaw11_SpecLegal.j1 k x1 true x540000 x540001 x540002 x540003 x540004 x540005 x540006 x541000 x541001 x541002 x542000 x542001 x542002 x542003 x542004))) else (lodgerlaw11_SpecLegal.j1 k x1 true x540000 x540001 x540002 x540003 x540004 x540005 x540006 x541000 x541001 x541002 x542000 x542001 x542002 x542003 x542004))) else (lodgerlaw11_SpecLegal.j1 k x1 true x540000 x540001 x540002 x540003 x540004 x540005 x540006 x541000 x541001 x541002 x542000 x542001 x542002 x542003 x542004))))
def lodgerlaw11_SpecLegal.j1 : Nat → List Int → Bool → Int → Int → List Int → Int → Int → Int → Int → Int → Int → List Int → Int → Int → Bool → List Int → List Int → Option (Bool)
 | 0, _, _, _, _, _, _, _, _, _, _, _, _, _, _, _, _, _ => none
 | k + 1, x1, x79, x540000, x540001, x540002, x540003, x540004, x540005, x540006, x541000, x541001, x541002, x542000, x542001, x542002, x542003, x542004 => if x79 = true then (some false) else ((spec_Legal.f k x540000 x540001 x540002 x540003 x540004 x540005 x540006 x1 x541000 x541001 x541002 x542000 x542001 x542002 x542003 x542004).bind fun bt566 => (if bt566.2 = true then (if x542000 = 0 then ((lodgerref09_May.f k x540000 x540001 x540002 x540003 x540004 x540005 x540006 bt566.1).bind fun t571 => (if t571 = true then (lodgerlaw11_SpecLegal.j2 k x1 bt566.1 (decide ((bt566.1.length : Int) > (wrap64 ((x1.length : Int) + 1)))) x540000 x540001 x540002 x540003 x540004 x540005 x540006 x541000 x541001 x541002 x542000 x542001 x542002 x542003 x542004) else (lodgerlaw11_SpecLegal.j2 k x1 bt566.1 true x540000 x540001 x540002 x540003 x540004 x540005 x540006 x541000 x541001 x541002 x542000 x542001 x542002 x542003 x542004))) else ((lodgerref03_Ints.f k bt566.1 x1).bind fun t572 => (if t572 = true then ((lodgerref09_May.f k x540000 x540001 x540002 x540003 x540004 x540005 x540006 bt566.1).bind fun t573 => (if t573 = true then (lodgerlaw11_SpecLegal.j2 k x1 bt566.1 (decide ((bt566.1.length : Int) > (wrap64 ((x1.length : Int) + 1)))) x540000 x540001 x540002 x540003 x540004 x540005 x540006 x541000 x541001 x541002 x542000 x542001 x542002 x542003 x542004) else (lodgerlaw11_SpecLegal.j2 k x1 bt566.1 true x540000 x540001 x540002 x540003 x540004 x540005 x540006 x541000 x541001 x541002 x542000 x542001 x542002 x542003 x542004))) else (lodgerlaw11_SpecLegal.j2 k x1 bt566.1 true x540000 x540001 x540002 x540003 x540004 x540005 x540006 x541000 x541001 x541002 x542000 x542001 x542002 x542003 x542004)))) else ((lodgerref03_Ints.f k bt566.1 x1).bind fun t570 => (some t570))))
def lodgerlaw11_SpecLegal.j2 : Nat → List Int → List Int → Bool → Int → Int → List Int → Int → Int → Int → Int → Int → Int → List Int → Int → Int → Bool → List Int → List Int → Option (Bool)
 | 0, _, _, _, _, _, _, _, _, _, _, _, _, _, _, _, _, _, _ => none
 | k + 1, x1, x13, x115, x540000, x540001, x540002, x540003, x540004, x540005, x540006, x541000, x541001, x541002, x542000, x542001, x542002, x542003, x542004 => if x115 = true then (some false) else (lodgerlaw11_SpecLegal.l0 k x1 x13 0 0 x540000 x540001 x540002 x540003 x540004 x540005 x540006 x541000 x541001 x541002 x542000 x542001 x542002 x542003 x542004)
def lodgerlaw11_SpecLegal.l0 : Nat → List Int → List Int → Int → Int → Int → Int → List Int → Int → Int → Int → Int → Int → Int → List Int → Int → Int → Bool → List Int → List Int → Option (Bool)
 | 0, _, _, _, _, _, _, _, _, _, _, _, _, _, _, _, _, _, _, _ => none
 | k + 1, x1, x13, x15, x16, x540000, x540001, x540002, x540003, x540004, x540005, x540006, x541000, x541001, x541002, x542000, x542001, x542002, x542003, x542004 => if x16 < (x13.length : Int) then (if 0 ≤ x16 then ((lodgerref09_Has.f k x1 (rd x13 x16)).bind fun t575 => (if t575 = true then (lodgerlaw11_SpecLegal.l0 k x1 x13 x15 (wrap64 (x16 + 1)) x540000 x540001 x540002 x540003 x540004 x540005 x540006 x541000 x541001 x541002 x542000 x542001 x542002 x542003 x542004) else (if x541000 = 1 then (if x542001 = ((x540000 + (rd x13 x16)) % 4294967296) then (lodgerlaw11_SpecLegal.l0 k x1 x13 (wrap64 (x15 + 1)) (wrap64 (x16 + 1)) x540000 x540001 x540002 x540003 x540004 x540005 x540006 x541000 x541001 x541002 x542000 x542001 x542002 x542003 x542004) else (some false)) else (if x541000 = 2 then (if x542001 = ((x540000 + (rd x13 x16)) % 4294967296) then (lodgerlaw11_SpecLegal.l0 k x1 x13 (wrap64 (x15 + 1)) (wrap64 (x16 + 1)) x540000 x540001 x540002 x540003 x540004 x540005 x540006 x541000 x541001 x541002 x542000 x542001 x542002 x542003 x542004) else (some false)) else (some false))))) else (none)) else (if x541000 = 1 then (if x542000 = 0 then (lodgerlaw11_SpecLegal.j4 k x1 (x15 != 1) x540000 x540001 x540002 x540003 x540004 x540005 x540006 x541000 x541001 x541002 x542000 x542001 x542002 x542003 x542004) else (lodgerlaw11_SpecLegal.j4 k x1 false x540000 x540001 x540002 x540003 x540004 x540005 x540006 x541000 x541001 x541002 x542000 x542001 x542002 x542003 x542004)) else (lodgerlaw11_SpecLegal.j4 k x1 false x540000 x540001 x540002 x540003 x540004 x540005 x540006 x541000 x541001 x541002 x542000 x542001 x542002 x542003 x542004))
def lodgerlaw11_SpecLegal.j4 : Nat → List Int → Bool → Int → Int → List Int → Int → Int → Int → Int → Int → Int → List Int → Int → Int → Bool → List Int → List Int → Option (Bool)
 | 0, _, _, _, _, _, _, _, _, _, _, _, _, _, _, _, _, _ => none
 | k + 1, x1, x164, x540000, x540001, x540002, x540003, x540004, x540005, x540006, x541000, x541001, x541002, x542000, x542001, x542002, x542003, x542004 => if x164 = true then (some false) else (if x541000 = 5 then (if x542000 = 0 then ((lodgerref05_Held.f k x540000 x540001 x540002 x540003 x540004 x540005 x540006 0).bind fun t578 => (if t578 = true then (some true) else ((lodgerref09_With.f k x1 ((x541001 - x540000) % 4294967296)).bind fun t579 => (some (x542002 == ((t579.length : Int) == (x1.length : Int))))))) else (some true)) else (some true))
end
def lodgerlaw11_SpecLegal.f (k : Nat) (a0_0 : Int) (a0_1 : Int) (l0_2 : List Int) (a0_3 : Int) (a0_4 : Int) (a0_5 : Int) (a0_6 : Int) (l1 : List Int) (a2_0 : Int) (a2_1 : Int) (l2_2 : List Int) (a3_0 : Int) (a3_1 : Int) (a3_2 : Bool) (l3_3 : List Int) (l3_4 : List Int) : Option (Bool) := (lodgerlaw11_awake.f k).bind fun t542 => (if t542 = true then ((lodgerref11_Fits.f k a0_0 a0_1 l0_2 a0_3 a0_4 a0_5 a0_6 l1).bind fun t543 => (if t543 = true then ((lodgerref10_Few.f a2_0 a2_1 l2_2).bind fun t544 => (if t544 = true then ((lodgerref11_Few.f a3_0 a3_1 a3_2 l3_3 l3_4).bind fun t545 => (lodgerlaw11_SpecLegal.j0 k l1 (!t545) a0_0 a0_1 l0_2 a0_3 a0_4 a0_5 a0_6 a2_0 a2_1 l2_2 a3_0 a3_1 a3_2 l3_3 l3_4)) else (lodgerlaw11_SpecLegal.j0 k l1 true a0_0 a0_1 l0_2 a0_3 a0_4 a0_5 a0_6 a2_0 a2_1 l2_2 a3_0 a3_1 a3_2 l3_3 l3_4))) else (lodgerlaw11_SpecLegal.j0 k l1 true a0_0 a0_1 l0_2 a0_3 a0_4 a0_5 a0_6 a2_0 a2_1 l2_2 a3_0 a3_1 a3_2 l3_3 l3_4))) else (lodgerlaw11_SpecLegal.j0 k l1 true a0_0 a0_1 l0_2 a0_3 a0_4 a0_5 a0_6 a2_0 a2_1 l2_2 a3_0 a3_1 a3_2 l3_3 l3_4))
theorem lodgerlaw11_SpecLegal.mono_l : ∀ k, (∀ y0 y1 y2 y3 y4 y5 y6 y7 y8 y9 y10 y11 y12 y13 y14 y15 y16, LeO (lodgerlaw11_SpecLegal.j0 k y0 y1 y2 y3 y4 y5 y6 y7 y8 y9 y10 y11 y12 y13 y14 y15 y16) (lodgerlaw11_SpecLegal.j0 (k + 1) y0 y1 y2 y3 y4 y5 y6 y7 y8 y9 y10 y11 y12 y13 y14 y15 y16)) ∧ (∀ y0 y1 y2 y3 y4 y5 y6 y7 y8 y9 y10 y11 y12 y13 y14 y15 y16, LeO (lodgerlaw11_SpecLegal.j1 k y0 y1 y2 y3 y4 y5 y6 y7 y8 y9 y10 y11 y12 y13 y14 y15 y16) (lodgerlaw11_SpecLegal.j1 (k + 1) y0 y1 y2 y3 y4 y5 y6 y7 y8 y9 y10 y11 y12 y13 y14 y15 y16)) ∧ (∀ y0 y1 y2 y3 y4 y5 y6 y7 y8 y9 y10 y11 y12 y13 y14 y15 y16 y17, LeO (lodgerlaw11_SpecLegal.j2 k y0 y1 y2 y3 y4 y5 y6 y7 y8 y9 y10 y11 y12 y13 y14 y15 y16 y17) (lodgerlaw11_SpecLegal.j2 (k + 1) y0 y1 y2 y3 y4 y5 y6 y7 y8 y9 y10 y11 y12 y13 y14 y15 y16 y17)) ∧ (∀ y0 y1 y2 y3 y4 y5 y6 y7 y8 y9 y10 y11 y12 y13 y14 y15 y16 y17 y18, LeO (lodgerlaw11_SpecLegal.l0 k y0 y1 y2 y3 y4 y5 y6 y7 y8 y9 y10 y11 y12 y13 y14 y15 y16 y17 y18) (lodgerlaw11_SpecLegal.l0 (k + 1) y0 y1 y2 y3 y4 y5 y6 y7 y8 y9 y10 y11 y12 y13 y14 y15 y16 y17 y18)) ∧ (∀ y0 y1 y2 y3 y4 y5 y6 y7 y8 y9 y10 y11 y12 y13 y14 y15 y16, LeO (lodgerlaw11_SpecLegal.j4 k y0 y1 y2 y3 y4 y5 y6 y7 y8 y9 y10 y11 y12 y13 y14 y15 y16) (lodgerlaw11_SpecLegal.j4 (k + 1) y0 y1 y2 y3 y4 y5 y6 y7 y8 y9 y10 y11 y12 y13 y14 y15 y16))
 | 0 => ⟨fun _ _ _ _ _ _ _ _ _ _ _ _ _ _ _ _ _ r h => by simp [lodgerlaw11_SpecLegal.j0] at h, fun _ _ _ _ _ _ _ _ _ _ _ _ _ _ _ _ _ r h => by simp [lodgerlaw11_SpecLegal.j1] at h, fun _ _ _ _ _ _ _ _ _ _ _ _ _ _ _ _ _ _ r h => by simp [lodgerlaw11_SpecLegal.j2] at h, fun _ _ _ _ _ _ _ _ _ _ _ _ _ _ _ _ _ _ _ r h => by simp [lodgerlaw11_SpecLegal.l0] at h, fun _ _ _ _ _ _ _ _ _ _ _ _ _ _ _ _ _ r h => by simp [lodgerlaw11_SpecLegal.j4] at h⟩
 | k + 1 => by
  obtain ⟨ih0, ih1, ih2, ih3, ih4⟩ := lodgerlaw11_SpecLegal.mono_l k
  refine ⟨?_, ?_, ?_, ?_, ?_⟩
  ·intro y0 y1 y2 y3 y4 y5 y6 y7 y8 y9 y10 y11 y12 y13 y14 y15 y16
   unfold lodgerlaw11_SpecLegal.j0
   repeat' first
   | (with_reducible exact ih0 _ _ _ _ _ _ _ _ _ _ _ _ _ _ _ _ _)
   | (with_reducible exact ih1 _ _ _ _ _ _ _ _ _ _ _ _ _ _ _ _ _)
   | (with_reducible exact ih2 _ _ _ _ _ _ _ _ _ _ _ _ _ _ _ _ _ _)
   | (with_reducible exact ih3 _ _ _ _ _ _ _ _ _ _ _ _ _ _ _ _ _ _ _)
   | (with_reducible exact ih4 _ _ _ _ _ _ _ _ _ _ _ _ _ _ _ _ _)
   | (with_reducible exact lodgerlaw11_awake.mono _)
   | (with_reducible exact lodgerref03_Ints.mono _ _ _)
   | (with_reducible exact lodgerref05_Held.mono _ _ _ _ _ _ _ _ _)
   | (with_reducible exact lodgerref09_Has.mono _ _ _)
   | (with_reducible exact lodgerref09_May.mono _ _ _ _ _ _ _ _ _)
   | (with_reducible exact lodgerref09_With.mono _ _ _)
   | (with_reducible exact lodgerref11_Fits.mono _ _ _ _ _ _ _ _ _)
   | (with_reducible exact spec_Legal.mono _ _ _ _ _ _ _ _ _ _ _ _ _ _ _ _ _)
   | (with_reducible exact spec_Some.mono _ _ _ _ _ _ _ _ _ _ _ _)
   | (with_reducible exact LeO.refl _)
   | (with_reducible exact LeO.none _)
   | (with_reducible refine LeO.ite ?_ ?_)
   | (with_reducible refine LeO.bind ?_ (fun _ => ?_))
   | exact ih0 _ _ _ _ _ _ _ _ _ _ _ _ _ _ _ _ _
   | exact ih1 _ _ _ _ _ _ _ _ _ _ _ _ _ _ _ _ _
   | exact ih2 _ _ _ _ _ _ _ _ _ _ _ _ _ _ _ _ _ _
   | exact ih3 _ _ _ _ _ _ _ _ _ _ _ _ _ _ _ _ _ _ _
   | exact ih4 _ _ _ _ _ _ _ _ _ _ _ _ _ _ _ _ _
   | exact lodgerlaw11_awake.mono _
   | exact lodgerref03_Ints.mono _ _ _
   | exact lodgerref05_Held.mono _ _ _ _ _ _ _ _ _
   | exact lodgerref09_Has.mono _ _ _
   | exact lodgerref09_May.mono _ _ _ _ _ _ _ _ _
   | exact lodgerref09_With.mono _ _ _
   | exact lodgerref11_Fits.mono _ _ _ _ _ _ _ _ _
   | exact spec_Legal.mono _ _ _ _ _ _ _ _ _ _ _ _ _ _ _ _ _
   | exact spec_Some.mono _ _ _ _ _ _ _ _ _ _ _ _
   | exact LeO.none _
   | refine LeO.ite ?_ ?_
   | refine LeO.bind ?_ (fun _ => ?_)
  ·intro y0 y1 y2 y3 y4 y5 y6 y7 y8 y9 y10 y11 y12 y13 y14 y15 y16
   unfold lodgerlaw11_SpecLegal.j1
   repeat' first
   | (with_reducible exact ih0 _ _ _ _ _ _ _ _ _ _ _ _ _ _ _ _ _)
   | (with_reducible exact ih1 _ _ _ _ _ _ _ _ _ _ _ _ _ _ _ _ _)
   | (with_reducible exact ih2 _ _ _ _ _ _ _ _ _ _ _ _ _ _ _ _ _ _)
   | (with_reducible exact ih3 _ _ _ _ _ _ _ _ _ _ _ _ _ _ _ _ _ _ _)
   | (with_reducible exact ih4 _ _ _ _ _ _ _ _ _ _ _ _ _ _ _ _ _)
   | (with_reducible exact lodgerlaw11_awake.mono _)
   | (with_reducible exact lodgerref03_Ints.mono _ _ _)
   | (with_reducible exact lodgerref05_Held.mono _ _ _ _ _ _ _ _ _)
   | (with_reducible exact lodgerref09_Has.mono _ _ _)
   | (with_reducible exact lodgerref09_May.mono _ _ _ _ _ _ _ _ _)
   | (with_reducible exact lodgerref09_With.mono _ _ _)
   | (with_reducible exact lodgerref11_Fits.mono _ _ _ _ _ _ _ _ _)
   | (with_reducible exact spec_Legal.mono _ _ _ _ _ _ _ _ _ _ _ _ _ _ _ _ _)
   | (with_reducible exact spec_Some.mono _ _ _ _ _ _ _ _ _ _ _ _)
   | (with_reducible exact LeO.refl _)
   | (with_reducible exact LeO.none _)
   | (with_reducible refine LeO.ite ?_ ?_)
   | (with_reducible refine LeO.bind ?_ (fun _ => ?_))
   | exact ih0 _ _ _ _ _ _ _ _ _ _ _ _ _ _ _ _ _
   | exact ih1 _ _ _ _ _ _ _ _ _ _ _ _ _ _ _ _ _
   | exact ih2 _ _ _ _ _ _ _ _ _ _ _ _ _ _ _ _ _ _
   | exact ih3 _ _ _ _ _ _ _ _ _ _ _ _ _ _ _ _ _ _ _
   | exact ih4 _ _ _ _ _ _ _ _ _ _ _ _ _ _ _ _ _
   | exact lodgerlaw11_awake.mono _
   | exact lodgerref03_Ints.mono _ _ _
   | exact lodgerref05_Held.mono _ _ _ _ _ _ _ _ _
   | exact lodgerref09_Has.mono _ _ _
   | exact lodgerref09_May.mono _ _ _ _ _ _ _ _ _
   | exact lodgerref09_With.mono _ _ _
   | exact lodgerref11_Fits.mono _ _ _ _ _ _ _ _ _
   | exact spec_Legal.mono _ _ _ _ _ _ _ _ _ _ _ _ _ _ _ _ _
   | exact spec_Some.mono _ _ _ _ _ _ _ _ _ _ _ _
   | exact LeO.none _
   | refine LeO.ite ?_ ?_
   | refine LeO.bind ?_ (fun _ => ?_)
  ·intro y0 y1 y2 y3 y4 y5 y6 y7 y8 y9 y10 y11 y12 y13 y14 y15 y16 y17
   unfold lodgerlaw11_SpecLegal.j2
   repeat' first
   | (with_reducible exact ih0 _ _ _ _ _ _ _ _ _ _ _ _ _ _ _ _ _)
   | (with_reducible exact ih1 _ _ _ _ _ _ _ _ _ _ _ _ _ _ _ _ _)
   | (with_reducible exact ih2 _ _ _ _ _ _ _ _ _ _ _ _ _ _ _ _ _ _)
   | (with_reducible exact ih3 _ _ _ _ _ _ _ _ _ _ _ _ _ _ _ _ _ _ _)
   | (with_reducible exact ih4 _ _ _ _ _ _ _ _ _ _ _ _ _ _ _ _ _)
   | (with_reducible exact lodgerlaw11_awake.mono _)
   | (with_reducible exact lodgerref03_Ints.mono _ _ _)
   | (with_reducible exact lodgerref05_Held.mono _ _ _ _ _ _ _ _ _)
   | (with_reducible exact lodgerref09_Has.mono _ _ _)
   | (with_reducible exact lodgerref09_May.mono _ _ _ _ _ _ _ _ _)
   | (with_reducible exact lodgerref09_With.mono _ _ _)
   | (with_reducible exact lodgerref11_Fits.mono _ _ _ _ _ _ _ _ _)
   | (with_reducible exact spec_Legal.mono _ _ _ _ _ _ _ _ _ _ _ _ _ _ _ _ _)
   | (with_reducible exact spec_Some.mono _ _ _ _ _ _ _ _ _ _ _ _)
   | (with_reducible exact LeO.refl _)
   | (with_reducible exact LeO.none _)
   | (with_reducible refine LeO.ite ?_ ?_)
   | (with_reducible refine LeO.bind ?_ (fun _ => ?_))
   | exact ih0 _ _ _ _ _ _ _ _ _ _ _ _ _ _ _ _ _
   | exact ih1 _ _ _ _ _ _ _ _ _ _ _ _ _ _ _ _ _
   | exact ih2 _ _ _ _ _ _ _ _ _ _ _ _ _ _ _ _ _ _
   | exact ih3 _ _ _ _ _ _ _ _ _ _ _ _ _ _ _ _ _ _ _
   | exact ih4 _ _ _ _ _ _ _ _ _ _ _ _ _ _ _ _ _
   | exact lodgerlaw11_awake.mono _
   | exact lodgerref03_Ints.mono _ _ _
   | exact lodgerref05_Held.mono _ _ _ _ _ _ _ _ _
   | exact lodgerref09_Has.mono _ _ _
   | exact lodgerref09_May.mono _ _ _ _ _ _ _ _ _
   | exact lodgerref09_With.mono _ _ _
   | exact lodgerref11_Fits.mono _ _ _ _ _ _ _ _ _
   | exact spec_Legal.mono _ _ _ _ _ _ _ _ _ _ _ _ _ _ _ _ _
   | exact spec_Some.mono _ _ _ _ _ _ _ _ _ _ _ _
   | exact LeO.none _
   | refine LeO.ite ?_ ?_
   | refine LeO.bind ?_ (fun _ => ?_)
  ·intro y0 y1 y2 y3 y4 y5 y6 y7 y8 y9 y10 y11 y12 y13 y14 y15 y16 y17 y18
   unfold lodgerlaw11_SpecLegal.l0
   repeat' first
   | (with_reducible exact ih0 _ _ _ _ _ _ _ _ _ _ _ _ _ _ _ _ _)
   | (with_reducible exact ih1 _ _ _ _ _ _ _ _ _ _ _ _ _ _ _ _ _)
   | (with_reducible exact ih2 _ _ _ _ _ _ _ _ _ _ _ _ _ _ _ _ _ _)
   | (with_reducible exact ih3 _ _ _ _ _ _ _ _ _ _ _ _ _ _ _ _ _ _ _)
   | (with_reducible exact ih4 _ _ _ _ _ _ _ _ _ _ _ _ _ _ _ _ _)
   | (with_reducible exact lodgerlaw11_awake.mono _)
   | (with_reducible exact lodgerref03_Ints.mono _ _ _)
   | (with_reducible exact lodgerref05_Held.mono _ _ _ _ _ _ _ _ _)
   | (with_reducible exact lodgerref09_Has.mono _ _ _)
   | (with_reducible exact lodgerref09_May.mono _ _ _ _ _ _ _ _ _)
   | (with_reducible exact lodgerref09_With.mono _ _ _)
   | (with_reducible exact lodgerref11_Fits.mono _ _ _ _ _ _ _ _ _)
   | (with_reducible exact spec_Legal.mono _ _ _ _ _ _ _ _ _ _ _ _ _ _ _ _ _)
   | (with_reducible exact spec_Some.mono _ _ _ _ _ _ _ _ _ _ _ _)
   | (with_reducible exact LeO.refl _)
   | (with_reducible exact LeO.none _)
   | (with_reducible refine LeO.ite ?_ ?_)
   | (with_reducible refine LeO.bind ?_ (fun _ => ?_))
   | exact ih0 _ _ _ _ _ _ _ _ _ _ _ _ _ _ _ _ _
   | exact ih1 _ _ _ _ _ _ _ _ _ _ _ _ _ _ _ _ _
   | exact ih2 _ _ _ _ _ _ _ _ _ _ _ _ _ _ _ _ _ _
   | exact ih3 _ _ _ _ _ _ _ _ _ _ _ _ _ _ _ _ _ _ _
   | exact ih4 _ _ _ _ _ _ _ _ _ _ _ _ _ _ _ _ _
   | exact lodgerlaw11_awake.mono _
   | exact lodgerref03_Ints.mono _ _ _
   | exact lodgerref05_Held.mono _ _ _ _ _ _ _ _ _
   | exact lodgerref09_Has.mono _ _ _
   | exact lodgerref09_May.mono _ _ _ _ _ _ _ _ _
   | exact lodgerref09_With.mono _ _ _
   | exact lodgerref11_Fits.mono _ _ _ _ _ _ _ _ _
   | exact spec_Legal.mono _ _ _ _ _ _ _ _ _ _ _ _ _ _ _ _ _
   | exact spec_Some.mono _ _ _ _ _ _ _ _ _ _ _ _
   | exact LeO.none _
   | refine LeO.ite ?_ ?_
   | refine LeO.bind ?_ (fun _ => ?_)
  ·intro y0 y1 y2 y3 y4 y5 y6 y7 y8 y9 y10 y11 y12 y13 y14 y15 y16
   unfold lodgerlaw11_SpecLegal.j4
   repeat' first
   | (with_reducible exact ih0 _ _ _ _ _ _ _ _ _ _ _ _ _ _ _ _ _)
   | (with_reducible exact ih1 _ _ _ _ _ _ _ _ _ _ _ _ _ _ _ _ _)
   | (with_reducible exact ih2 _ _ _ _ _ _ _ _ _ _ _ _ _ _ _ _ _ _)
   | (with_reducible exact ih3 _ _ _ _ _ _ _ _ _ _ _ _ _ _ _ _ _ _ _)
   | (with_reducible exact ih4 _ _ _ _ _ _ _ _ _ _ _ _ _ _ _ _ _)
   | (with_reducible exact lodgerlaw11_awake.mono _)
   | (with_reducible exact lodgerref03_Ints.mono _ _ _)
   | (with_reducible exact lodgerref05_Held.mono _ _ _ _ _ _ _ _ _)
   | (with_reducible exact lodgerref09_Has.mono _ _ _)
   | (with_reducible exact lodgerref09_May.mono _ _ _ _ _ _ _ _ _)
   | (with_reducible exact lodgerref09_With.mono _ _ _)
   | (with_reducible exact lodgerref11_Fits.mono _ _ _ _ _ _ _ _ _)
   | (with_reducible exact spec_Legal.mono _ _ _ _ _ _ _ _ _ _ _ _ _ _ _ _ _)
   | (with_reducible exact spec_Some.mono _ _ _ _ _ _ _ _ _ _ _ _)
   | (with_reducible exact LeO.refl _)
   | (with_reducible exact LeO.none _)
   | (with_reducible refine LeO.ite ?_ ?_)
   | (with_reducible refine LeO.bind ?_ (fun _ => ?_))
   | exact ih0 _ _ _ _ _ _ _ _ _ _ _ _ _ _ _ _ _
   | exact ih1 _ _ _ _ _ _ _ _ _ _ _ _ _ _ _ _ _
   | exact ih2 _ _ _ _ _ _ _ _ _ _ _ _ _ _ _ _ _ _
   | exact ih3 _ _ _ _ _ _ _ _ _ _ _ _ _ _ _ _ _ _ _
   | exact ih4 _ _ _ _ _ _ _ _ _ _ _ _ _ _ _ _ _
   | exact lodgerlaw11_awake.mono _
   | exact lodgerref03_Ints.mono _ _ _
   | exact lodgerref05_Held.mono _ _ _ _ _ _ _ _ _
   | exact lodgerref09_Has.mono _ _ _
   | exact lodgerref09_May.mono _ _ _ _ _ _ _ _ _
   | exact lodgerref09_With.mono _ _ _
   | exact lodgerref11_Fits.mono _ _ _ _ _ _ _ _ _
   | exact spec_Legal.mono _ _ _ _ _ _ _ _ _ _ _ _ _ _ _ _ _
   | exact spec_Some.mono _ _ _ _ _ _ _ _ _ _ _ _
   | exact LeO.none _
   | refine LeO.ite ?_ ?_
   | refine LeO.bind ?_ (fun _ => ?_)
theorem lodgerlaw11_SpecLegal.mono : ∀ a0 a1 a2 a3 a4 a5 a6 a7 a8 a9 a10 a11 a12 a13 a14 a15 k, LeO (lodgerlaw11_SpecLegal.f k a0 a1 a2 a3 a4 a5 a6 a7 a8 a9 a10 a11 a12 a13 a14 a15) (lodgerlaw11_SpecLegal.f (k + 1) a0 a1 a2 a3 a4 a5 a6 a7 a8 a9 a10 a11 a12 a13 a14 a15) := by
 intro a0 a1 a2 a3 a4 a5 a6 a7 a8 a9 a10 a11 a12 a13 a14 a15 k
 obtain ⟨ih0, ih1, ih2, ih3, ih4⟩ := lodgerlaw11_SpecLegal.mono_l k
 unfold lodgerlaw11_SpecLegal.f
 repeat' first
   | (with_reducible exact ih0 _ _ _ _ _ _ _ _ _ _ _ _ _ _ _ _ _)
   | (with_reducible exact ih1 _ _ _ _ _ _ _ _ _ _ _ _ _ _ _ _ _)
   | (with_reducible exact ih2 _ _ _ _ _ _ _ _ _ _ _ _ _ _ _ _ _ _)
   | (with_reducible exact ih3 _ _ _ _ _ _ _ _ _ _ _ _ _ _ _ _ _ _ _)
   | (with_reducible exact ih4 _ _ _ _ _ _ _ _ _ _ _ _ _ _ _ _ _)
   | (with_reducible exact lodgerlaw11_awake.mono _)
   | (with_reducible exact lodgerref03_Ints.mono _ _ _)
   | (with_reducible exact lodgerref05_Held.mono _ _ _ _ _ _ _ _ _)
   | (with_reducible exact lodgerref09_Has.mono _ _ _)
   | (with_reducible exact lodgerref09_May.mono _ _ _ _ _ _ _ _ _)
   | (with_reducible exact lodgerref09_With.mono _ _ _)
   | (with_reducible exact lodgerref11_Fits.mono _ _ _ _ _ _ _ _ _)
   | (with_reducible exact spec_Legal.mono _ _ _ _ _ _ _ _ _ _ _ _ _ _ _ _ _)
   | (with_reducible exact spec_Some.mono _ _ _ _ _ _ _ _ _ _ _ _)
   | (with_reducible exact LeO.refl _)
   | (with_reducible exact LeO.none _)
   | (with_reducible refine LeO.ite ?_ ?_)
   | (with_reducible refine LeO.bind ?_ (fun _ => ?_))
   | exact ih0 _ _ _ _ _ _ _ _ _ _ _ _ _ _ _ _ _
   | exact ih1 _ _ _ _ _ _ _ _ _ _ _ _ _ _ _ _ _
   | exact ih2 _ _ _ _ _ _ _ _ _ _ _ _ _ _ _ _ _ _
   | exact ih3 _ _ _ _ _ _ _ _ _ _ _ _ _ _ _ _ _ _ _
   | exact ih4 _ _ _ _ _ _ _ _ _ _ _ _ _ _ _ _ _
   | exact lodgerlaw11_awake.mono _
   | exact lodgerref03_Ints.mono _ _ _
   | exact lodgerref05_Held.mono _ _ _ _ _ _ _ _ _
   | exact lodgerref09_Has.mono _ _ _
   | exact lodgerref09_May.mono _ _ _ _ _ _ _ _ _
   | exact lodgerref09_With.mono _ _ _
   | exact lodgerref11_Fits.mono _ _ _ _ _ _ _ _ _
   | exact spec_Legal.mono _ _ _ _ _ _ _ _ _ _ _ _ _ _ _ _ _
   | exact spec_Some.mono _ _ _ _ _ _ _ _ _ _ _ _
   | exact LeO.none _
   | refine LeO.ite ?_ ?_
   | refine LeO.bind ?_ (fun _ => ?_)
def lodgerlaw11_SpecLegal.T18 : Bool × List (List Nat × List Nat) := (true, [([], []), ([0], [0]), ([1], [1]), ([2], [2]), ([3], [3]), ([4, 3], [3, 4]), ([5, 3], [3, 5]), ([3, 6], [3, 6]), ([7, 3], [7]), ([8], [8]), ([9, 8], [8, 9]), ([8], [8]), ([11, 8], [8, 11]), ([12, 8], [8, 12]), ([8], [8]), ([8], [8]), ([14, 15, 8], [8, 14, 15]), ([16, 8], [8, 16]), ([17, 8], [8, 17]), ([13, 18, 8], [8, 13, 18]), ([10, 19, 8], [8, 10, 19]), ([8, 20], [8, 20])])
def lodgerlaw11_SpecLegal.B18 : List Nat := [0, 1, 3, 7, 15, 31, 63, 127, 255, 511, 1023, 511, 2559, 6655, 511, 511, 49663, 115199, 246271, 522751, 1048575, 2097151]
theorem lodgerlaw11_SpecLegal.tab18 : rtab .any (opsOf Tryd.f4 18) = lodgerlaw11_SpecLegal.T18 := by kernel_rfl
theorem lodgerlaw11_SpecLegal.bits18 : waitsOk lodgerlaw11_SpecLegal.T18.2 lodgerlaw11_SpecLegal.B18 = true := by kernel_rfl
def lodgerlaw11_SpecLegal.T22 : Bool × List (List Nat × List Nat) := (true, [([], []), ([0], [0]), ([1], [1]), ([2], [2]), ([3], [3]), ([4, 3], [3, 4]), ([5, 3], [3, 5]), ([3, 6], [3, 6]), ([7, 3], [7]), ([8], [8]), ([9, 8, 8], [8, 9]), ([8, 10], [8, 10]), ([11, 10], [11]), ([12], [12]), ([13, 12], [12, 13]), ([12], [12]), ([12], [12]), ([16, 12], [12, 16]), ([12], [12]), ([18, 12], [12, 18]), ([19, 12], [12, 19]), ([17, 20, 12], [12, 17, 20]), ([21, 12], [12, 21]), ([15, 22, 12, 12], [12, 15, 22]), ([23, 12], [12, 23]), ([12], [12]), ([25, 12], [12, 25]), ([24, 26, 12], [12, 24, 26]), ([14, 27, 12], [12, 14, 27]), ([12, 28], [12, 28]), ([29, 23, 0, 1, 2, 3, 4, 5, 6, 7, 8, 9, 10, 11, 12, 13, 14, 15, 16, 17, 18, 19, 20, 21, 22, 23, 24, 25, 26, 27, 28, 29], [29])])
def lodgerlaw11_SpecLegal.B22 : List Nat := [0, 1, 3, 7, 15, 31, 63, 127, 255, 511, 1023, 2047, 4095, 8191, 16383, 8191, 8191, 73727, 8191, 270335, 794623, 2039807, 4136959, 8364031, 16752639, 8191, 33562623, 134193151, 268435455, 536870911, 1073741823]
theorem lodgerlaw11_SpecLegal.tab22 : rtab .any (opsOf Tryd.f4 22) = lodgerlaw11_SpecLegal.T22 := by kernel_rfl
theorem lodgerlaw11_SpecLegal.bits22 : waitsOk lodgerlaw11_SpecLegal.T22.2 lodgerlaw11_SpecLegal.B22 = true := by kernel_rfl
set_option maxHeartbeats 8000000 in
set_option maxRecDepth 100000 in
theorem lodgerlaw11_SpecLegal.calls (k : Nat) (a0_0 : Int) (a0_1 : Int) (A0_2 : Option Addr) (c0_2 : Nat) (l0_2 : List Int) (a0_3 : Int) (a0_4 : Int) (a0_5 : Int) (a0_6 : Int) (A1 : Option Addr) (c1 : Nat) (l1 : List Int) (a2_0 : Int) (a2_1 : Int) (A2_2 : Option Addr) (c2_2 : Nat) (l2_2 : List Int) (a3_0 : Int) (a3_1 : Int) (a3_2 : Bool) (A3_3 : Option Addr) (c3_3 : Nat) (l3_3 : List Int) (A3_4 : Option Addr) (c3_4 : Nat) (l3_4 : List Int) (r : Bool) (w : World) (hr0_2 : Kd.C (Kd.int .i64) w A0_2 l0_2.length l0_2) (hc0_2 : l0_2.length ≤ c0_2) (hr1 : Kd.C (Kd.int .i64) w A1 l1.length l1) (hc1 : l1.length ≤ c1) (hr2_2 : Kd.C (Kd.int .u32) w A2_2 l2_2.length l2_2) (hc2_2 : l2_2.length ≤ c2_2) (hr3_3 : Kd.C (Kd.int .u32) w A3_3 l3_3.length l3_3) (hc3_3 : l3_3.length ≤ c3_3) (hr3_4 : Kd.C (Kd.int .i64) w A3_4 l3_4.length l3_4) (hc3_4 : l3_4.length ≤ c3_4) (hG : Lg w) (hr_ : r = true) (h : lodgerlaw11_SpecLegal.f k a0_0 a0_1 l0_2 a0_3 a0_4 a0_5 a0_6 l1 a2_0 a2_1 l2_2 a3_0 a3_1 a3_2 l3_3 l3_4 = some r) :
  Calls Tryd.prog 4 #[.agg #[.int .u32 a0_0, .int .i64 a0_1, .slice A0_2 l0_2.length c0_2, .int .i64 a0_3, .int .i64 a0_4, .int .i64 a0_5, .int .i64 a0_6], .slice A1 l1.length c1, .agg #[.int .i64 a2_0, .int .u32 a2_1, .slice A2_2 l2_2.length c2_2], .agg #[.int .i64 a3_0, .int .u32 a3_1, .bool a3_2, .slice A3_3 l3_3.length c3_3, .slice A3_4 l3_4.length c3_4]] w fun e w' => e = .returned (.bool r) ∧ Below w.heap.size w w' := by
 have hu27 := Tryd.underlying27
 have hu30 := Tryd.underlying30
 have hu34 := Tryd.underlying34
 have HR0_2 := Aside0.mk hr0_2
 have HC0_2 := Aside0.mk hc0_2
 clear hr0_2 hc0_2
 have HR1 := Aside0.mk hr1
 have HC1 := Aside0.mk hc1
 clear hr1 hc1
 have HR2_2 := Aside0.mk hr2_2
 have HC2_2 := Aside0.mk hc2_2
 clear hr2_2 hc2_2
 have HR3_3 := Aside0.mk hr3_3
 have HC3_3 := Aside0.mk hc3_3
 clear hr3_3 hc3_3
 have HR3_4 := Aside0.mk hr3_4
 have HC3_4 := Aside0.mk hc3_4
 clear hr3_4 hc3_4
 have HB := Aside0.mk (Below.refl w.heap.size w)
 have HG := Aside0.mk hG
 clear hG
 replace hr_ := Aside0.mk hr_
 have H : ((lodgerlaw11_awake.f k).bind fun t542 => (if t542 = true then ((lodgerref11_Fits.f k a0_0 a0_1 l0_2 a0_3 a0_4 a0_5 a0_6 l1).bind fun t543 => (if t543 = true then ((lodgerref10_Few.f a2_0 a2_1 l2_2).bind fun t544 => (if t544 = true then ((lodgerref11_Few.f a3_0 a3_1 a3_2 l3_3 l3_4).bind fun t545 => (lodgerlaw11_SpecLegal.j0 k l1 (!t545) a0_0 a0_1 l0_2 a0_3 a0_4 a0_5 a0_6 a2_0 a2_1 l2_2 a3_0 a3_1 a3_2 l3_3 l3_4)) else (lodgerlaw11_SpecLegal.j0 k l1 true a0_0 a0_1 l0_2 a0_3 a0_4 a0_5 a0_6 a2_0 a2_1 l2_2 a3_0 a3_1 a3_2 l3_3 l3_4))) else (lodgerlaw11_SpecLegal.j0 k l1 true a0_0 a0_1 l0_2 a0_3 a0_4 a0_5 a0_6 a2_0 a2_1 l2_2 a3_0 a3_1 a3_2 l3_3 l3_4))) else (lodgerlaw11_SpecLegal.j0 k l1 true a0_0 a0_1 l0_2 a0_3 a0_4 a0_5 a0_6 a2_0 a2_1 l2_2 a3_0 a3_1 a3_2 l3_3 l3_4))) = some r := h
 clear h
 have HC5 := Aside0.mk H
 clear H
 go_enter Tryd.func4, Tryd.ntmps4
 go_upto_region 1 with (first | ((with_reducible refine gate_dst (N := 4) rfl ?_); (try (refine gate_guard (by rfl) ?_; dsimp only)); refine box_event ?hg (N := 4) ?hd (cs := #[.int .u32 a0_0, .int .i64 a0_1, .slice A0_2 l0_2.length c0_2, .int .i64 a0_3, .int .i64 a0_4, .int .i64 a0_5, .int .i64 a0_6]) (t := 27) ?hr ?_; (case hd => rfl); (case hg => rfl); (case hr => first | (go_simp; done) | (go_simp; rfl)); intro gb539 hg w6 hbox hb; have n1_ := Aside0.mk (hbox); have n2_ := gG_ (w := w) hg HB; have n3_ := gG_ (w := w) hg HB; have BK539 := n1_; have GW539 := n2_; have GE539 := n3_; replace HB := hS_ HB hb; clear n1_ n2_ n3_; clear hb hbox hg) | ((with_reducible refine gate_dst (N := 6) rfl ?_); (try (refine gate_guard (by rfl) ?_; dsimp only)); refine box_event ?hg (N := 6) ?hd (cs := #[.int .i64 a2_0, .int .u32 a2_1, .slice A2_2 l2_2.length c2_2]) (t := 30) ?hr ?_; (case hd => rfl); (case hg => rfl); (case hr => first | (go_simp; done) | (go_simp; rfl)); intro gb540 hg w7 hbox hb; have n1_ := Aside0.mk (below_step (hB_ HB) hb); have n2_ := Aside0.mk (hbox); have n3_ := gG_ (w := w) hg HB; have n4_ := gG_ (w := w) hg HB; have n5_ := nL_ hg BK539; have n6_ := nG_ hg BK539; clear HB; have HB := n1_; have BK540 := n2_; have GW540 := n3_; have GE540 := n4_; have NB539_540 := n5_; have NB540_539 := n6_; replace BK539 := bB_ BK539 hb; clear n1_ n2_ n3_ n4_ n5_ n6_; clear hb hbox hg) | ((with_reducible refine gate_dst (N := 7) rfl ?_); (try (refine gate_guard (by rfl) ?_; dsimp only)); refine box_event ?hg (N := 7) ?hd (cs := #[.int .i64 a3_0, .int .u32 a3_1, .bool a3_2, .slice A3_3 l3_3.length c3_3, .slice A3_4 l3_4.length c3_4]) (t := 34) ?hr ?_; (case hd => rfl); (case hg => rfl); (case hr => first | (go_simp; done) | (go_simp; rfl)); intro gb541 hg w8 hbox hb; have n1_ := bB_ BK540 hb; have n3_ := Aside0.mk (hbox); have n4_ := gG_ (w := w) hg HB; have n5_ := gG_ (w := w) hg HB; have n6_ := nL_ hg BK539; have n7_ := nG_ hg BK539; have n8_ := nL_ hg BK540; have n9_ := nG_ hg BK540; clear BK540; have BK540 := n1_; have BK541 := n3_; have GW541 := n4_; have GE541 := n5_; have NB539_541 := n6_; have NB541_539 := n7_; have NB540_541 := n8_; have NB541_540 := n9_; replace BK539 := bB_ BK539 hb; replace HB := hS_ HB hb; clear n1_ n3_ n4_ n5_ n6_ n7_ n8_ n9_; clear hb hbox hg))
 (try simp only [Act.put, List.setIfInBounds_toArray, List.set_cons_zero, List.set_cons_succ])
 go_cut [34] (fun v34 wc => ∃ (kq : Nat) (x34_4 : Bool), v34 = .bool x34_4 ∧ Aside0 (lodgerlaw11_SpecLegal.j0 kq l1 x34_4 a0_0 a0_1 l0_2 a0_3 a0_4 a0_5 a0_6 a2_0 a2_1 l2_2 a3_0 a3_1 a3_2 l3_3 l3_4 = some r) ∧ Aside0 (kq ≤ k) ∧ Aside0 (wc.heap[gb539]? = some (.cells #[.int .u32 a0_0, .int .i64 a0_1, (.slice A0_2 l0_2.length c0_2), .int .i64 a0_3, .int .i64 a0_4, .int .i64 a0_5, .int .i64 a0_6] 27 (0, 0))) ∧ Aside0 (wc.heap[gb540]? = some (.cells #[.int .i64 a2_0, .int .u32 a2_1, (.slice A2_2 l2_2.length c2_2)] 30 (0, 0))) ∧ Aside0 (wc.heap[gb541]? = some (.cells #[.int .i64 a3_0, .int .u32 a3_1, .bool a3_2, (.slice A3_3 l3_3.length c3_3), (.slice A3_4 l3_4.length c3_4)] 34 (0, 0))) ∧ Aside0 (Below w.heap.size w wc))
 case first =>
  have H := HC5.out; clear HC5; replace H := Option.bind_eq_some_iff.mp H; obtain ⟨t542, A90, H⟩ := H
  replace H : (if t542 = true then ((lodgerref11_Fits.f k a0_0 a0_1 l0_2 a0_3 a0_4 a0_5 a0_6 l1).bind fun t543 => (if t543 = true then ((lodgerref10_Few.f a2_0 a2_1 l2_2).bind fun t544 => (if t544 = true then ((lodgerref11_Few.f a3_0 a3_1 a3_2 l3_3 l3_4).bind fun t545 => (lodgerlaw11_SpecLegal.j0 k l1 (!t545) a0_0 a0_1 l0_2 a0_3 a0_4 a0_5 a0_6 a2_0 a2_1 l2_2 a3_0 a3_1 a3_2 l3_3 l3_4)) else (lodgerlaw11_SpecLegal.j0 k l1 true a0_0 a0_1 l0_2 a0_3 a0_4 a0_5 a0_6 a2_0 a2_1 l2_2 a3_0 a3_1 a3_2 l3_3 l3_4))) else (lodgerlaw11_SpecLegal.j0 k l1 true a0_0 a0_1 l0_2 a0_3 a0_4 a0_5 a0_6 a2_0 a2_1 l2_2 a3_0 a3_1 a3_2 l3_3 l3_4))) else (lodgerlaw11_SpecLegal.j0 k l1 true a0_0 a0_1 l0_2 a0_3 a0_4 a0_5 a0_6 a2_0 a2_1 l2_2 a3_0 a3_1 a3_2 l3_3 l3_4)) = some r := H
  have A9 := Aside0.mk A90; clear A90
  by_cases c10 : t542 = true
  ·subst c10
   have H1 : ((lodgerref11_Fits.f k a0_0 a0_1 l0_2 a0_3 a0_4 a0_5 a0_6 l1).bind fun t543 => (if t543 = true then ((lodgerref10_Few.f a2_0 a2_1 l2_2).bind fun t544 => (if t544 = true then ((lodgerref11_Few.f a3_0 a3_1 a3_2 l3_3 l3_4).bind fun t545 => (lodgerlaw11_SpecLegal.j0 k l1 (!t545) a0_0 a0_1 l0_2 a0_3 a0_4 a0_5 a0_6 a2_0 a2_1 l2_2 a3_0 a3_1 a3_2 l3_3 l3_4)) else (lodgerlaw11_SpecLegal.j0 k l1 true a0_0 a0_1 l0_2 a0_3 a0_4 a0_5 a0_6 a2_0 a2_1 l2_2 a3_0 a3_1 a3_2 l3_3 l3_4))) else (lodgerlaw11_SpecLegal.j0 k l1 true a0_0 a0_1 l0_2 a0_3 a0_4 a0_5 a0_6 a2_0 a2_1 l2_2 a3_0 a3_1 a3_2 l3_3 l3_4))) = some r := by rw [if_pos rfl] at H; exact H
   clear H; have H := H1; clear H1; replace H := Option.bind_eq_some_iff.mp H; obtain ⟨t543, A110, H⟩ := H
   replace H : (if t543 = true then ((lodgerref10_Few.f a2_0 a2_1 l2_2).bind fun t544 => (if t544 = true then ((lodgerref11_Few.f a3_0 a3_1 a3_2 l3_3 l3_4).bind fun t545 => (lodgerlaw11_SpecLegal.j0 k l1 (!t545) a0_0 a0_1 l0_2 a0_3 a0_4 a0_5 a0_6 a2_0 a2_1 l2_2 a3_0 a3_1 a3_2 l3_3 l3_4)) else (lodgerlaw11_SpecLegal.j0 k l1 true a0_0 a0_1 l0_2 a0_3 a0_4 a0_5 a0_6 a2_0 a2_1 l2_2 a3_0 a3_1 a3_2 l3_3 l3_4))) else (lodgerlaw11_SpecLegal.j0 k l1 true a0_0 a0_1 l0_2 a0_3 a0_4 a0_5 a0_6 a2_0 a2_1 l2_2 a3_0 a3_1 a3_2 l3_3 l3_4)) = some r := H
   have A11 := Aside0.mk A110; clear A110
   by_cases c12 : t543 = true
   ·as_aux_lemma =>
    subst c12
    have H1 : ((lodgerref10_Few.f a2_0 a2_1 l2_2).bind fun t544 => (if t544 = true then ((lodgerref11_Few.f a3_0 a3_1 a3_2 l3_3 l3_4).bind fun t545 => (lodgerlaw11_SpecLegal.j0 k l1 (!t545) a0_0 a0_1 l0_2 a0_3 a0_4 a0_5 a0_6 a2_0 a2_1 l2_2 a3_0 a3_1 a3_2 l3_3 l3_4)) else (lodgerlaw11_SpecLegal.j0 k l1 true a0_0 a0_1 l0_2 a0_3 a0_4 a0_5 a0_6 a2_0 a2_1 l2_2 a3_0 a3_1 a3_2 l3_3 l3_4))) = some r := by rw [if_pos rfl] at H; exact H
    clear H; have H := H1; clear H1; replace H := Option.bind_eq_some_iff.mp H; obtain ⟨t544, A130, H⟩ := H
    replace H : (if t544 = true then ((lodgerref11_Few.f a3_0 a3_1 a3_2 l3_3 l3_4).bind fun t545 => (lodgerlaw11_SpecLegal.j0 k l1 (!t545) a0_0 a0_1 l0_2 a0_3 a0_4 a0_5 a0_6 a2_0 a2_1 l2_2 a3_0 a3_1 a3_2 l3_3 l3_4)) else (lodgerlaw11_SpecLegal.j0 k l1 true a0_0 a0_1 l0_2 a0_3 a0_4 a0_5 a0_6 a2_0 a2_1 l2_2 a3_0 a3_1 a3_2 l3_3 l3_4)) = some r := H
    have A13 := Aside0.mk A130; clear A130
    by_cases c14 : t544 = true
    ·subst c14
     have H1 : ((lodgerref11_Few.f a3_0 a3_1 a3_2 l3_3 l3_4).bind fun t545 => (lodgerlaw11_SpecLegal.j0 k l1 (!t545) a0_0 a0_1 l0_2 a0_3 a0_4 a0_5 a0_6 a2_0 a2_1 l2_2 a3_0 a3_1 a3_2 l3_3 l3_4)) = some r := by rw [if_pos rfl] at H; exact H
     clear H; have H := H1; clear H1; replace H := Option.bind_eq_some_iff.mp H; obtain ⟨t545, A150, H⟩ := H
     replace H : (lodgerlaw11_SpecLegal.j0 k l1 (!t545) a0_0 a0_1 l0_2 a0_3 a0_4 a0_5 a0_6 a2_0 a2_1 l2_2 a3_0 a3_1 a3_2 l3_3 l3_4) = some r := H
     have A15 := Aside0.mk A150; clear A150
     have H' := Aside0.mk H
     clear H
     go_wp2_with (first | ((with_reducible refine gate_callee (f := 9) rfl ?_); refine goesL_ (some 17) rfl rfl Tryd.func9 (by kernel_rfl) rfl #[] rfl am_ ?_; (with_reducible refine (lodgerlaw11_awake.calls k  true _ ?side1 A9.out).mono ?_); (case side1 => exact Lg_below HG.out (hB_ HB)); rintro e w16 ⟨rfl, hb⟩; refine ⟨_, rfl, ?_⟩; have n1_ := bB_ BK540 hb; have n3_ := Aside0.mk (below_step (hB_ HB) hb); clear BK540; clear HB; have BK540 := n1_; have HB := n3_; replace BK539 := bB_ BK539 hb; replace BK541 := bB_ BK541 hb; clear n1_ n3_; (try clear hb); (try clear hb2); (try clear hk); (try clear hi); have hnb17 := NB539_540.out; have hnc17 := NB540_539.out; have hnb18 := NB539_541.out; have hnc18 := NB541_539.out; obtain ⟨hcz19_0, hcz19_1, hcz19_2, hcz19_3, hcz19_4, hcz19_5, hcz19_6, hfz19_0, hfz19_1, hfz19_2, hfz19_3, hfz19_4, hfz19_5, hfz19_6⟩ := cz7_ (w := w16) BK539) | (go_at_call 10; (with_reducible refine (lodgerref11_Fits.calls k a0_0 a0_1 _ _ l0_2 a0_3 a0_4 a0_5 a0_6 _ _ l1 true _ ?side1 ?side2 ?side3 ?side4 A11.out).mono ?_); (case side1 => exact cC_ HR0_2 HB); (case side2 => exact HC0_2.out); (case side3 => exact cC_ HR1 HB); (case side4 => exact HC1.out); rintro e w20 ⟨rfl, hb⟩; have n1_ := bB_ BK540 hb; have n3_ := Aside0.mk (below_step (hB_ HB) hb); clear BK540; clear HB; have BK540 := n1_; have HB := n3_; replace BK539 := bB_ BK539 hb; replace BK541 := bB_ BK541 hb; clear n1_ n3_; (try clear hb); (try clear hb2); (try clear hk); (try clear hi); have hnb21 := NB540_541.out; have hnc21 := NB541_540.out; obtain ⟨hcz22_0, hcz22_1, hcz22_2, hfz22_0, hfz22_1, hfz22_2⟩ := cz3_ (w := w20) BK540) | (go_at_call 11; (with_reducible refine (lodgerref10_Few.calls a2_0 a2_1 _ _ l2_2 true _ ?side1 ?side2 A13.out).mono ?_); (case side1 => exact cC_ HR2_2 HB); (case side2 => exact HC2_2.out); rintro e w23 ⟨rfl, hb⟩; have n1_ := bB_ BK540 hb; have n3_ := Aside0.mk (below_step (hB_ HB) hb); clear BK540; clear HB; have BK540 := n1_; have HB := n3_; replace BK539 := bB_ BK539 hb; replace BK541 := bB_ BK541 hb; clear n1_ n3_; (try clear hb); (try clear hb2); (try clear hk); (try clear hi); obtain ⟨hcz24_0, hcz24_1, hcz24_2, hcz24_3, hcz24_4, hfz24_0, hfz24_1, hfz24_2, hfz24_3, hfz24_4⟩ := cz5_ (w := w23) BK541) | (go_at_call 12; (with_reducible refine (lodgerref11_Few.calls a3_0 a3_1 a3_2 _ _ l3_3 _ _ l3_4 t545 _ ?side1 ?side2 ?side3 ?side4 A15.out).mono ?_); (case side1 => exact cC_ HR3_3 HB); (case side2 => exact HC3_3.out); (case side3 => exact cC_ HR3_4 HB); (case side4 => exact HC3_4.out); rintro e w25 ⟨rfl, hb⟩; have n1_ := bB_ BK540 hb; have n3_ := Aside0.mk (below_step (hB_ HB) hb); clear BK540; clear HB; have BK540 := n1_; have HB := n3_; replace BK539 := bB_ BK539 hb; replace BK541 := bB_ BK541 hb; clear n1_ n3_; (try clear hb); (try clear hb2); (try clear hk); (try clear hi)))
     go_meet
     case rel => exact ⟨_, (!t545), rs_, H', ⟨by first | omega | exact Nat.le_refl _⟩, ⟨bk_ BK539⟩, ⟨bk_ BK540⟩, ⟨bk_ BK541⟩, ⟨hB_ HB⟩⟩
    ·replace c14 := Bool.eq_false_iff.mpr c14
     subst c14
     have H1 : (lodgerlaw11_SpecLegal.j0 k l1 true a0_0 a0_1 l0_2 a0_3 a0_4 a0_5 a0_6 a2_0 a2_1 l2_2 a3_0 a3_1 a3_2 l3_3 l3_4) = some r := by rw [if_neg (show ¬ (false = true) by decide)] at H; exact H
     clear H; have H := H1; clear H1
     have H' := Aside0.mk H
     clear H
     go_wp2_with (first | ((with_reducible refine gate_callee (f := 9) rfl ?_); refine goesL_ (some 17) rfl rfl Tryd.func9 (by kernel_rfl) rfl #[] rfl am_ ?_; (with_reducible refine (lodgerlaw11_awake.calls k  true _ ?side1 A9.out).mono ?_); (case side1 => exact Lg_below HG.out (hB_ HB)); rintro e w26 ⟨rfl, hb⟩; refine ⟨_, rfl, ?_⟩; have n1_ := bB_ BK540 hb; have n3_ := Aside0.mk (below_step (hB_ HB) hb); clear BK540; clear HB; have BK540 := n1_; have HB := n3_; replace BK539 := bB_ BK539 hb; replace BK541 := bB_ BK541 hb; clear n1_ n3_; (try clear hb); (try clear hb2); (try clear hk); (try clear hi); have hnb27 := NB539_540.out; have hnc27 := NB540_539.out; have hnb28 := NB539_541.out; have hnc28 := NB541_539.out; obtain ⟨hcz29_0, hcz29_1, hcz29_2, hcz29_3, hcz29_4, hcz29_5, hcz29_6, hfz29_0, hfz29_1, hfz29_2, hfz29_3, hfz29_4, hfz29_5, hfz29_6⟩ := cz7_ (w := w26) BK539) | (go_at_call 10; (with_reducible refine (lodgerref11_Fits.calls k a0_0 a0_1 _ _ l0_2 a0_3 a0_4 a0_5 a0_6 _ _ l1 true _ ?side1 ?side2 ?side3 ?side4 A11.out).mono ?_); (case side1 => exact cC_ HR0_2 HB); (case side2 => exact HC0_2.out); (case side3 => exact cC_ HR1 HB); (case side4 => exact HC1.out); rintro e w30 ⟨rfl, hb⟩; have n1_ := bB_ BK540 hb; have n3_ := Aside0.mk (below_step (hB_ HB) hb); clear BK540; clear HB; have BK540 := n1_; have HB := n3_; replace BK539 := bB_ BK539 hb; replace BK541 := bB_ BK541 hb; clear n1_ n3_; (try clear hb); (try clear hb2); (try clear hk); (try clear hi); have hnb31 := NB540_541.out; have hnc31 := NB541_540.out; obtain ⟨hcz32_0, hcz32_1, hcz32_2, hfz32_0, hfz32_1, hfz32_2⟩ := cz3_ (w := w30) BK540) | (go_at_call 11; (with_reducible refine (lodgerref10_Few.calls a2_0 a2_1 _ _ l2_2 false _ ?side1 ?side2 A13.out).mono ?_); (case side1 => exact cC_ HR2_2 HB); (case side2 => exact HC2_2.out); rintro e w33 ⟨rfl, hb⟩; have n1_ := bB_ BK540 hb; have n3_ := Aside0.mk (below_step (hB_ HB) hb); clear BK540; clear HB; have BK540 := n1_; have HB := n3_; replace BK539 := bB_ BK539 hb; replace BK541 := bB_ BK541 hb; clear n1_ n3_; (try clear hb); (try clear hb2); (try clear hk); (try clear hi)))
     go_meet
     case rel => exact ⟨_, (true), rs_, H', ⟨by first | omega | exact Nat.le_refl _⟩, ⟨bk_ BK539⟩, ⟨bk_ BK540⟩, ⟨bk_ BK541⟩, ⟨hB_ HB⟩⟩
   ·replace c12 := Bool.eq_false_iff.mpr c12
    subst c12
    have H1 : (lodgerlaw11_SpecLegal.j0 k l1 true a0_0 a0_1 l0_2 a0_3 a0_4 a0_5 a0_6 a2_0 a2_1 l2_2 a3_0 a3_1 a3_2 l3_3 l3_4) = some r := by rw [if_neg (show ¬ (false = true) by decide)] at H; exact H
    clear H; have H := H1; clear H1
    have H' := Aside0.mk H
    clear H
    go_wp2_with (first | ((with_reducible refine gate_callee (f := 9) rfl ?_); refine goesL_ (some 17) rfl rfl Tryd.func9 (by kernel_rfl) rfl #[] rfl am_ ?_; (with_reducible refine (lodgerlaw11_awake.calls k  true _ ?side1 A9.out).mono ?_); (case side1 => exact Lg_below HG.out (hB_ HB)); rintro e w34 ⟨rfl, hb⟩; refine ⟨_, rfl, ?_⟩; have n1_ := bB_ BK540 hb; have n3_ := Aside0.mk (below_step (hB_ HB) hb); clear BK540; clear HB; have BK540 := n1_; have HB := n3_; replace BK539 := bB_ BK539 hb; replace BK541 := bB_ BK541 hb; clear n1_ n3_; (try clear hb); (try clear hb2); (try clear hk); (try clear hi); have hnb35 := NB539_540.out; have hnc35 := NB540_539.out; have hnb36 := NB539_541.out; have hnc36 := NB541_539.out; obtain ⟨hcz37_0, hcz37_1, hcz37_2, hcz37_3, hcz37_4, hcz37_5, hcz37_6, hfz37_0, hfz37_1, hfz37_2, hfz37_3, hfz37_4, hfz37_5, hfz37_6⟩ := cz7_ (w := w34) BK539) | (go_at_call 10; (with_reducible refine (lodgerref11_Fits.calls k a0_0 a0_1 _ _ l0_2 a0_3 a0_4 a0_5 a0_6 _ _ l1 false _ ?side1 ?side2 ?side3 ?side4 A11.out).mono ?_); (case side1 => exact cC_ HR0_2 HB); (case side2 => exact HC0_2.out); (case side3 => exact cC_ HR1 HB); (case side4 => exact HC1.out); rintro e w38 ⟨rfl, hb⟩; have n1_ := bB_ BK540 hb; have n3_ := Aside0.mk (below_step (hB_ HB) hb); clear BK540; clear HB; have BK540 := n1_; have HB := n3_; replace BK539 := bB_ BK539 hb; replace BK541 := bB_ BK541 hb; clear n1_ n3_; (try clear hb); (try clear hb2); (try clear hk); (try clear hi)))
    go_meet
    case rel => exact ⟨_, (true), rs_, H', ⟨by first | omega | exact Nat.le_refl _⟩, ⟨bk_ BK539⟩, ⟨bk_ BK540⟩, ⟨bk_ BK541⟩, ⟨hB_ HB⟩⟩
  ·replace c10 := Bool.eq_false_iff.mpr c10
   subst c10
   have H1 : (lodgerlaw11_SpecLegal.j0 k l1 true a0_0 a0_1 l0_2 a0_3 a0_4 a0_5 a0_6 a2_0 a2_1 l2_2 a3_0 a3_1 a3_2 l3_3 l3_4) = some r := by rw [if_neg (show ¬ (false = true) by decide)] at H; exact H
   clear H; have H := H1; clear H1
   have H' := Aside0.mk H
   clear H
   go_wp2_with (first | ((with_reducible refine gate_callee (f := 9) rfl ?_); refine goesL_ (some 17) rfl rfl Tryd.func9 (by kernel_rfl) rfl #[] rfl am_ ?_; (with_reducible refine (lodgerlaw11_awake.calls k  false _ ?side1 A9.out).mono ?_); (case side1 => exact Lg_below HG.out (hB_ HB)); rintro e w39 ⟨rfl, hb⟩; refine ⟨_, rfl, ?_⟩; have n1_ := bB_ BK540 hb; have n3_ := Aside0.mk (below_step (hB_ HB) hb); clear BK540; clear HB; have BK540 := n1_; have HB := n3_; replace BK539 := bB_ BK539 hb; replace BK541 := bB_ BK541 hb; clear n1_ n3_; (try clear hb); (try clear hb2); (try clear hk); (try clear hi)))
   go_meet
   case rel => exact ⟨_, (true), rs_, H', ⟨by first | omega | exact Nat.le_refl _⟩, ⟨bk_ BK539⟩, ⟨bk_ BK540⟩, ⟨bk_ BK541⟩, ⟨hB_ HB⟩⟩
 case rest =>
  clear HC5
  try clear c1
  try clear c2
  try clear p2
  try clear c3
  try clear c4
  try clear c9
  try clear c10
  try clear c12
  try clear c14
  try clear c17
  try clear c18
  try clear c21
  try clear c27
  try clear c28
  try clear c31
  try clear c35
  try clear c36
  try clear hcz19_0 hcz19_1 hcz19_2 hcz19_3 hcz19_4 hcz19_5 hcz19_6
  try clear hcz22_0 hcz22_1 hcz22_2
  try clear hcz24_0 hcz24_1 hcz24_2 hcz24_3 hcz24_4
  try clear hcz29_0 hcz29_1 hcz29_2 hcz29_3 hcz29_4 hcz29_5 hcz29_6
  try clear hcz32_0 hcz32_1 hcz32_2
  try clear hcz37_0 hcz37_1 hcz37_2 hcz37_3 hcz37_4 hcz37_5 hcz37_6
  try clear hfz19_0 hfz19_1 hfz19_2 hfz19_3 hfz19_4 hfz19_5 hfz19_6
  try clear hfz22_0 hfz22_1 hfz22_2
  try clear hfz24_0 hfz24_1 hfz24_2 hfz24_3 hfz24_4
  try clear hfz29_0 hfz29_1 hfz29_2 hfz29_3 hfz29_4 hfz29_5 hfz29_6
  try clear hfz32_0 hfz32_1 hfz32_2
  try clear hfz37_0 hfz37_1 hfz37_2 hfz37_3 hfz37_4 hfz37_5 hfz37_6
  obtain ⟨kq, x34_4, rfl, HA, HJ4, BK539, BK540, BK541, HB⟩ := hcut
  cases kq with
  | zero => exact absurd HA.out (by simp [lodgerlaw11_SpecLegal.j0])
  | succ kj4 =>
   have H := HA.out; clear HA; simp only [lodgerlaw11_SpecLegal.j0] at H
   by_cases c40 : x34_4 = true
   ·subst c40
    have H1 : ((lodgerlaw11_awake.f kj4).bind fun t546 => (some t546)) = some r := by rw [if_pos rfl] at H; exact H
    clear H; have H := H1; clear H1; replace H := Option.bind_eq_some_iff.mp H; obtain ⟨t546, A410, H⟩ := H
    replace H : (some t546) = some r := H
    have A41 := Aside0.mk A410; clear A410
    first | (exfalso; rw [hr_.out] at H; exact absurd (Option.some.inj H) (by decide)) | (try clear hr_)
    all_goals
     obtain rfl := Option.some.inj H
     go_wp2_with (first | ((with_reducible refine gate_callee (f := 9) rfl ?_); refine goesL_ (some 35) rfl rfl Tryd.func9 (by kernel_rfl) rfl #[] rfl am_ ?_; (with_reducible refine (lodgerlaw11_awake.calls kj4  t546 _ ?side1 A41.out).mono ?_); (case side1 => exact Lg_below HG.out (hB_ HB)); rintro e w42 ⟨rfl, hb⟩; refine ⟨_, rfl, ?_⟩; have n1_ := bB_ BK540 hb; have n3_ := Aside0.mk (below_step (hB_ HB) hb); clear BK540; clear HB; have BK540 := n1_; have HB := n3_; replace BK539 := bB_ BK539 hb; replace BK541 := bB_ BK541 hb; clear n1_ n3_; (try clear hb); (try clear hb2); (try clear hk); (try clear hi)))
     go_ret
     exact ⟨er_, hB_ HB⟩
   ·as_aux_lemma =>
    replace c40 := Bool.eq_false_iff.mpr c40
    subst c40
    have H1 : ((spec_Some.f kj4 a0_0 a0_1 l0_2 a0_3 a0_4 a0_5 a0_6 l1 a2_0 a2_1 l2_2).bind fun bt547 => ((spec_Legal.f kj4 a0_0 a0_1 l0_2 a0_3 a0_4 a0_5 a0_6 l1 a2_0 a2_1 l2_2 bt547.2.1 bt547.2.2.1 bt547.2.2.2.1 bt547.2.2.2.2.1 bt547.2.2.2.2.2).bind fun bt560 => (if bt560.2 = true then ((lodgerref03_Ints.f kj4 bt547.1 bt560.1).bind fun t564 => (if t564 = true then ((lodgerref09_May.f kj4 a0_0 a0_1 l0_2 a0_3 a0_4 a0_5 a0_6 bt547.1).bind fun t565 => (if t565 = true then (if bt547.2.1 = 10 then (lodgerlaw11_SpecLegal.j1 kj4 l1 true a0_0 a0_1 l0_2 a0_3 a0_4 a0_5 a0_6 a2_0 a2_1 l2_2 a3_0 a3_1 a3_2 l3_3 l3_4) else (if bt547.2.1 = 12 then (lodgerlaw11_SpecLegal.j1 kj4 l1 true a0_0 a0_1 l0_2 a0_3 a0_4 a0_5 a0_6 a2_0 a2_1 l2_2 a3_0 a3_1 a3_2 l3_3 l3_4) else (lodgerlaw11_SpecLegal.j1 kj4 l1 (bt547.2.1 == 11) a0_0 a0_1 l0_2 a0_3 a0_4 a0_5 a0_6 a2_0 a2_1 l2_2 a3_0 a3_1 a3_2 l3_3 l3_4))) else (lodgerlaw11_SpecLegal.j1 kj4 l1 true a0_0 a0_1 l0_2 a0_3 a0_4 a0_5 a0_6 a2_0 a2_1 l2_2 a3_0 a3_1 a3_2 l3_3 l3_4))) else (lodgerlaw11_SpecLegal.j1 kj4 l1 true a0_0 a0_1 l0_2 a0_3 a0_4 a0_5 a0_6 a2_0 a2_1 l2_2 a3_0 a3_1 a3_2 l3_3 l3_4))) else (lodgerlaw11_SpecLegal.j1 kj4 l1 true a0_0 a0_1 l0_2 a0_3 a0_4 a0_5 a0_6 a2_0 a2_1 l2_2 a3_0 a3_1 a3_2 l3_3 l3_4)))) = some r := by rw [if_neg (show ¬ (false = true) by decide)] at H; exact H
    clear H; have H := H1; clear H1; replace H := Option.bind_eq_some_iff.mp H; obtain ⟨⟨t547, t550, t551, t552, t553, t556⟩, A430, H⟩ := H
    replace H : ((spec_Legal.f kj4 a0_0 a0_1 l0_2 a0_3 a0_4 a0_5 a0_6 l1 a2_0 a2_1 l2_2 t550 t551 t552 t553 t556).bind fun bt560 => (if bt560.2 = true then ((lodgerref03_Ints.f kj4 t547 bt560.1).bind fun t564 => (if t564 = true then ((lodgerref09_May.f kj4 a0_0 a0_1 l0_2 a0_3 a0_4 a0_5 a0_6 t547).bind fun t565 => (if t565 = true then (if t550 = 10 then (lodgerlaw11_SpecLegal.j1 kj4 l1 true a0_0 a0_1 l0_2 a0_3 a0_4 a0_5 a0_6 a2_0 a2_1 l2_2 a3_0 a3_1 a3_2 l3_3 l3_4) else (if t550 = 12 then (lodgerlaw11_SpecLegal.j1 kj4 l1 true a0_0 a0_1 l0_2 a0_3 a0_4 a0_5 a0_6 a2_0 a2_1 l2_2 a3_0 a3_1 a3_2 l3_3 l3_4) else (lodgerlaw11_SpecLegal.j1 kj4 l1 (t550 == 11) a0_0 a0_1 l0_2 a0_3 a0_4 a0_5 a0_6 a2_0 a2_1 l2_2 a3_0 a3_1 a3_2 l3_3 l3_4))) else (lodgerlaw11_SpecLegal.j1 kj4 l1 true a0_0 a0_1 l0_2 a0_3 a0_4 a0_5 a0_6 a2_0 a2_1 l2_2 a3_0 a3_1 a3_2 l3_3 l3_4))) else (lodgerlaw11_SpecLegal.j1 kj4 l1 true a0_0 a0_1 l0_2 a0_3 a0_4 a0_5 a0_6 a2_0 a2_1 l2_2 a3_0 a3_1 a3_2 l3_3 l3_4))) else (lodgerlaw11_SpecLegal.j1 kj4 l1 true a0_0 a0_1 l0_2 a0_3 a0_4 a0_5 a0_6 a2_0 a2_1 l2_2 a3_0 a3_1 a3_2 l3_3 l3_4))) = some r := H
    have A43 := Aside0.mk A430; clear A430; replace H := Option.bind_eq_some_iff.mp H; obtain ⟨⟨t560, t563⟩, A440, H⟩ := H
    replace H : (if t563 = true then ((lodgerref03_Ints.f kj4 t547 t560).bind fun t564 => (if t564 = true then ((lodgerref09_May.f kj4 a0_0 a0_1 l0_2 a0_3 a0_4 a0_5 a0_6 t547).bind fun t565 => (if t565 = true then (if t550 = 10 then (lodgerlaw11_SpecLegal.j1 kj4 l1 true a0_0 a0_1 l0_2 a0_3 a0_4 a0_5 a0_6 a2_0 a2_1 l2_2 a3_0 a3_1 a3_2 l3_3 l3_4) else (if t550 = 12 then (lodgerlaw11_SpecLegal.j1 kj4 l1 true a0_0 a0_1 l0_2 a0_3 a0_4 a0_5 a0_6 a2_0 a2_1 l2_2 a3_0 a3_1 a3_2 l3_3 l3_4) else (lodgerlaw11_SpecLegal.j1 kj4 l1 (t550 == 11) a0_0 a0_1 l0_2 a0_3 a0_4 a0_5 a0_6 a2_0 a2_1 l2_2 a3_0 a3_1 a3_2 l3_3 l3_4))) else (lodgerlaw11_SpecLegal.j1 kj4 l1 true a0_0 a0_1 l0_2 a0_3 a0_4 a0_5 a0_6 a2_0 a2_1 l2_2 a3_0 a3_1 a3_2 l3_3 l3_4))) else (lodgerlaw11_SpecLegal.j1 kj4 l1 true a0_0 a0_1 l0_2 a0_3 a0_4 a0_5 a0_6 a2_0 a2_1 l2_2 a3_0 a3_1 a3_2 l3_3 l3_4))) else (lodgerlaw11_SpecLegal.j1 kj4 l1 true a0_0 a0_1 l0_2 a0_3 a0_4 a0_5 a0_6 a2_0 a2_1 l2_2 a3_0 a3_1 a3_2 l3_3 l3_4)) = some r := H
    have A44 := Aside0.mk A440; clear A440; have HC45 := Aside0.mk H; clear H; have hnb46 := NB539_540.out; have hnc46 := NB540_539.out; have hnb47 := NB539_541.out; have hnc47 := NB541_539.out; obtain ⟨hcz48_0, hcz48_1, hcz48_2, hcz48_3, hcz48_4, hcz48_5, hcz48_6, hfz48_0, hfz48_1, hfz48_2, hfz48_3, hfz48_4, hfz48_5, hfz48_6⟩ := cz7_ (w := wc) BK539; have hnb49 := NB540_541.out; have hnc49 := NB541_540.out; obtain ⟨hcz50_0, hcz50_1, hcz50_2, hfz50_0, hfz50_1, hfz50_2⟩ := cz3_ (w := wc) BK540
    go_upto_region 5 with (first | ((with_reducible refine gate_callee (f := 15) rfl ?_); refine goesL_ (some 40) rfl rfl Tryd.func15 (by kernel_rfl) rfl #[.agg #[.int .u32 a0_0, .int .i64 a0_1, .slice A0_2 l0_2.length c0_2, .int .i64 a0_3, .int .i64 a0_4, .int .i64 a0_5, .int .i64 a0_6], .slice A1 l1.length c1, .agg #[.int .i64 a2_0, .int .u32 a2_1, .slice A2_2 l2_2.length c2_2]] rfl am_ ?_; (with_reducible refine (spec_Some.calls kj4 a0_0 a0_1 _ _ l0_2 a0_3 a0_4 a0_5 a0_6 (fun k_ => k_ < w.heap.size) _ _ l1 a2_0 a2_1 _ _ l2_2 t547 t550 t551 t552 t553 t556 _ ?side1 ?side2 ?side3 ?side4 ?side5 ?side6 A43.out).mono ?_); (case side1 => exact cC_ HR0_2 HB); (case side2 => exact HC0_2.out); (case side3 => exact Kd.V_mk HC1.out (Kd.F_below (Kd.C_F (Kd.heap_int .i64) HR1.out) (hB_ HB))); (case side4 => exact cC_ HR2_2 HB); (case side5 => exact HC2_2.out); (case side6 => exact Lg_below HG.out (hB_ HB)); rintro e w51 ⟨v548, v554, v557, rfl, ho0, ho1, ho2, hb⟩; refine ⟨_, rfl, ?_⟩; have n0_ := Aside0.mk (Kd.V_lower (Kd.V_mono (ok' := fun k_ => some k_ ≠ (v554 : Value).ownBlock ∧ some k_ ≠ (v557 : Value).ownBlock ∧ k_ ≠ gb539 ∧ k_ ≠ gb540 ∧ k_ ≠ gb541) ho0 (fun k_ hk_ => ⟨hk_.2.1, hk_.2.2, Or.elim hk_.1 (fun hs_ => fun e_ => Nat.not_le.2 hs_ (by rw [e_]; exact GW539.out)) (fun hn_ => (fB_ BK539 k_ hn_)), Or.elim hk_.1 (fun hs_ => fun e_ => Nat.not_le.2 hs_ (by rw [e_]; exact GW540.out)) (fun hn_ => (fB_ BK540 k_ hn_)), Or.elim hk_.1 (fun hs_ => fun e_ => Nat.not_le.2 hs_ (by rw [e_]; exact GW541.out)) (fun hn_ => (fB_ BK541 k_ hn_))⟩)) (below_size (hB_ HB))); have n1_ := Aside0.mk (Kd.R_lower (Kd.R_mono (ok' := fun k_ => True) ho1 (fun _ hk_ => trivial)) (below_size (hB_ HB))); have n2_ := Aside0.mk (Kd.R_lower (Kd.R_mono (ok' := fun k_ => True) ho2 (fun _ hk_ => trivial)) (below_size (hB_ HB))); have n4_ := bB_ BK540 hb; have n6_ := Aside0.mk (below_step (hB_ HB) hb); clear BK540; clear HB; have HO549 := n0_; have HO555 := n1_; have HO558 := n2_; have BK540 := n4_; have HB := n6_; replace BK539 := bB_ BK539 hb; replace BK541 := bB_ BK541 hb; clear n0_ n1_ n2_ n4_ n6_; (try clear hb); (try clear hb2); (try clear hk); (try clear hi); (try clear ho0); (try clear ho1); (try clear ho2)) | ((with_reducible refine gate_dst (N := 10) rfl ?_); (try (refine gate_guard (by rfl) ?_; dsimp only)); refine box_event ?hg (N := 10) ?hd (cs := #[.int .i64 0, .int .u32 0, .bool false, .slice none 0 0, .slice none 0 0]) (t := 34) ?hr ?_; (case hd => rfl); (case hg => rfl); (case hr => first | (go_simp; done) | (go_simp; rfl)); intro gb559 hg w52 hbox hb; have n0_ := Aside0.mk (Kd.V_below (Kd.V_elderB (vV_ HO549) gb559 (Nat.le_of_eq hg.symm)) hb); have n1_ := Aside0.mk (Kd.R_below (rR_ HO555) hb); have n2_ := Aside0.mk (Kd.R_below (rR_ HO558) hb); have n4_ := bB_ BK540 hb; have n6_ := Aside0.mk (below_step (hB_ HB) hb); have n7_ := Aside0.mk (hbox); have n8_ := gG_ (w := w) hg HB; have n9_ := gG_ (w := w) hg HB; have n10_ := nL_ hg BK539; have n11_ := nG_ hg BK539; have n12_ := nL_ hg BK540; have n13_ := nG_ hg BK540; have n14_ := nL_ hg BK541; have n15_ := nG_ hg BK541; clear HO549; clear HO555; clear HO558; clear BK540; clear HB; have HO549 := n0_; have HO555 := n1_; have HO558 := n2_; have BK540 := n4_; have HB := n6_; have BK559 := n7_; have GW559 := n8_; have GE559 := n9_; have NB539_559 := n10_; have NB559_539 := n11_; have NB540_559 := n12_; have NB559_540 := n13_; have NB541_559 := n14_; have NB559_541 := n15_; replace BK539 := bB_ BK539 hb; replace BK541 := bB_ BK541 hb; clear n0_ n1_ n2_ n4_ n6_ n7_ n8_ n9_ n10_ n11_ n12_ n13_ n14_ n15_; clear hb hbox hg; have hnb53 := NB559_539.out; have hnc53 := NB539_559.out; have hnb54 := NB559_540.out; have hnc54 := NB540_559.out; have hnb55 := NB559_541.out; have hnc55 := NB541_559.out; obtain ⟨hcz56_0, hcz56_1, hcz56_2, hcz56_3, hcz56_4, hfz56_0, hfz56_1, hfz56_2, hfz56_3, hfz56_4⟩ := cz5_ (w := w52) BK559; obtain ⟨Ao57, co57, eo57⟩ := Kd.R_slice HO555.out; subst eo57; obtain ⟨Ao58, co58, eo58⟩ := Kd.R_slice HO558.out; subst eo58) | ((with_reducible refine gate_store (t := 34) (p := 10) rfl ?_); refine store_event (t := 34) (p := 10) (v := ?vo_w59) (w1 := (((((w52.setCell ⟨gb559, 0, none⟩ (.int .i64 t550)).setCell ⟨gb559, 1, none⟩ (.int .u32 t551)).setCell ⟨gb559, 2, none⟩ (.bool t552)).setCell ⟨gb559, 3, none⟩ (.slice Ao57 t553.length co57)).setCell ⟨gb559, 4, none⟩ (.slice Ao58 t556.length co58))) ?hg ?ho ?hn ?hr ?_; (case ho => rfl); (case hg => rfl); (case hn => rfl); (case hr => first | (go_simp; done) | (go_simp; rfl)); intro w59 hw; have n0_ : Aside0 (Kd.V (Kd.int .i64) 3 w59 w.heap.size (fun k_ => some k_ ≠ (.slice Ao57 t553.length co57 : Value).ownBlock ∧ some k_ ≠ (.slice Ao58 t556.length co58 : Value).ownBlock ∧ k_ ≠ gb539 ∧ k_ ≠ gb540 ∧ k_ ≠ gb541 ∧ k_ ≠ gb559) v548 t547) := ⟨(by rw [hw]; exact (by (with_reducible repeat (first | apply Kd.V_alloc | apply Kd.V_drewN | apply Kd.V_drew)); exact Kd.V_mono (vF5_ (g := gb559) (Kd.V_mono HO549.out (fun k_ hk => (⟨hk, hk.2⟩ : _ ∧ k_ ≠ gb559))) (fun _ hk => hk.2)) (fun _ hk => ⟨hk.1.1.1, ⟨hk.1.1.2.1, ⟨hk.1.1.2.2.1, ⟨hk.1.1.2.2.2.1, ⟨hk.1.1.2.2.2.2, hk.1.2⟩⟩⟩⟩⟩)))⟩; have n1_ : Aside0 (Kd.R (Kd.int .u32) 22 w59 w.heap.size (fun _ => True) (.slice Ao57 t553.length co57) t553) := ⟨(by rw [hw]; exact (by (with_reducible repeat (first | apply Kd.R_alloc | apply Kd.R_drewN | apply Kd.R_drew)); exact Kd.R_mono (rF5_ (g := gb559) (Kd.R_types HO555.out BK559.out (by decide)) (fun _ hk => hk.2)) (fun _ hk => trivial)))⟩; have n2_ : Aside0 (Kd.R (Kd.int .i64) 31 w59 w.heap.size (fun _ => True) (.slice Ao58 t556.length co58) t556) := ⟨(by rw [hw]; exact (by (with_reducible repeat (first | apply Kd.R_alloc | apply Kd.R_drewN | apply Kd.R_drew)); exact Kd.R_mono (rF5_ (g := gb559) (Kd.R_types HO558.out BK559.out (by decide)) (fun _ hk => hk.2)) (fun _ hk => trivial)))⟩; have n3_ : Aside0 (w59.heap[gb539]? = some (.cells #[.int .u32 a0_0, .int .i64 a0_1, .slice A0_2 l0_2.length c0_2, .int .i64 a0_3, .int .i64 a0_4, .int .i64 a0_5, .int .i64 a0_6] 27 (0, 0))) := ⟨(by rw [hw]; exact (by (with_reducible repeat (first | refine blk_drewN ?_ _ | refine blk_drew ?_ | refine blk_alloc ?_ _)); refine blk_far ?_ NB539_559.out _; refine blk_far ?_ NB539_559.out _; refine blk_far ?_ NB539_559.out _; refine blk_far ?_ NB539_559.out _; refine blk_far ?_ NB539_559.out _; (with_reducible repeat (first | refine blk_drewN ?_ _ | refine blk_drew ?_ | refine blk_alloc ?_ _)); exact BK539.out))⟩; have n4_ : Aside0 (w59.heap[gb540]? = some (.cells #[.int .i64 a2_0, .int .u32 a2_1, .slice A2_2 l2_2.length c2_2] 30 (0, 0))) := ⟨(by rw [hw]; exact (by (with_reducible repeat (first | refine blk_drewN ?_ _ | refine blk_drew ?_ | refine blk_alloc ?_ _)); refine blk_far ?_ NB540_559.out _; refine blk_far ?_ NB540_559.out _; refine blk_far ?_ NB540_559.out _; refine blk_far ?_ NB540_559.out _; refine blk_far ?_ NB540_559.out _; (with_reducible repeat (first | refine blk_drewN ?_ _ | refine blk_drew ?_ | refine blk_alloc ?_ _)); exact BK540.out))⟩; have n5_ : Aside0 (w59.heap[gb541]? = some (.cells #[.int .i64 a3_0, .int .u32 a3_1, .bool a3_2, .slice A3_3 l3_3.length c3_3, .slice A3_4 l3_4.length c3_4] 34 (0, 0))) := ⟨(by rw [hw]; exact (by (with_reducible repeat (first | refine blk_drewN ?_ _ | refine blk_drew ?_ | refine blk_alloc ?_ _)); refine blk_far ?_ NB541_559.out _; refine blk_far ?_ NB541_559.out _; refine blk_far ?_ NB541_559.out _; refine blk_far ?_ NB541_559.out _; refine blk_far ?_ NB541_559.out _; (with_reducible repeat (first | refine blk_drewN ?_ _ | refine blk_drew ?_ | refine blk_alloc ?_ _)); exact BK541.out))⟩; have n6_ : Aside0 (w59.heap[gb559]? = some (.cells #[.int .i64 t550, .int .u32 t551, .bool t552, .slice Ao57 t553.length co57, .slice Ao58 t556.length co58] 34 (0, 0))) := ⟨(by rw [hw]; exact (by (with_reducible repeat (first | refine blk_drewN ?_ _ | refine blk_drew ?_ | refine blk_alloc ?_ _)); refine blk_put (cs := #[.int .i64 t550, .int .u32 t551, .bool t552, .slice Ao57 t553.length co57, .slice none 0 0]) ?_ 4 _ rfl; refine blk_put (cs := #[.int .i64 t550, .int .u32 t551, .bool t552, .slice none 0 0, .slice none 0 0]) ?_ 3 _ rfl; refine blk_put (cs := #[.int .i64 t550, .int .u32 t551, .bool false, .slice none 0 0, .slice none 0 0]) ?_ 2 _ rfl; refine blk_put (cs := #[.int .i64 t550, .int .u32 0, .bool false, .slice none 0 0, .slice none 0 0]) ?_ 1 _ rfl; refine blk_put (cs := #[.int .i64 0, .int .u32 0, .bool false, .slice none 0 0, .slice none 0 0]) ?_ 0 _ rfl; (with_reducible repeat (first | refine blk_drewN ?_ _ | refine blk_drew ?_ | refine blk_alloc ?_ _)); exact BK559.out))⟩; have n7_ : Aside0 (Below w.heap.size w w59) := ⟨(by rw [hw]; exact (hB_ HB))⟩; clear hw; clear HO549; clear HO555; clear HO558; clear BK539; clear BK540; clear BK541; clear BK559; clear HB; have HO549 := n0_; have HO555 := n1_; have HO558 := n2_; have BK539 := n3_; have BK540 := n4_; have BK541 := n5_; have BK559 := n6_; have HB := n7_; clear n0_ n1_ n2_ n3_ n4_ n5_ n6_ n7_; obtain ⟨hcz60_0, hcz60_1, hcz60_2, hcz60_3, hcz60_4, hcz60_5, hcz60_6, hfz60_0, hfz60_1, hfz60_2, hfz60_3, hfz60_4, hfz60_5, hfz60_6⟩ := cz7_ (w := w59) BK539; obtain ⟨hcz61_0, hcz61_1, hcz61_2, hfz61_0, hfz61_1, hfz61_2⟩ := cz3_ (w := w59) BK540; obtain ⟨hcz62_0, hcz62_1, hcz62_2, hcz62_3, hcz62_4, hfz62_0, hfz62_1, hfz62_2, hfz62_3, hfz62_4⟩ := cz5_ (w := w59) BK559) | ((with_reducible refine gate_callee (f := 13) rfl ?_); refine goesL_ (some 48) rfl rfl Tryd.func13 (by kernel_rfl) rfl #[.agg #[.int .u32 a0_0, .int .i64 a0_1, .slice A0_2 l0_2.length c0_2, .int .i64 a0_3, .int .i64 a0_4, .int .i64 a0_5, .int .i64 a0_6], .slice A1 l1.length c1, .agg #[.int .i64 a2_0, .int .u32 a2_1, .slice A2_2 l2_2.length c2_2], .agg #[.int .i64 t550, .int .u32 t551, .bool t552, .slice Ao57 t553.length co57, .slice Ao58 t556.length co58]] rfl am_ ?_; (with_reducible refine (spec_Legal.calls kj4 a0_0 a0_1 _ _ l0_2 a0_3 a0_4 a0_5 a0_6 (fun k_ => k_ < w.heap.size) _ _ l1 a2_0 a2_1 _ _ l2_2 t550 t551 t552 _ _ t553 _ _ t556 t560 t563 _ ?side1 ?side2 ?side3 ?side4 ?side5 ?side6 ?side7 ?side8 ?side9 ?side10 A44.out).mono ?_); (case side1 => exact cC_ HR0_2 HB); (case side2 => exact HC0_2.out); (case side3 => exact Kd.V_mk HC1.out (Kd.F_below (Kd.C_F (Kd.heap_int .i64) HR1.out) (hB_ HB))); (case side4 => exact cC_ HR2_2 HB); (case side5 => exact HC2_2.out); (case side6 => repeat (first | exact (Kd.R_reads' HO555.out).2.2 | (with_reducible refine Kd.C_alloc ?_ _) | (with_reducible refine Kd.C_drewN ?_ _) | (with_reducible refine Kd.C_drew ?_))); (case side7 => exact (Kd.R_reads' HO555.out).2.1); (case side8 => repeat (first | exact (Kd.R_reads' HO558.out).2.2 | (with_reducible refine Kd.C_alloc ?_ _) | (with_reducible refine Kd.C_drewN ?_ _) | (with_reducible refine Kd.C_drew ?_))); (case side9 => exact (Kd.R_reads' HO558.out).2.1); (case side10 => exact Lg_below HG.out (hB_ HB)); rintro e w63 ⟨v561, rfl, ho0, hb⟩; refine ⟨_, rfl, ?_⟩; have n0_ := Aside0.mk (Kd.V_below (vV_ HO549) hb); have n1_ := Aside0.mk (Kd.R_below (rR_ HO555) hb); have n2_ := Aside0.mk (Kd.R_below (rR_ HO558) hb); have n3_ := Aside0.mk (Kd.V_lower (Kd.V_mono (ok' := fun k_ => some k_ ≠ (.slice Ao57 t553.length co57 : Value).ownBlock ∧ some k_ ≠ (.slice Ao58 t556.length co58 : Value).ownBlock ∧ k_ ≠ gb539 ∧ k_ ≠ gb540 ∧ k_ ≠ gb541 ∧ k_ ≠ gb559) ho0 (fun k_ hk_ => ⟨Or.elim hk_ (fun hs_ => fun e_ => Nat.not_le.2 hs_ (Kd.R_base HO555.out k_ e_.symm)) (fun hn_ => (Kd.fresh' (Kd.R_lt (rR_ HO555)) k_ hn_)), Or.elim hk_ (fun hs_ => fun e_ => Nat.not_le.2 hs_ (Kd.R_base HO558.out k_ e_.symm)) (fun hn_ => (Kd.fresh' (Kd.R_lt (rR_ HO558)) k_ hn_)), Or.elim hk_ (fun hs_ => fun e_ => Nat.not_le.2 hs_ (by rw [e_]; exact GW539.out)) (fun hn_ => (fB_ BK539 k_ hn_)), Or.elim hk_ (fun hs_ => fun e_ => Nat.not_le.2 hs_ (by rw [e_]; exact GW540.out)) (fun hn_ => (fB_ BK540 k_ hn_)), Or.elim hk_ (fun hs_ => fun e_ => Nat.not_le.2 hs_ (by rw [e_]; exact GW541.out)) (fun hn_ => (fB_ BK541 k_ hn_)), Or.elim hk_ (fun hs_ => fun e_ => Nat.not_le.2 hs_ (by rw [e_]; exact GW559.out)) (fun hn_ => (fB_ BK559 k_ hn_))⟩)) (below_size (hB_ HB))); have n5_ := bB_ BK540 hb; have n7_ := bB_ BK559 hb; clear HO549; clear HO555; clear HO558; clear BK540; clear BK559; have HO549 := n0_; have HO555 := n1_; have HO558 := n2_; have HO562 := n3_; have BK540 := n5_; have BK559 := n7_; replace BK539 := bB_ BK539 hb; replace BK541 := bB_ BK541 hb; replace HB := hS_ HB hb; clear n0_ n1_ n2_ n3_ n5_ n7_; (try clear hb); (try clear hb2); (try clear hk); (try clear hi); (try clear ho0)))
    (try simp only [Act.put, List.setIfInBounds_toArray, List.set_cons_zero, List.set_cons_succ])
    go_cut [79] (fun v79 wc => ∃ (kq : Nat) (x79_44 : Bool), v79 = .bool x79_44 ∧ Aside0 (lodgerlaw11_SpecLegal.j1 kq l1 x79_44 a0_0 a0_1 l0_2 a0_3 a0_4 a0_5 a0_6 a2_0 a2_1 l2_2 a3_0 a3_1 a3_2 l3_3 l3_4 = some r) ∧ Aside0 (kq ≤ kj4) ∧ Aside0 (Kd.R (Kd.int .u32) 22 wc w.heap.size (fun _ => True) (.slice Ao57 t553.length co57) t553) ∧ Aside0 (Kd.R (Kd.int .i64) 31 wc w.heap.size (fun _ => True) (.slice Ao58 t556.length co58) t556) ∧ Aside0 (wc.heap[gb539]? = some (.cells #[.int .u32 a0_0, .int .i64 a0_1, (.slice A0_2 l0_2.length c0_2), .int .i64 a0_3, .int .i64 a0_4, .int .i64 a0_5, .int .i64 a0_6] 27 (0, 0))) ∧ Aside0 (wc.heap[gb540]? = some (.cells #[.int .i64 a2_0, .int .u32 a2_1, (.slice A2_2 l2_2.length c2_2)] 30 (0, 0))) ∧ Aside0 (wc.heap[gb541]? = some (.cells #[.int .i64 a3_0, .int .u32 a3_1, .bool a3_2, (.slice A3_3 l3_3.length c3_3), (.slice A3_4 l3_4.length c3_4)] 34 (0, 0))) ∧ Aside0 (wc.heap[gb559]? = some (.cells #[.int .i64 t550, .int .u32 t551, .bool t552, (.slice Ao57 t553.length co57), (.slice Ao58 t556.length co58)] 34 (0, 0))) ∧ Aside0 (Below w.heap.size w wc))
    case first =>
     have H := HC45.out; clear HC45
     by_cases c64 : t563 = true
     ·subst c64
      have H1 : ((lodgerref03_Ints.f kj4 t547 t560).bind fun t564 => (if t564 = true then ((lodgerref09_May.f kj4 a0_0 a0_1 l0_2 a0_3 a0_4 a0_5 a0_6 t547).bind fun t565 => (if t565 = true then (if t550 = 10 then (lodgerlaw11_SpecLegal.j1 kj4 l1 true a0_0 a0_1 l0_2 a0_3 a0_4 a0_5 a0_6 a2_0 a2_1 l2_2 a3_0 a3_1 a3_2 l3_3 l3_4) else (if t550 = 12 then (lodgerlaw11_SpecLegal.j1 kj4 l1 true a0_0 a0_1 l0_2 a0_3 a0_4 a0_5 a0_6 a2_0 a2_1 l2_2 a3_0 a3_1 a3_2 l3_3 l3_4) else (lodgerlaw11_SpecLegal.j1 kj4 l1 (t550 == 11) a0_0 a0_1 l0_2 a0_3 a0_4 a0_5 a0_6 a2_0 a2_1 l2_2 a3_0 a3_1 a3_2 l3_3 l3_4))) else (lodgerlaw11_SpecLegal.j1 kj4 l1 true a0_0 a0_1 l0_2 a0_3 a0_4 a0_5 a0_6 a2_0 a2_1 l2_2 a3_0 a3_1 a3_2 l3_3 l3_4))) else (lodgerlaw11_SpecLegal.j1 kj4 l1 true a0_0 a0_1 l0_2 a0_3 a0_4 a0_5 a0_6 a2_0 a2_1 l2_2 a3_0 a3_1 a3_2 l3_3 l3_4))) = some r := by rw [if_pos rfl] at H; exact H
      clear H; have H := H1; clear H1; replace H := Option.bind_eq_some_iff.mp H; obtain ⟨t564, A650, H⟩ := H
      replace H : (if t564 = true then ((lodgerref09_May.f kj4 a0_0 a0_1 l0_2 a0_3 a0_4 a0_5 a0_6 t547).bind fun t565 => (if t565 = true then (if t550 = 10 then (lodgerlaw11_SpecLegal.j1 kj4 l1 true a0_0 a0_1 l0_2 a0_3 a0_4 a0_5 a0_6 a2_0 a2_1 l2_2 a3_0 a3_1 a3_2 l3_3 l3_4) else (if t550 = 12 then (lodgerlaw11_SpecLegal.j1 kj4 l1 true a0_0 a0_1 l0_2 a0_3 a0_4 a0_5 a0_6 a2_0 a2_1 l2_2 a3_0 a3_1 a3_2 l3_3 l3_4) else (lodgerlaw11_SpecLegal.j1 kj4 l1 (t550 == 11) a0_0 a0_1 l0_2 a0_3 a0_4 a0_5 a0_6 a2_0 a2_1 l2_2 a3_0 a3_1 a3_2 l3_3 l3_4))) else (lodgerlaw11_SpecLegal.j1 kj4 l1 true a0_0 a0_1 l0_2 a0_3 a0_4 a0_5 a0_6 a2_0 a2_1 l2_2 a3_0 a3_1 a3_2 l3_3 l3_4))) else (lodgerlaw11_SpecLegal.j1 kj4 l1 true a0_0 a0_1 l0_2 a0_3 a0_4 a0_5 a0_6 a2_0 a2_1 l2_2 a3_0 a3_1 a3_2 l3_3 l3_4)) = some r := H
      have A65 := Aside0.mk A650; clear A650
      by_cases c66 : t564 = true
      ·as_aux_lemma =>
       subst c66
       have H1 : ((lodgerref09_May.f kj4 a0_0 a0_1 l0_2 a0_3 a0_4 a0_5 a0_6 t547).bind fun t565 => (if t565 = true then (if t550 = 10 then (lodgerlaw11_SpecLegal.j1 kj4 l1 true a0_0 a0_1 l0_2 a0_3 a0_4 a0_5 a0_6 a2_0 a2_1 l2_2 a3_0 a3_1 a3_2 l3_3 l3_4) else (if t550 = 12 then (lodgerlaw11_SpecLegal.j1 kj4 l1 true a0_0 a0_1 l0_2 a0_3 a0_4 a0_5 a0_6 a2_0 a2_1 l2_2 a3_0 a3_1 a3_2 l3_3 l3_4) else (lodgerlaw11_SpecLegal.j1 kj4 l1 (t550 == 11) a0_0 a0_1 l0_2 a0_3 a0_4 a0_5 a0_6 a2_0 a2_1 l2_2 a3_0 a3_1 a3_2 l3_3 l3_4))) else (lodgerlaw11_SpecLegal.j1 kj4 l1 true a0_0 a0_1 l0_2 a0_3 a0_4 a0_5 a0_6 a2_0 a2_1 l2_2 a3_0 a3_1 a3_2 l3_3 l3_4))) = some r := by rw [if_pos rfl] at H; exact H
       clear H; have H := H1; clear H1; replace H := Option.bind_eq_some_iff.mp H; obtain ⟨t565, A670, H⟩ := H
       replace H : (if t565 = true then (if t550 = 10 then (lodgerlaw11_SpecLegal.j1 kj4 l1 true a0_0 a0_1 l0_2 a0_3 a0_4 a0_5 a0_6 a2_0 a2_1 l2_2 a3_0 a3_1 a3_2 l3_3 l3_4) else (if t550 = 12 then (lodgerlaw11_SpecLegal.j1 kj4 l1 true a0_0 a0_1 l0_2 a0_3 a0_4 a0_5 a0_6 a2_0 a2_1 l2_2 a3_0 a3_1 a3_2 l3_3 l3_4) else (lodgerlaw11_SpecLegal.j1 kj4 l1 (t550 == 11) a0_0 a0_1 l0_2 a0_3 a0_4 a0_5 a0_6 a2_0 a2_1 l2_2 a3_0 a3_1 a3_2 l3_3 l3_4))) else (lodgerlaw11_SpecLegal.j1 kj4 l1 true a0_0 a0_1 l0_2 a0_3 a0_4 a0_5 a0_6 a2_0 a2_1 l2_2 a3_0 a3_1 a3_2 l3_3 l3_4)) = some r := H
       have A67 := Aside0.mk A670; clear A670
       by_cases c68 : t565 = true
       ·subst c68
        have H1 : (if t550 = 10 then (lodgerlaw11_SpecLegal.j1 kj4 l1 true a0_0 a0_1 l0_2 a0_3 a0_4 a0_5 a0_6 a2_0 a2_1 l2_2 a3_0 a3_1 a3_2 l3_3 l3_4) else (if t550 = 12 then (lodgerlaw11_SpecLegal.j1 kj4 l1 true a0_0 a0_1 l0_2 a0_3 a0_4 a0_5 a0_6 a2_0 a2_1 l2_2 a3_0 a3_1 a3_2 l3_3 l3_4) else (lodgerlaw11_SpecLegal.j1 kj4 l1 (t550 == 11) a0_0 a0_1 l0_2 a0_3 a0_4 a0_5 a0_6 a2_0 a2_1 l2_2 a3_0 a3_1 a3_2 l3_3 l3_4))) = some r := by rw [if_pos rfl] at H; exact H
        clear H; have H := H1; clear H1
        by_cases c69 : t550 = 10
        ·rw [if_pos c69] at H
         have c69b0 : (t550 == 10) = true := beq_iff_eq.mpr c69
         have c69b1 : (t550 != 10) = false := bne_eq_false_iff_eq.mpr c69
         clear c69
         (first | rw [c69b0] | (simp only [i64_w, i32_w, IntKind.wrap_u32, Int.add_emod_emod, Int.emod_add_emod]; rw [c69b0]) | skip)
         have H' := Aside0.mk H
         clear H; obtain ⟨Ao70, co70, eo70⟩ := Kd.V_slice HO549.out; subst eo70; obtain ⟨Ao71, co71, eo71⟩ := Kd.V_slice HO562.out; subst eo71
         go_wp2_with (first | (go_at_call 17; (with_reducible refine (lodgerref03_Ints.calls kj4 _ _ t547 _ _ t560 true _ ?side1 ?side2 ?side3 ?side4 A65.out).mono ?_); (case side1 => repeat (first | exact (Kd.V_reads' HO549.out).2.2 | (with_reducible refine Kd.C_alloc ?_ _) | (with_reducible refine Kd.C_drewN ?_ _) | (with_reducible refine Kd.C_drew ?_))); (case side2 => exact (Kd.V_reads' HO549.out).2.1); (case side3 => repeat (first | exact (Kd.V_reads' HO562.out).2.2 | (with_reducible refine Kd.C_alloc ?_ _) | (with_reducible refine Kd.C_drewN ?_ _) | (with_reducible refine Kd.C_drew ?_))); (case side4 => exact (Kd.V_reads' HO562.out).2.1); rintro e w' ⟨rfl, ⟨nd, rfl⟩⟩; have hnb72 := NB539_540.out; have hnc72 := NB540_539.out; have hnb73 := NB539_541.out; have hnc73 := NB541_539.out; have hnb74 := NB539_559.out; have hnc74 := NB559_539.out; obtain ⟨hcz75_0, hcz75_1, hcz75_2, hcz75_3, hcz75_4, hcz75_5, hcz75_6, hfz75_0, hfz75_1, hfz75_2, hfz75_3, hfz75_4, hfz75_5, hfz75_6⟩ := cz7_ (w := w63) BK539) | (go_at_call 20; (with_reducible refine (lodgerref09_May.calls kj4 a0_0 a0_1 _ _ l0_2 a0_3 a0_4 a0_5 a0_6 _ _ t547 true _ ?side1 ?side2 ?side3 ?side4 A67.out).mono ?_); (case side1 => repeat (first | exact (Kd.C_below HR0_2.out (hB_ HB)) | (with_reducible refine Kd.C_alloc ?_ _) | (with_reducible refine Kd.C_drewN ?_ _) | (with_reducible refine Kd.C_drew ?_))); (case side2 => exact HC0_2.out); (case side3 => repeat (first | exact (Kd.V_reads' HO549.out).2.2 | (with_reducible refine Kd.C_alloc ?_ _) | (with_reducible refine Kd.C_drewN ?_ _) | (with_reducible refine Kd.C_drew ?_))); (case side4 => exact (Kd.V_reads' HO549.out).2.1); rintro e w76 ⟨rfl, hb⟩; have n0_ := Aside0.mk (Kd.V_below (vV_ HO549) hb); have n1_ := Aside0.mk (Kd.R_below (rR_ HO555) hb); have n2_ := Aside0.mk (Kd.R_below (rR_ HO558) hb); have n3_ := Aside0.mk (Kd.V_below (vV_ HO562) hb); have n5_ := bB_ BK540 hb; have n7_ := bB_ BK559 hb; clear HO549; clear HO555; clear HO558; clear HO562; clear BK540; clear BK559; have HO549 := n0_; have HO555 := n1_; have HO558 := n2_; have HO562 := n3_; have BK540 := n5_; have BK559 := n7_; replace BK539 := bB_ BK539 hb; replace BK541 := bB_ BK541 hb; replace HB := hS_ HB hb; clear n0_ n1_ n2_ n3_ n5_ n7_; (try clear hb); (try clear hb2); (try clear hk); (try clear hi); have hnb77 := NB559_540.out; have hnc77 := NB540_559.out; have hnb78 := NB559_541.out; have hnc78 := NB541_559.out; obtain ⟨hcz79_0, hcz79_1, hcz79_2, hcz79_3, hcz79_4, hfz79_0, hfz79_1, hfz79_2, hfz79_3, hfz79_4⟩ := cz5_ (w := w76) BK559))
         go_meet
         case rel => exact ⟨_, (true), rs_, H', ⟨by have := HJ4.out; first | omega | exact Nat.le_refl _⟩, ⟨by (with_reducible repeat (first | apply Kd.R_alloc | apply Kd.R_drewN | apply Kd.R_drew)); exact HO555.out⟩, ⟨by (with_reducible repeat (first | apply Kd.R_alloc | apply Kd.R_drewN | apply Kd.R_drew)); exact HO558.out⟩, ⟨bk_ BK539⟩, ⟨bk_ BK540⟩, ⟨bk_ BK541⟩, ⟨bk_ BK559⟩, ⟨hB_ HB⟩⟩
        ·as_aux_lemma =>
         rw [if_neg c69] at H
         have c69b0 : (t550 == 10) = false := beq_eq_false_iff_ne.mpr c69
         have c69b1 : (t550 != 10) = true := bne_iff_ne.mpr c69
         (first | rw [c69b0] | (simp only [i64_w, i32_w, IntKind.wrap_u32, Int.add_emod_emod, Int.emod_add_emod]; rw [c69b0]) | skip)
         by_cases c80 : t550 = 12
         ·rw [if_pos c80] at H
          have c80b0 : (t550 == 12) = true := beq_iff_eq.mpr c80
          have c80b1 : (t550 != 12) = false := bne_eq_false_iff_eq.mpr c80
          clear c80
          have H' := Aside0.mk H
          clear H; obtain ⟨Ao81, co81, eo81⟩ := Kd.V_slice HO549.out; subst eo81; obtain ⟨Ao82, co82, eo82⟩ := Kd.V_slice HO562.out; subst eo82
          go_wp2_with (first | (go_at_call 17; (with_reducible refine (lodgerref03_Ints.calls kj4 _ _ t547 _ _ t560 true _ ?side1 ?side2 ?side3 ?side4 A65.out).mono ?_); (case side1 => repeat (first | exact (Kd.V_reads' HO549.out).2.2 | (with_reducible refine Kd.C_alloc ?_ _) | (with_reducible refine Kd.C_drewN ?_ _) | (with_reducible refine Kd.C_drew ?_))); (case side2 => exact (Kd.V_reads' HO549.out).2.1); (case side3 => repeat (first | exact (Kd.V_reads' HO562.out).2.2 | (with_reducible refine Kd.C_alloc ?_ _) | (with_reducible refine Kd.C_drewN ?_ _) | (with_reducible refine Kd.C_drew ?_))); (case side4 => exact (Kd.V_reads' HO562.out).2.1); rintro e w' ⟨rfl, ⟨nd, rfl⟩⟩; have hnb83 := NB539_540.out; have hnc83 := NB540_539.out; have hnb84 := NB539_541.out; have hnc84 := NB541_539.out; have hnb85 := NB539_559.out; have hnc85 := NB559_539.out; obtain ⟨hcz86_0, hcz86_1, hcz86_2, hcz86_3, hcz86_4, hcz86_5, hcz86_6, hfz86_0, hfz86_1, hfz86_2, hfz86_3, hfz86_4, hfz86_5, hfz86_6⟩ := cz7_ (w := w63) BK539) | (go_at_call 20; (with_reducible refine (lodgerref09_May.calls kj4 a0_0 a0_1 _ _ l0_2 a0_3 a0_4 a0_5 a0_6 _ _ t547 true _ ?side1 ?side2 ?side3 ?side4 A67.out).mono ?_); (case side1 => repeat (first | exact (Kd.C_below HR0_2.out (hB_ HB)) | (with_reducible refine Kd.C_alloc ?_ _) | (with_reducible refine Kd.C_drewN ?_ _) | (with_reducible refine Kd.C_drew ?_))); (case side2 => exact HC0_2.out); (case side3 => repeat (first | exact (Kd.V_reads' HO549.out).2.2 | (with_reducible refine Kd.C_alloc ?_ _) | (with_reducible refine Kd.C_drewN ?_ _) | (with_reducible refine Kd.C_drew ?_))); (case side4 => exact (Kd.V_reads' HO549.out).2.1); rintro e w87 ⟨rfl, hb⟩; have n0_ := Aside0.mk (Kd.V_below (vV_ HO549) hb); have n1_ := Aside0.mk (Kd.R_below (rR_ HO555) hb); have n2_ := Aside0.mk (Kd.R_below (rR_ HO558) hb); have n3_ := Aside0.mk (Kd.V_below (vV_ HO562) hb); have n5_ := bB_ BK540 hb; have n7_ := bB_ BK559 hb; clear HO549; clear HO555; clear HO558; clear HO562; clear BK540; clear BK559; have HO549 := n0_; have HO555 := n1_; have HO558 := n2_; have HO562 := n3_; have BK540 := n5_; have BK559 := n7_; replace BK539 := bB_ BK539 hb; replace BK541 := bB_ BK541 hb; replace HB := hS_ HB hb; clear n0_ n1_ n2_ n3_ n5_ n7_; (try clear hb); (try clear hb2); (try clear hk); (try clear hi); have hnb88 := NB559_540.out; have hnc88 := NB540_559.out; have hnb89 := NB559_541.out; have hnc89 := NB541_559.out; obtain ⟨hcz90_0, hcz90_1, hcz90_2, hcz90_3, hcz90_4, hfz90_0, hfz90_1, hfz90_2, hfz90_3, hfz90_4⟩ := cz5_ (w := w87) BK559))
          go_meet
          case rel => exact ⟨_, (true), rs_, H', ⟨by have := HJ4.out; first | omega | exact Nat.le_refl _⟩, ⟨by (with_reducible repeat (first | apply Kd.R_alloc | apply Kd.R_drewN | apply Kd.R_drew)); exact HO555.out⟩, ⟨by (with_reducible repeat (first | apply Kd.R_alloc | apply Kd.R_drewN | apply Kd.R_drew)); exact HO558.out⟩, ⟨bk_ BK539⟩, ⟨bk_ BK540⟩, ⟨bk_ BK541⟩, ⟨bk_ BK559⟩, ⟨hB_ HB⟩⟩
         ·rw [if_neg c80] at H
          have c80b0 : (t550 == 12) = false := beq_eq_false_iff_ne.mpr c80
          have c80b1 : (t550 != 12) = true := bne_iff_ne.mpr c80
          have H' := Aside0.mk H
          clear H; obtain ⟨Ao91, co91, eo91⟩ := Kd.V_slice HO549.out; subst eo91; obtain ⟨Ao92, co92, eo92⟩ := Kd.V_slice HO562.out; subst eo92
          go_wp2_with (first | (go_at_call 17; (with_reducible refine (lodgerref03_Ints.calls kj4 _ _ t547 _ _ t560 true _ ?side1 ?side2 ?side3 ?side4 A65.out).mono ?_); (case side1 => repeat (first | exact (Kd.V_reads' HO549.out).2.2 | (with_reducible refine Kd.C_alloc ?_ _) | (with_reducible refine Kd.C_drewN ?_ _) | (with_reducible refine Kd.C_drew ?_))); (case side2 => exact (Kd.V_reads' HO549.out).2.1); (case side3 => repeat (first | exact (Kd.V_reads' HO562.out).2.2 | (with_reducible refine Kd.C_alloc ?_ _) | (with_reducible refine Kd.C_drewN ?_ _) | (with_reducible refine Kd.C_drew ?_))); (case side4 => exact (Kd.V_reads' HO562.out).2.1); rintro e w' ⟨rfl, ⟨nd, rfl⟩⟩; have hnb93 := NB539_540.out; have hnc93 := NB540_539.out; have hnb94 := NB539_541.out; have hnc94 := NB541_539.out; have hnb95 := NB539_559.out; have hnc95 := NB559_539.out; obtain ⟨hcz96_0, hcz96_1, hcz96_2, hcz96_3, hcz96_4, hcz96_5, hcz96_6, hfz96_0, hfz96_1, hfz96_2, hfz96_3, hfz96_4, hfz96_5, hfz96_6⟩ := cz7_ (w := w63) BK539) | (go_at_call 20; (with_reducible refine (lodgerref09_May.calls kj4 a0_0 a0_1 _ _ l0_2 a0_3 a0_4 a0_5 a0_6 _ _ t547 true _ ?side1 ?side2 ?side3 ?side4 A67.out).mono ?_); (case side1 => repeat (first | exact (Kd.C_below HR0_2.out (hB_ HB)) | (with_reducible refine Kd.C_alloc ?_ _) | (with_reducible refine Kd.C_drewN ?_ _) | (with_reducible refine Kd.C_drew ?_))); (case side2 => exact HC0_2.out); (case side3 => repeat (first | exact (Kd.V_reads' HO549.out).2.2 | (with_reducible refine Kd.C_alloc ?_ _) | (with_reducible refine Kd.C_drewN ?_ _) | (with_reducible refine Kd.C_drew ?_))); (case side4 => exact (Kd.V_reads' HO549.out).2.1); rintro e w97 ⟨rfl, hb⟩; have n0_ := Aside0.mk (Kd.V_below (vV_ HO549) hb); have n1_ := Aside0.mk (Kd.R_below (rR_ HO555) hb); have n2_ := Aside0.mk (Kd.R_below (rR_ HO558) hb); have n3_ := Aside0.mk (Kd.V_below (vV_ HO562) hb); have n5_ := bB_ BK540 hb; have n7_ := bB_ BK559 hb; clear HO549; clear HO555; clear HO558; clear HO562; clear BK540; clear BK559; have HO549 := n0_; have HO555 := n1_; have HO558 := n2_; have HO562 := n3_; have BK540 := n5_; have BK559 := n7_; replace BK539 := bB_ BK539 hb; replace BK541 := bB_ BK541 hb; replace HB := hS_ HB hb; clear n0_ n1_ n2_ n3_ n5_ n7_; (try clear hb); (try clear hb2); (try clear hk); (try clear hi); have hnb98 := NB559_540.out; have hnc98 := NB540_559.out; have hnb99 := NB559_541.out; have hnc99 := NB541_559.out; obtain ⟨hcz100_0, hcz100_1, hcz100_2, hcz100_3, hcz100_4, hfz100_0, hfz100_1, hfz100_2, hfz100_3, hfz100_4⟩ := cz5_ (w := w97) BK559))
          go_meet
          case rel => exact ⟨_, ((t550 == 11)), rs_, H', ⟨by have := HJ4.out; first | omega | exact Nat.le_refl _⟩, ⟨by (with_reducible repeat (first | apply Kd.R_alloc | apply Kd.R_drewN | apply Kd.R_drew)); exact HO555.out⟩, ⟨by (with_reducible repeat (first | apply Kd.R_alloc | apply Kd.R_drewN | apply Kd.R_drew)); exact HO558.out⟩, ⟨bk_ BK539⟩, ⟨bk_ BK540⟩, ⟨bk_ BK541⟩, ⟨bk_ BK559⟩, ⟨hB_ HB⟩⟩
       ·replace c68 := Bool.eq_false_iff.mpr c68
        subst c68
        have H1 : (lodgerlaw11_SpecLegal.j1 kj4 l1 true a0_0 a0_1 l0_2 a0_3 a0_4 a0_5 a0_6 a2_0 a2_1 l2_2 a3_0 a3_1 a3_2 l3_3 l3_4) = some r := by rw [if_neg (show ¬ (false = true) by decide)] at H; exact H
        clear H; have H := H1; clear H1
        have H' := Aside0.mk H
        clear H; obtain ⟨Ao101, co101, eo101⟩ := Kd.V_slice HO549.out; subst eo101; obtain ⟨Ao102, co102, eo102⟩ := Kd.V_slice HO562.out; subst eo102
        go_wp2_with (first | (go_at_call 17; (with_reducible refine (lodgerref03_Ints.calls kj4 _ _ t547 _ _ t560 true _ ?side1 ?side2 ?side3 ?side4 A65.out).mono ?_); (case side1 => repeat (first | exact (Kd.V_reads' HO549.out).2.2 | (with_reducible refine Kd.C_alloc ?_ _) | (with_reducible refine Kd.C_drewN ?_ _) | (with_reducible refine Kd.C_drew ?_))); (case side2 => exact (Kd.V_reads' HO549.out).2.1); (case side3 => repeat (first | exact (Kd.V_reads' HO562.out).2.2 | (with_reducible refine Kd.C_alloc ?_ _) | (with_reducible refine Kd.C_drewN ?_ _) | (with_reducible refine Kd.C_drew ?_))); (case side4 => exact (Kd.V_reads' HO562.out).2.1); rintro e w' ⟨rfl, ⟨nd, rfl⟩⟩; have hnb103 := NB539_540.out; have hnc103 := NB540_539.out; have hnb104 := NB539_541.out; have hnc104 := NB541_539.out; have hnb105 := NB539_559.out; have hnc105 := NB559_539.out; obtain ⟨hcz106_0, hcz106_1, hcz106_2, hcz106_3, hcz106_4, hcz106_5, hcz106_6, hfz106_0, hfz106_1, hfz106_2, hfz106_3, hfz106_4, hfz106_5, hfz106_6⟩ := cz7_ (w := w63) BK539) | (go_at_call 20; (with_reducible refine (lodgerref09_May.calls kj4 a0_0 a0_1 _ _ l0_2 a0_3 a0_4 a0_5 a0_6 _ _ t547 false _ ?side1 ?side2 ?side3 ?side4 A67.out).mono ?_); (case side1 => repeat (first | exact (Kd.C_below HR0_2.out (hB_ HB)) | (with_reducible refine Kd.C_alloc ?_ _) | (with_reducible refine Kd.C_drewN ?_ _) | (with_reducible refine Kd.C_drew ?_))); (case side2 => exact HC0_2.out); (case side3 => repeat (first | exact (Kd.V_reads' HO549.out).2.2 | (with_reducible refine Kd.C_alloc ?_ _) | (with_reducible refine Kd.C_drewN ?_ _) | (with_reducible refine Kd.C_drew ?_))); (case side4 => exact (Kd.V_reads' HO549.out).2.1); rintro e w107 ⟨rfl, hb⟩; have n0_ := Aside0.mk (Kd.V_below (vV_ HO549) hb); have n1_ := Aside0.mk (Kd.R_below (rR_ HO555) hb); have n2_ := Aside0.mk (Kd.R_below (rR_ HO558) hb); have n3_ := Aside0.mk (Kd.V_below (vV_ HO562) hb); have n5_ := bB_ BK540 hb; have n7_ := bB_ BK559 hb; clear HO549; clear HO555; clear HO558; clear HO562; clear BK540; clear BK559; have HO549 := n0_; have HO555 := n1_; have HO558 := n2_; have HO562 := n3_; have BK540 := n5_; have BK559 := n7_; replace BK539 := bB_ BK539 hb; replace BK541 := bB_ BK541 hb; replace HB := hS_ HB hb; clear n0_ n1_ n2_ n3_ n5_ n7_; (try clear hb); (try clear hb2); (try clear hk); (try clear hi)))
        go_meet
        case rel => exact ⟨_, (true), rs_, H', ⟨by have := HJ4.out; first | omega | exact Nat.le_refl _⟩, ⟨by (with_reducible repeat (first | apply Kd.R_alloc | apply Kd.R_drewN | apply Kd.R_drew)); exact HO555.out⟩, ⟨by (with_reducible repeat (first | apply Kd.R_alloc | apply Kd.R_drewN | apply Kd.R_drew)); exact HO558.out⟩, ⟨bk_ BK539⟩, ⟨bk_ BK540⟩, ⟨bk_ BK541⟩, ⟨bk_ BK559⟩, ⟨hB_ HB⟩⟩
      ·replace c66 := Bool.eq_false_iff.mpr c66
       subst c66
       have H1 : (lodgerlaw11_SpecLegal.j1 kj4 l1 true a0_0 a0_1 l0_2 a0_3 a0_4 a0_5 a0_6 a2_0 a2_1 l2_2 a3_0 a3_1 a3_2 l3_3 l3_4) = some r := by rw [if_neg (show ¬ (false = true) by decide)] at H; exact H
       clear H; have H := H1; clear H1
       have H' := Aside0.mk H
       clear H; obtain ⟨Ao108, co108, eo108⟩ := Kd.V_slice HO549.out; subst eo108; obtain ⟨Ao109, co109, eo109⟩ := Kd.V_slice HO562.out; subst eo109
       go_wp2_with (first | (go_at_call 17; (with_reducible refine (lodgerref03_Ints.calls kj4 _ _ t547 _ _ t560 false _ ?side1 ?side2 ?side3 ?side4 A65.out).mono ?_); (case side1 => repeat (first | exact (Kd.V_reads' HO549.out).2.2 | (with_reducible refine Kd.C_alloc ?_ _) | (with_reducible refine Kd.C_drewN ?_ _) | (with_reducible refine Kd.C_drew ?_))); (case side2 => exact (Kd.V_reads' HO549.out).2.1); (case side3 => repeat (first | exact (Kd.V_reads' HO562.out).2.2 | (with_reducible refine Kd.C_alloc ?_ _) | (with_reducible refine Kd.C_drewN ?_ _) | (with_reducible refine Kd.C_drew ?_))); (case side4 => exact (Kd.V_reads' HO562.out).2.1); rintro e w' ⟨rfl, ⟨nd, rfl⟩⟩))
       go_meet
       case rel => exact ⟨_, (true), rs_, H', ⟨by have := HJ4.out; first | omega | exact Nat.le_refl _⟩, ⟨by (with_reducible repeat (first | apply Kd.R_alloc | apply Kd.R_drewN | apply Kd.R_drew)); exact HO555.out⟩, ⟨by (with_reducible repeat (first | apply Kd.R_alloc | apply Kd.R_drewN | apply Kd.R_drew)); exact HO558.out⟩, ⟨bk_ BK539⟩, ⟨bk_ BK540⟩, ⟨bk_ BK541⟩, ⟨bk_ BK559⟩, ⟨hB_ HB⟩⟩
     ·replace c64 := Bool.eq_false_iff.mpr c64
      subst c64
      have H1 : (lodgerlaw11_SpecLegal.j1 kj4 l1 true a0_0 a0_1 l0_2 a0_3 a0_4 a0_5 a0_6 a2_0 a2_1 l2_2 a3_0 a3_1 a3_2 l3_3 l3_4) = some r := by rw [if_neg (show ¬ (false = true) by decide)] at H; exact H
      clear H; have H := H1; clear H1
      have H' := Aside0.mk H
      clear H
      go_wp2
      go_meet
      case rel => exact ⟨_, (true), rs_, H', ⟨by have := HJ4.out; first | omega | exact Nat.le_refl _⟩, ⟨by (with_reducible repeat (first | apply Kd.R_alloc | apply Kd.R_drewN | apply Kd.R_drew)); exact HO555.out⟩, ⟨by (with_reducible repeat (first | apply Kd.R_alloc | apply Kd.R_drewN | apply Kd.R_drew)); exact HO558.out⟩, ⟨bk_ BK539⟩, ⟨bk_ BK540⟩, ⟨bk_ BK541⟩, ⟨bk_ BK559⟩, ⟨hB_ HB⟩⟩
    case rest =>
     clear HC45
     try clear c1
     try clear c2
     try clear p2
     try clear c3
     try clear c4
     try clear c5
     try clear c6
     try clear c7
     try clear c8
     try clear c9
     try clear c10
     try clear c12
     try clear c13
     try clear c14
     try clear c15
     try clear c17
     try clear c18
     try clear c21
     try clear c27
     try clear c28
     try clear c31
     try clear c35
     try clear c36
     try clear c40
     try clear c46
     try clear c47
     try clear c49
     try clear c53
     try clear c54
     try clear c55
     try clear c64
     try clear c66
     try clear c68
     try clear c69
     try clear c69b0
     try clear c69b1
     try clear c72
     try clear c73
     try clear c74
     try clear c77
     try clear c78
     try clear c80
     try clear c80b0
     try clear c80b1
     try clear c83
     try clear c84
     try clear c85
     try clear c88
     try clear c89
     try clear c93
     try clear c94
     try clear c95
     try clear c98
     try clear c99
     try clear c103
     try clear c104
     try clear c105
     try clear hcz100_0 hcz100_1 hcz100_2 hcz100_3 hcz100_4
     try clear hcz106_0 hcz106_1 hcz106_2 hcz106_3 hcz106_4 hcz106_5 hcz106_6
     try clear hcz19_0 hcz19_1 hcz19_2 hcz19_3 hcz19_4 hcz19_5 hcz19_6
     try clear hcz22_0 hcz22_1 hcz22_2
     try clear hcz24_0 hcz24_1 hcz24_2 hcz24_3 hcz24_4
     try clear hcz29_0 hcz29_1 hcz29_2 hcz29_3 hcz29_4 hcz29_5 hcz29_6
     try clear hcz32_0 hcz32_1 hcz32_2
     try clear hcz37_0 hcz37_1 hcz37_2 hcz37_3 hcz37_4 hcz37_5 hcz37_6
     try clear hcz48_0 hcz48_1 hcz48_2 hcz48_3 hcz48_4 hcz48_5 hcz48_6
     try clear hcz50_0 hcz50_1 hcz50_2
     try clear hcz56_0 hcz56_1 hcz56_2 hcz56_3 hcz56_4
     try clear hcz60_0 hcz60_1 hcz60_2 hcz60_3 hcz60_4 hcz60_5 hcz60_6
     try clear hcz61_0 hcz61_1 hcz61_2
     try clear hcz62_0 hcz62_1 hcz62_2 hcz62_3 hcz62_4
     try clear hcz75_0 hcz75_1 hcz75_2 hcz75_3 hcz75_4 hcz75_5 hcz75_6
     try clear hcz79_0 hcz79_1 hcz79_2 hcz79_3 hcz79_4
     try clear hcz86_0 hcz86_1 hcz86_2 hcz86_3 hcz86_4 hcz86_5 hcz86_6
     try clear hcz90_0 hcz90_1 hcz90_2 hcz90_3 hcz90_4
     try clear hcz96_0 hcz96_1 hcz96_2 hcz96_3 hcz96_4 hcz96_5 hcz96_6
     try clear hfz100_0 hfz100_1 hfz100_2 hfz100_3 hfz100_4
     try clear hfz106_0 hfz106_1 hfz106_2 hfz106_3 hfz106_4 hfz106_5 hfz106_6
     try clear hfz19_0 hfz19_1 hfz19_2 hfz19_3 hfz19_4 hfz19_5 hfz19_6
     try clear hfz22_0 hfz22_1 hfz22_2
     try clear hfz24_0 hfz24_1 hfz24_2 hfz24_3 hfz24_4
     try clear hfz29_0 hfz29_1 hfz29_2 hfz29_3 hfz29_4 hfz29_5 hfz29_6
     try clear hfz32_0 hfz32_1 hfz32_2
     try clear hfz37_0 hfz37_1 hfz37_2 hfz37_3 hfz37_4 hfz37_5 hfz37_6
     try clear hfz48_0 hfz48_1 hfz48_2 hfz48_3 hfz48_4 hfz48_5 hfz48_6
     try clear hfz50_0 hfz50_1 hfz50_2
     try clear hfz56_0 hfz56_1 hfz56_2 hfz56_3 hfz56_4
     try clear hfz60_0 hfz60_1 hfz60_2 hfz60_3 hfz60_4 hfz60_5 hfz60_6
     try clear hfz61_0 hfz61_1 hfz61_2
     try clear hfz62_0 hfz62_1 hfz62_2 hfz62_3 hfz62_4
     try clear hfz75_0 hfz75_1 hfz75_2 hfz75_3 hfz75_4 hfz75_5 hfz75_6
     try clear hfz79_0 hfz79_1 hfz79_2 hfz79_3 hfz79_4
     try clear hfz86_0 hfz86_1 hfz86_2 hfz86_3 hfz86_4 hfz86_5 hfz86_6
     try clear hfz90_0 hfz90_1 hfz90_2 hfz90_3 hfz90_4
     try clear hfz96_0 hfz96_1 hfz96_2 hfz96_3 hfz96_4 hfz96_5 hfz96_6
     try clear p2
     obtain ⟨kq, x79_44, rfl, HA, HJ44, HO_560003, HO_560004, BK539, BK540, BK541, BK559, HB⟩ := hcut
     cases kq with
     | zero => exact absurd HA.out (by simp [lodgerlaw11_SpecLegal.j1])
     | succ kj44 =>
      have H := HA.out; clear HA; simp only [lodgerlaw11_SpecLegal.j1] at H
      by_cases c110 : x79_44 = true
      ·subst c110
       have H1 : (some false) = some r := by rw [if_pos rfl] at H; exact H
       rw [hr_.out] at H1
       exact absurd (Option.some.inj H1) (by decide)
      ·as_aux_lemma =>
       replace c110 := Bool.eq_false_iff.mpr c110
       subst c110
       have H1 : ((spec_Legal.f kj44 a0_0 a0_1 l0_2 a0_3 a0_4 a0_5 a0_6 l1 a2_0 a2_1 l2_2 a3_0 a3_1 a3_2 l3_3 l3_4).bind fun bt566 => (if bt566.2 = true then (if a3_0 = 0 then ((lodgerref09_May.f kj44 a0_0 a0_1 l0_2 a0_3 a0_4 a0_5 a0_6 bt566.1).bind fun t571 => (if t571 = true then (lodgerlaw11_SpecLegal.j2 kj44 l1 bt566.1 (decide ((bt566.1.length : Int) > (wrap64 ((l1.length : Int) + 1)))) a0_0 a0_1 l0_2 a0_3 a0_4 a0_5 a0_6 a2_0 a2_1 l2_2 a3_0 a3_1 a3_2 l3_3 l3_4) else (lodgerlaw11_SpecLegal.j2 kj44 l1 bt566.1 true a0_0 a0_1 l0_2 a0_3 a0_4 a0_5 a0_6 a2_0 a2_1 l2_2 a3_0 a3_1 a3_2 l3_3 l3_4))) else ((lodgerref03_Ints.f kj44 bt566.1 l1).bind fun t572 => (if t572 = true then ((lodgerref09_May.f kj44 a0_0 a0_1 l0_2 a0_3 a0_4 a0_5 a0_6 bt566.1).bind fun t573 => (if t573 = true then (lodgerlaw11_SpecLegal.j2 kj44 l1 bt566.1 (decide ((bt566.1.length : Int) > (wrap64 ((l1.length : Int) + 1)))) a0_0 a0_1 l0_2 a0_3 a0_4 a0_5 a0_6 a2_0 a2_1 l2_2 a3_0 a3_1 a3_2 l3_3 l3_4) else (lodgerlaw11_SpecLegal.j2 kj44 l1 bt566.1 true a0_0 a0_1 l0_2 a0_3 a0_4 a0_5 a0_6 a2_0 a2_1 l2_2 a3_0 a3_1 a3_2 l3_3 l3_4))) else (lodgerlaw11_SpecLegal.j2 kj44 l1 bt566.1 true a0_0 a0_1 l0_2 a0_3 a0_4 a0_5 a0_6 a2_0 a2_1 l2_2 a3_0 a3_1 a3_2 l3_3 l3_4)))) else ((lodgerref03_Ints.f kj44 bt566.1 l1).bind fun t570 => (some t570)))) = some r := by rw [if_neg (show ¬ (false = true) by decide)] at H; exact H
       clear H; have H := H1; clear H1; replace H := Option.bind_eq_some_iff.mp H; obtain ⟨⟨t566, t569⟩, A1110, H⟩ := H
       replace H : (if t569 = true then (if a3_0 = 0 then ((lodgerref09_May.f kj44 a0_0 a0_1 l0_2 a0_3 a0_4 a0_5 a0_6 t566).bind fun t571 => (if t571 = true then (lodgerlaw11_SpecLegal.j2 kj44 l1 t566 (decide ((t566.length : Int) > (wrap64 ((l1.length : Int) + 1)))) a0_0 a0_1 l0_2 a0_3 a0_4 a0_5 a0_6 a2_0 a2_1 l2_2 a3_0 a3_1 a3_2 l3_3 l3_4) else (lodgerlaw11_SpecLegal.j2 kj44 l1 t566 true a0_0 a0_1 l0_2 a0_3 a0_4 a0_5 a0_6 a2_0 a2_1 l2_2 a3_0 a3_1 a3_2 l3_3 l3_4))) else ((lodgerref03_Ints.f kj44 t566 l1).bind fun t572 => (if t572 = true then ((lodgerref09_May.f kj44 a0_0 a0_1 l0_2 a0_3 a0_4 a0_5 a0_6 t566).bind fun t573 => (if t573 = true then (lodgerlaw11_SpecLegal.j2 kj44 l1 t566 (decide ((t566.length : Int) > (wrap64 ((l1.length : Int) + 1)))) a0_0 a0_1 l0_2 a0_3 a0_4 a0_5 a0_6 a2_0 a2_1 l2_2 a3_0 a3_1 a3_2 l3_3 l3_4) else (lodgerlaw11_SpecLegal.j2 kj44 l1 t566 true a0_0 a0_1 l0_2 a0_3 a0_4 a0_5 a0_6 a2_0 a2_1 l2_2 a3_0 a3_1 a3_2 l3_3 l3_4))) else (lodgerlaw11_SpecLegal.j2 kj44 l1 t566 true a0_0 a0_1 l0_2 a0_3 a0_4 a0_5 a0_6 a2_0 a2_1 l2_2 a3_0 a3_1 a3_2 l3_3 l3_4)))) else ((lodgerref03_Ints.f kj44 t566 l1).bind fun t570 => (some t570))) = some r := H
       have A111 := Aside0.mk A1110; clear A1110
       by_cases c112 : t569 = true
       ·as_aux_lemma =>
        subst c112
        have H1 : (if a3_0 = 0 then ((lodgerref09_May.f kj44 a0_0 a0_1 l0_2 a0_3 a0_4 a0_5 a0_6 t566).bind fun t571 => (if t571 = true then (lodgerlaw11_SpecLegal.j2 kj44 l1 t566 (decide ((t566.length : Int) > (wrap64 ((l1.length : Int) + 1)))) a0_0 a0_1 l0_2 a0_3 a0_4 a0_5 a0_6 a2_0 a2_1 l2_2 a3_0 a3_1 a3_2 l3_3 l3_4) else (lodgerlaw11_SpecLegal.j2 kj44 l1 t566 true a0_0 a0_1 l0_2 a0_3 a0_4 a0_5 a0_6 a2_0 a2_1 l2_2 a3_0 a3_1 a3_2 l3_3 l3_4))) else ((lodgerref03_Ints.f kj44 t566 l1).bind fun t572 => (if t572 = true then ((lodgerref09_May.f kj44 a0_0 a0_1 l0_2 a0_3 a0_4 a0_5 a0_6 t566).bind fun t573 => (if t573 = true then (lodgerlaw11_SpecLegal.j2 kj44 l1 t566 (decide ((t566.length : Int) > (wrap64 ((l1.length : Int) + 1)))) a0_0 a0_1 l0_2 a0_3 a0_4 a0_5 a0_6 a2_0 a2_1 l2_2 a3_0 a3_1 a3_2 l3_3 l3_4) else (lodgerlaw11_SpecLegal.j2 kj44 l1 t566 true a0_0 a0_1 l0_2 a0_3 a0_4 a0_5 a0_6 a2_0 a2_1 l2_2 a3_0 a3_1 a3_2 l3_3 l3_4))) else (lodgerlaw11_SpecLegal.j2 kj44 l1 t566 true a0_0 a0_1 l0_2 a0_3 a0_4 a0_5 a0_6 a2_0 a2_1 l2_2 a3_0 a3_1 a3_2 l3_3 l3_4)))) = some r := by rw [if_pos rfl] at H; exact H
        clear H; have H := H1; clear H1; have HC113 := Aside0.mk H; clear H; have hnb114 := NB539_540.out; have hnc114 := NB540_539.out; have hnb115 := NB539_541.out; have hnc115 := NB541_539.out; have hnb116 := NB539_559.out; have hnc116 := NB559_539.out; obtain ⟨hcz117_0, hcz117_1, hcz117_2, hcz117_3, hcz117_4, hcz117_5, hcz117_6, hfz117_0, hfz117_1, hfz117_2, hfz117_3, hfz117_4, hfz117_5, hfz117_6⟩ := cz7_ (w := wc) BK539; have hnb118 := NB540_541.out; have hnc118 := NB541_540.out; have hnb119 := NB540_559.out; have hnc119 := NB559_540.out; obtain ⟨hcz120_0, hcz120_1, hcz120_2, hfz120_0, hfz120_1, hfz120_2⟩ := cz3_ (w := wc) BK540; have hnb121 := NB541_559.out; have hnc121 := NB559_541.out; obtain ⟨hcz122_0, hcz122_1, hcz122_2, hcz122_3, hcz122_4, hfz122_0, hfz122_1, hfz122_2, hfz122_3, hfz122_4⟩ := cz5_ (w := wc) BK541
        go_upto_region 10 with (first | ((with_reducible refine gate_callee (f := 13) rfl ?_); refine goesL_ (some 85) rfl rfl Tryd.func13 (by kernel_rfl) rfl #[.agg #[.int .u32 a0_0, .int .i64 a0_1, .slice A0_2 l0_2.length c0_2, .int .i64 a0_3, .int .i64 a0_4, .int .i64 a0_5, .int .i64 a0_6], .slice A1 l1.length c1, .agg #[.int .i64 a2_0, .int .u32 a2_1, .slice A2_2 l2_2.length c2_2], .agg #[.int .i64 a3_0, .int .u32 a3_1, .bool a3_2, .slice A3_3 l3_3.length c3_3, .slice A3_4 l3_4.length c3_4]] rfl am_ ?_; (with_reducible refine (spec_Legal.calls kj44 a0_0 a0_1 _ _ l0_2 a0_3 a0_4 a0_5 a0_6 (fun k_ => k_ < w.heap.size) _ _ l1 a2_0 a2_1 _ _ l2_2 a3_0 a3_1 a3_2 _ _ l3_3 _ _ l3_4 t566 true _ ?side1 ?side2 ?side3 ?side4 ?side5 ?side6 ?side7 ?side8 ?side9 ?side10 A111.out).mono ?_); (case side1 => exact cC_ HR0_2 HB); (case side2 => exact HC0_2.out); (case side3 => exact Kd.V_mk HC1.out (Kd.F_below (Kd.C_F (Kd.heap_int .i64) HR1.out) (hB_ HB))); (case side4 => exact cC_ HR2_2 HB); (case side5 => exact HC2_2.out); (case side6 => exact cC_ HR3_3 HB); (case side7 => exact HC3_3.out); (case side8 => exact cC_ HR3_4 HB); (case side9 => exact HC3_4.out); (case side10 => exact Lg_below HG.out (hB_ HB)); rintro e w123 ⟨v567, rfl, ho0, hb⟩; refine ⟨_, rfl, ?_⟩; have n0_ := Aside0.mk (Kd.R_below (rR_ HO_560003) hb); have n1_ := Aside0.mk (Kd.R_below (rR_ HO_560004) hb); have n2_ := Aside0.mk (Kd.V_lower (Kd.V_mono (ok' := fun k_ => some k_ ≠ (.slice Ao57 t553.length co57 : Value).ownBlock ∧ some k_ ≠ (.slice Ao58 t556.length co58 : Value).ownBlock ∧ k_ ≠ gb539 ∧ k_ ≠ gb540 ∧ k_ ≠ gb541 ∧ k_ ≠ gb559) ho0 (fun k_ hk_ => ⟨Or.elim hk_ (fun hs_ => fun e_ => Nat.not_le.2 hs_ (Kd.R_base HO_560003.out k_ e_.symm)) (fun hn_ => (Kd.fresh' (Kd.R_lt (rR_ HO_560003)) k_ hn_)), Or.elim hk_ (fun hs_ => fun e_ => Nat.not_le.2 hs_ (Kd.R_base HO_560004.out k_ e_.symm)) (fun hn_ => (Kd.fresh' (Kd.R_lt (rR_ HO_560004)) k_ hn_)), Or.elim hk_ (fun hs_ => fun e_ => Nat.not_le.2 hs_ (by rw [e_]; exact GW539.out)) (fun hn_ => (fB_ BK539 k_ hn_)), Or.elim hk_ (fun hs_ => fun e_ => Nat.not_le.2 hs_ (by rw [e_]; exact GW540.out)) (fun hn_ => (fB_ BK540 k_ hn_)), Or.elim hk_ (fun hs_ => fun e_ => Nat.not_le.2 hs_ (by rw [e_]; exact GW541.out)) (fun hn_ => (fB_ BK541 k_ hn_)), Or.elim hk_ (fun hs_ => fun e_ => Nat.not_le.2 hs_ (by rw [e_]; exact GW559.out)) (fun hn_ => (fB_ BK559 k_ hn_))⟩)) (below_size (hB_ HB))); have n4_ := bB_ BK540 hb; have n6_ := bB_ BK559 hb; clear HO_560003; clear HO_560004; clear BK540; clear BK559; have HO_560003 := n0_; have HO_560004 := n1_; have HO568 := n2_; have BK540 := n4_; have BK559 := n6_; replace BK539 := bB_ BK539 hb; replace BK541 := bB_ BK541 hb; replace HB := hS_ HB hb; clear n0_ n1_ n2_ n4_ n6_; (try clear hb); (try clear hb2); (try clear hk); (try clear hi); (try clear ho0)))
        (try simp only [Act.put, List.setIfInBounds_toArray, List.set_cons_zero, List.set_cons_succ])
        go_cut [115] (fun v115 wc => ∃ (kq : Nat) (x115_112 : Bool), v115 = .bool x115_112 ∧ Aside0 (lodgerlaw11_SpecLegal.j2 kq l1 t566 x115_112 a0_0 a0_1 l0_2 a0_3 a0_4 a0_5 a0_6 a2_0 a2_1 l2_2 a3_0 a3_1 a3_2 l3_3 l3_4 = some r) ∧ Aside0 (kq ≤ kj44) ∧ Aside0 (Kd.V (Kd.int .i64) 3 wc w.heap.size (fun k_ => some k_ ≠ ((.slice Ao57 t553.length co57) : Value).ownBlock ∧ some k_ ≠ ((.slice Ao58 t556.length co58) : Value).ownBlock ∧ k_ ≠ gb539 ∧ k_ ≠ gb540 ∧ k_ ≠ gb541 ∧ k_ ≠ gb559) v567 t566) ∧ Aside0 (Kd.R (Kd.int .u32) 22 wc w.heap.size (fun _ => True) (.slice Ao57 t553.length co57) t553) ∧ Aside0 (Kd.R (Kd.int .i64) 31 wc w.heap.size (fun _ => True) (.slice Ao58 t556.length co58) t556) ∧ Aside0 (wc.heap[gb539]? = some (.cells #[.int .u32 a0_0, .int .i64 a0_1, (.slice A0_2 l0_2.length c0_2), .int .i64 a0_3, .int .i64 a0_4, .int .i64 a0_5, .int .i64 a0_6] 27 (0, 0))) ∧ Aside0 (wc.heap[gb540]? = some (.cells #[.int .i64 a2_0, .int .u32 a2_1, (.slice A2_2 l2_2.length c2_2)] 30 (0, 0))) ∧ Aside0 (wc.heap[gb541]? = some (.cells #[.int .i64 a3_0, .int .u32 a3_1, .bool a3_2, (.slice A3_3 l3_3.length c3_3), (.slice A3_4 l3_4.length c3_4)] 34 (0, 0))) ∧ Aside0 (wc.heap[gb559]? = some (.cells #[.int .i64 t550, .int .u32 t551, .bool t552, (.slice Ao57 t553.length co57), (.slice Ao58 t556.length co58)] 34 (0, 0))) ∧ Aside0 (Below w.heap.size w wc))
        case first =>
         have H := HC113.out; clear HC113
         by_cases c124 : a3_0 = 0
         ·as_aux_lemma =>
          rw [if_pos c124] at H
          have c124b0 : (a3_0 == 0) = true := beq_iff_eq.mpr c124
          have c124b1 : (a3_0 != 0) = false := bne_eq_false_iff_eq.mpr c124
          clear c124
          (first | rw [c124b0] | (simp only [i64_w, i32_w, IntKind.wrap_u32, Int.add_emod_emod, Int.emod_add_emod]; rw [c124b0]) | skip)
          replace H := Option.bind_eq_some_iff.mp H; obtain ⟨t571, A1250, H⟩ := H
          replace H : (if t571 = true then (lodgerlaw11_SpecLegal.j2 kj44 l1 t566 (decide ((t566.length : Int) > (wrap64 ((l1.length : Int) + 1)))) a0_0 a0_1 l0_2 a0_3 a0_4 a0_5 a0_6 a2_0 a2_1 l2_2 a3_0 a3_1 a3_2 l3_3 l3_4) else (lodgerlaw11_SpecLegal.j2 kj44 l1 t566 true a0_0 a0_1 l0_2 a0_3 a0_4 a0_5 a0_6 a2_0 a2_1 l2_2 a3_0 a3_1 a3_2 l3_3 l3_4)) = some r := H
          have A125 := Aside0.mk A1250; clear A1250
          by_cases c126 : t571 = true
          ·subst c126
           have H1 : (lodgerlaw11_SpecLegal.j2 kj44 l1 t566 (decide ((t566.length : Int) > (wrap64 ((l1.length : Int) + 1)))) a0_0 a0_1 l0_2 a0_3 a0_4 a0_5 a0_6 a2_0 a2_1 l2_2 a3_0 a3_1 a3_2 l3_3 l3_4) = some r := by rw [if_pos rfl] at H; exact H
           clear H; have H := H1; clear H1
           have H' := Aside0.mk H
           clear H; have hnb127 := NB541_539.out; have hnc127 := NB539_541.out; have hnb128 := NB541_540.out; have hnc128 := NB540_541.out; have hnb129 := NB541_559.out; have hnc129 := NB559_541.out; obtain ⟨hcz130_0, hcz130_1, hcz130_2, hcz130_3, hcz130_4, hfz130_0, hfz130_1, hfz130_2, hfz130_3, hfz130_4⟩ := cz5_ (w := w123) BK541; have hnb131 := NB539_540.out; have hnc131 := NB540_539.out; have hnb132 := NB539_559.out; have hnc132 := NB559_539.out; obtain ⟨hcz133_0, hcz133_1, hcz133_2, hcz133_3, hcz133_4, hcz133_5, hcz133_6, hfz133_0, hfz133_1, hfz133_2, hfz133_3, hfz133_4, hfz133_5, hfz133_6⟩ := cz7_ (w := w123) BK539; obtain ⟨Ao134, co134, eo134⟩ := Kd.V_slice HO568.out; subst eo134
           go_wp2_with (first | (go_at_call 20; (with_reducible refine (lodgerref09_May.calls kj44 a0_0 a0_1 _ _ l0_2 a0_3 a0_4 a0_5 a0_6 _ _ t566 true _ ?side1 ?side2 ?side3 ?side4 A125.out).mono ?_); (case side1 => exact cC_ HR0_2 HB); (case side2 => exact HC0_2.out); (case side3 => repeat (first | exact (Kd.V_reads' HO568.out).2.2 | (with_reducible refine Kd.C_alloc ?_ _) | (with_reducible refine Kd.C_drewN ?_ _) | (with_reducible refine Kd.C_drew ?_))); (case side4 => exact (Kd.V_reads' HO568.out).2.1); rintro e w135 ⟨rfl, hb⟩; have n0_ := Aside0.mk (Kd.R_below (rR_ HO_560003) hb); have n1_ := Aside0.mk (Kd.R_below (rR_ HO_560004) hb); have n2_ := Aside0.mk (Kd.V_below (vV_ HO568) hb); have n4_ := bB_ BK540 hb; have n6_ := bB_ BK559 hb; clear HO_560003; clear HO_560004; clear HO568; clear BK540; clear BK559; have HO_560003 := n0_; have HO_560004 := n1_; have HO568 := n2_; have BK540 := n4_; have BK559 := n6_; replace BK539 := bB_ BK539 hb; replace BK541 := bB_ BK541 hb; replace HB := hS_ HB hb; clear n0_ n1_ n2_ n4_ n6_; (try clear hb); (try clear hb2); (try clear hk); (try clear hi)))
           go_meet
           case rel => exact ⟨_, (decide ((t566.length : Int) > (wrap64 ((l1.length : Int) + 1)))), rs_, H', ⟨by have := HJ4.out; have := HJ44.out; first | omega | exact Nat.le_refl _⟩, ⟨by (with_reducible repeat (first | apply Kd.V_alloc | apply Kd.V_drewN | apply Kd.V_drew)); exact HO568.out⟩, ⟨by (with_reducible repeat (first | apply Kd.R_alloc | apply Kd.R_drewN | apply Kd.R_drew)); exact HO_560003.out⟩, ⟨by (with_reducible repeat (first | apply Kd.R_alloc | apply Kd.R_drewN | apply Kd.R_drew)); exact HO_560004.out⟩, ⟨bk_ BK539⟩, ⟨bk_ BK540⟩, ⟨bk_ BK541⟩, ⟨bk_ BK559⟩, ⟨hB_ HB⟩⟩
          ·replace c126 := Bool.eq_false_iff.mpr c126
           subst c126
           have H1 : (lodgerlaw11_SpecLegal.j2 kj44 l1 t566 true a0_0 a0_1 l0_2 a0_3 a0_4 a0_5 a0_6 a2_0 a2_1 l2_2 a3_0 a3_1 a3_2 l3_3 l3_4) = some r := by rw [if_neg (show ¬ (false = true) by decide)] at H; exact H
           clear H; have H := H1; clear H1
           have H' := Aside0.mk H
           clear H; have hnb136 := NB541_539.out; have hnc136 := NB539_541.out; have hnb137 := NB541_540.out; have hnc137 := NB540_541.out; have hnb138 := NB541_559.out; have hnc138 := NB559_541.out; obtain ⟨hcz139_0, hcz139_1, hcz139_2, hcz139_3, hcz139_4, hfz139_0, hfz139_1, hfz139_2, hfz139_3, hfz139_4⟩ := cz5_ (w := w123) BK541; have hnb140 := NB539_540.out; have hnc140 := NB540_539.out; have hnb141 := NB539_559.out; have hnc141 := NB559_539.out; obtain ⟨hcz142_0, hcz142_1, hcz142_2, hcz142_3, hcz142_4, hcz142_5, hcz142_6, hfz142_0, hfz142_1, hfz142_2, hfz142_3, hfz142_4, hfz142_5, hfz142_6⟩ := cz7_ (w := w123) BK539; obtain ⟨Ao143, co143, eo143⟩ := Kd.V_slice HO568.out; subst eo143
           go_wp2_with (first | (go_at_call 20; (with_reducible refine (lodgerref09_May.calls kj44 a0_0 a0_1 _ _ l0_2 a0_3 a0_4 a0_5 a0_6 _ _ t566 false _ ?side1 ?side2 ?side3 ?side4 A125.out).mono ?_); (case side1 => exact cC_ HR0_2 HB); (case side2 => exact HC0_2.out); (case side3 => repeat (first | exact (Kd.V_reads' HO568.out).2.2 | (with_reducible refine Kd.C_alloc ?_ _) | (with_reducible refine Kd.C_drewN ?_ _) | (with_reducible refine Kd.C_drew ?_))); (case side4 => exact (Kd.V_reads' HO568.out).2.1); rintro e w144 ⟨rfl, hb⟩; have n0_ := Aside0.mk (Kd.R_below (rR_ HO_560003) hb); have n1_ := Aside0.mk (Kd.R_below (rR_ HO_560004) hb); have n2_ := Aside0.mk (Kd.V_below (vV_ HO568) hb); have n4_ := bB_ BK540 hb; have n6_ := bB_ BK559 hb; clear HO_560003; clear HO_560004; clear HO568; clear BK540; clear BK559; have HO_560003 := n0_; have HO_560004 := n1_; have HO568 := n2_; have BK540 := n4_; have BK559 := n6_; replace BK539 := bB_ BK539 hb; replace BK541 := bB_ BK541 hb; replace HB := hS_ HB hb; clear n0_ n1_ n2_ n4_ n6_; (try clear hb); (try clear hb2); (try clear hk); (try clear hi)))
           go_meet
           case rel => exact ⟨_, (true), rs_, H', ⟨by have := HJ4.out; have := HJ44.out; first | omega | exact Nat.le_refl _⟩, ⟨by (with_reducible repeat (first | apply Kd.V_alloc | apply Kd.V_drewN | apply Kd.V_drew)); exact HO568.out⟩, ⟨by (with_reducible repeat (first | apply Kd.R_alloc | apply Kd.R_drewN | apply Kd.R_drew)); exact HO_560003.out⟩, ⟨by (with_reducible repeat (first | apply Kd.R_alloc | apply Kd.R_drewN | apply Kd.R_drew)); exact HO_560004.out⟩, ⟨bk_ BK539⟩, ⟨bk_ BK540⟩, ⟨bk_ BK541⟩, ⟨bk_ BK559⟩, ⟨hB_ HB⟩⟩
         ·rw [if_neg c124] at H
          have c124b0 : (a3_0 == 0) = false := beq_eq_false_iff_ne.mpr c124
          have c124b1 : (a3_0 != 0) = true := bne_iff_ne.mpr c124
          (first | rw [c124b0] | (simp only [i64_w, i32_w, IntKind.wrap_u32, Int.add_emod_emod, Int.emod_add_emod]; rw [c124b0]) | skip)
          replace H := Option.bind_eq_some_iff.mp H; obtain ⟨t572, A1450, H⟩ := H
          replace H : (if t572 = true then ((lodgerref09_May.f kj44 a0_0 a0_1 l0_2 a0_3 a0_4 a0_5 a0_6 t566).bind fun t573 => (if t573 = true then (lodgerlaw11_SpecLegal.j2 kj44 l1 t566 (decide ((t566.length : Int) > (wrap64 ((l1.length : Int) + 1)))) a0_0 a0_1 l0_2 a0_3 a0_4 a0_5 a0_6 a2_0 a2_1 l2_2 a3_0 a3_1 a3_2 l3_3 l3_4) else (lodgerlaw11_SpecLegal.j2 kj44 l1 t566 true a0_0 a0_1 l0_2 a0_3 a0_4 a0_5 a0_6 a2_0 a2_1 l2_2 a3_0 a3_1 a3_2 l3_3 l3_4))) else (lodgerlaw11_SpecLegal.j2 kj44 l1 t566 true a0_0 a0_1 l0_2 a0_3 a0_4 a0_5 a0_6 a2_0 a2_1 l2_2 a3_0 a3_1 a3_2 l3_3 l3_4)) = some r := H
          have A145 := Aside0.mk A1450; clear A1450
          by_cases c146 : t572 = true
          ·as_aux_lemma =>
           subst c146
           have H1 : ((lodgerref09_May.f kj44 a0_0 a0_1 l0_2 a0_3 a0_4 a0_5 a0_6 t566).bind fun t573 => (if t573 = true then (lodgerlaw11_SpecLegal.j2 kj44 l1 t566 (decide ((t566.length : Int) > (wrap64 ((l1.length : Int) + 1)))) a0_0 a0_1 l0_2 a0_3 a0_4 a0_5 a0_6 a2_0 a2_1 l2_2 a3_0 a3_1 a3_2 l3_3 l3_4) else (lodgerlaw11_SpecLegal.j2 kj44 l1 t566 true a0_0 a0_1 l0_2 a0_3 a0_4 a0_5 a0_6 a2_0 a2_1 l2_2 a3_0 a3_1 a3_2 l3_3 l3_4))) = some r := by rw [if_pos rfl] at H; exact H
           clear H; have H := H1; clear H1; replace H := Option.bind_eq_some_iff.mp H; obtain ⟨t573, A1470, H⟩ := H
           replace H : (if t573 = true then (lodgerlaw11_SpecLegal.j2 kj44 l1 t566 (decide ((t566.length : Int) > (wrap64 ((l1.length : Int) + 1)))) a0_0 a0_1 l0_2 a0_3 a0_4 a0_5 a0_6 a2_0 a2_1 l2_2 a3_0 a3_1 a3_2 l3_3 l3_4) else (lodgerlaw11_SpecLegal.j2 kj44 l1 t566 true a0_0 a0_1 l0_2 a0_3 a0_4 a0_5 a0_6 a2_0 a2_1 l2_2 a3_0 a3_1 a3_2 l3_3 l3_4)) = some r := H
           have A147 := Aside0.mk A1470; clear A1470
           by_cases c148 : t573 = true
           ·subst c148
            have H1 : (lodgerlaw11_SpecLegal.j2 kj44 l1 t566 (decide ((t566.length : Int) > (wrap64 ((l1.length : Int) + 1)))) a0_0 a0_1 l0_2 a0_3 a0_4 a0_5 a0_6 a2_0 a2_1 l2_2 a3_0 a3_1 a3_2 l3_3 l3_4) = some r := by rw [if_pos rfl] at H; exact H
            clear H; have H := H1; clear H1
            have H' := Aside0.mk H
            clear H; have hnb149 := NB541_539.out; have hnc149 := NB539_541.out; have hnb150 := NB541_540.out; have hnc150 := NB540_541.out; have hnb151 := NB541_559.out; have hnc151 := NB559_541.out; obtain ⟨hcz152_0, hcz152_1, hcz152_2, hcz152_3, hcz152_4, hfz152_0, hfz152_1, hfz152_2, hfz152_3, hfz152_4⟩ := cz5_ (w := w123) BK541; obtain ⟨Ao153, co153, eo153⟩ := Kd.V_slice HO568.out; subst eo153
            go_wp2_with (first | (go_at_call 17; (with_reducible refine (lodgerref03_Ints.calls kj44 _ _ t566 _ _ l1 true _ ?side1 ?side2 ?side3 ?side4 A145.out).mono ?_); (case side1 => repeat (first | exact (Kd.V_reads' HO568.out).2.2 | (with_reducible refine Kd.C_alloc ?_ _) | (with_reducible refine Kd.C_drewN ?_ _) | (with_reducible refine Kd.C_drew ?_))); (case side2 => exact (Kd.V_reads' HO568.out).2.1); (case side3 => exact cC_ HR1 HB); (case side4 => exact HC1.out); rintro e w' ⟨rfl, ⟨nd, rfl⟩⟩; have hnb154 := NB539_540.out; have hnc154 := NB540_539.out; have hnb155 := NB539_559.out; have hnc155 := NB559_539.out; obtain ⟨hcz156_0, hcz156_1, hcz156_2, hcz156_3, hcz156_4, hcz156_5, hcz156_6, hfz156_0, hfz156_1, hfz156_2, hfz156_3, hfz156_4, hfz156_5, hfz156_6⟩ := cz7_ (w := w123) BK539) | (go_at_call 20; (with_reducible refine (lodgerref09_May.calls kj44 a0_0 a0_1 _ _ l0_2 a0_3 a0_4 a0_5 a0_6 _ _ t566 true _ ?side1 ?side2 ?side3 ?side4 A147.out).mono ?_); (case side1 => repeat (first | exact (Kd.C_below HR0_2.out (hB_ HB)) | (with_reducible refine Kd.C_alloc ?_ _) | (with_reducible refine Kd.C_drewN ?_ _) | (with_reducible refine Kd.C_drew ?_))); (case side2 => exact HC0_2.out); (case side3 => repeat (first | exact (Kd.V_reads' HO568.out).2.2 | (with_reducible refine Kd.C_alloc ?_ _) | (with_reducible refine Kd.C_drewN ?_ _) | (with_reducible refine Kd.C_drew ?_))); (case side4 => exact (Kd.V_reads' HO568.out).2.1); rintro e w157 ⟨rfl, hb⟩; have n0_ := Aside0.mk (Kd.R_below (rR_ HO_560003) hb); have n1_ := Aside0.mk (Kd.R_below (rR_ HO_560004) hb); have n2_ := Aside0.mk (Kd.V_below (vV_ HO568) hb); have n4_ := bB_ BK540 hb; have n6_ := bB_ BK559 hb; clear HO_560003; clear HO_560004; clear HO568; clear BK540; clear BK559; have HO_560003 := n0_; have HO_560004 := n1_; have HO568 := n2_; have BK540 := n4_; have BK559 := n6_; replace BK539 := bB_ BK539 hb; replace BK541 := bB_ BK541 hb; replace HB := hS_ HB hb; clear n0_ n1_ n2_ n4_ n6_; (try clear hb); (try clear hb2); (try clear hk); (try clear hi)))
            go_meet
            case rel => exact ⟨_, (decide ((t566.length : Int) > (wrap64 ((l1.length : Int) + 1)))), rs_, H', ⟨by have := HJ4.out; have := HJ44.out; first | omega | exact Nat.le_refl _⟩, ⟨by (with_reducible repeat (first | apply Kd.V_alloc | apply Kd.V_drewN | apply Kd.V_drew)); exact HO568.out⟩, ⟨by (with_reducible repeat (first | apply Kd.R_alloc | apply Kd.R_drewN | apply Kd.R_drew)); exact HO_560003.out⟩, ⟨by (with_reducible repeat (first | apply Kd.R_alloc | apply Kd.R_drewN | apply Kd.R_drew)); exact HO_560004.out⟩, ⟨bk_ BK539⟩, ⟨bk_ BK540⟩, ⟨bk_ BK541⟩, ⟨bk_ BK559⟩, ⟨hB_ HB⟩⟩
           ·replace c148 := Bool.eq_false_iff.mpr c148
            subst c148
            have H1 : (lodgerlaw11_SpecLegal.j2 kj44 l1 t566 true a0_0 a0_1 l0_2 a0_3 a0_4 a0_5 a0_6 a2_0 a2_1 l2_2 a3_0 a3_1 a3_2 l3_3 l3_4) = some r := by rw [if_neg (show ¬ (false = true) by decide)] at H; exact H
            clear H; have H := H1; clear H1
            have H' := Aside0.mk H
            clear H; have hnb158 := NB541_539.out; have hnc158 := NB539_541.out; have hnb159 := NB541_540.out; have hnc159 := NB540_541.out; have hnb160 := NB541_559.out; have hnc160 := NB559_541.out; obtain ⟨hcz161_0, hcz161_1, hcz161_2, hcz161_3, hcz161_4, hfz161_0, hfz161_1, hfz161_2, hfz161_3, hfz161_4⟩ := cz5_ (w := w123) BK541; obtain ⟨Ao162, co162, eo162⟩ := Kd.V_slice HO568.out; subst eo162
            go_wp2_with (first | (go_at_call 17; (with_reducible refine (lodgerref03_Ints.calls kj44 _ _ t566 _ _ l1 true _ ?side1 ?side2 ?side3 ?side4 A145.out).mono ?_); (case side1 => repeat (first | exact (Kd.V_reads' HO568.out).2.2 | (with_reducible refine Kd.C_alloc ?_ _) | (with_reducible refine Kd.C_drewN ?_ _) | (with_reducible refine Kd.C_drew ?_))); (case side2 => exact (Kd.V_reads' HO568.out).2.1); (case side3 => exact cC_ HR1 HB); (case side4 => exact HC1.out); rintro e w' ⟨rfl, ⟨nd, rfl⟩⟩; have hnb163 := NB539_540.out; have hnc163 := NB540_539.out; have hnb164 := NB539_559.out; have hnc164 := NB559_539.out; obtain ⟨hcz165_0, hcz165_1, hcz165_2, hcz165_3, hcz165_4, hcz165_5, hcz165_6, hfz165_0, hfz165_1, hfz165_2, hfz165_3, hfz165_4, hfz165_5, hfz165_6⟩ := cz7_ (w := w123) BK539) | (go_at_call 20; (with_reducible refine (lodgerref09_May.calls kj44 a0_0 a0_1 _ _ l0_2 a0_3 a0_4 a0_5 a0_6 _ _ t566 false _ ?side1 ?side2 ?side3 ?side4 A147.out).mono ?_); (case side1 => repeat (first | exact (Kd.C_below HR0_2.out (hB_ HB)) | (with_reducible refine Kd.C_alloc ?_ _) | (with_reducible refine Kd.C_drewN ?_ _) | (with_reducible refine Kd.C_drew ?_))); (case side2 => exact HC0_2.out); (case side3 => repeat (first | exact (Kd.V_reads' HO568.out).2.2 | (with_reducible refine Kd.C_alloc ?_ _) | (with_reducible refine Kd.C_drewN ?_ _) | (with_reducible refine Kd.C_drew ?_))); (case side4 => exact (Kd.V_reads' HO568.out).2.1); rintro e w166 ⟨rfl, hb⟩; have n0_ := Aside0.mk (Kd.R_below (rR_ HO_560003) hb); have n1_ := Aside0.mk (Kd.R_below (rR_ HO_560004) hb); have n2_ := Aside0.mk (Kd.V_below (vV_ HO568) hb); have n4_ := bB_ BK540 hb; have n6_ := bB_ BK559 hb; clear HO_560003; clear HO_560004; clear HO568; clear BK540; clear BK559; have HO_560003 := n0_; have HO_560004 := n1_; have HO568 := n2_; have BK540 := n4_; have BK559 := n6_; replace BK539 := bB_ BK539 hb; replace BK541 := bB_ BK541 hb; replace HB := hS_ HB hb; clear n0_ n1_ n2_ n4_ n6_; (try clear hb); (try clear hb2); (try clear hk); (try clear hi)))
            go_meet
            case rel => exact ⟨_, (true), rs_, H', ⟨by have := HJ4.out; have := HJ44.out; first | omega | exact Nat.le_refl _⟩, ⟨by (with_reducible repeat (first | apply Kd.V_alloc | apply Kd.V_drewN | apply Kd.V_drew)); exact HO568.out⟩, ⟨by (with_reducible repeat (first | apply Kd.R_alloc | apply Kd.R_drewN | apply Kd.R_drew)); exact HO_560003.out⟩, ⟨by (with_reducible repeat (first | apply Kd.R_alloc | apply Kd.R_drewN | apply Kd.R_drew)); exact HO_560004.out⟩, ⟨bk_ BK539⟩, ⟨bk_ BK540⟩, ⟨bk_ BK541⟩, ⟨bk_ BK559⟩, ⟨hB_ HB⟩⟩
          ·replace c146 := Bool.eq_false_iff.mpr c146
           subst c146
           have H1 : (lodgerlaw11_SpecLegal.j2 kj44 l1 t566 true a0_0 a0_1 l0_2 a0_3 a0_4 a0_5 a0_6 a2_0 a2_1 l2_2 a3_0 a3_1 a3_2 l3_3 l3_4) = some r := by rw [if_neg (show ¬ (false = true) by decide)] at H; exact H
           clear H; have H := H1; clear H1
           have H' := Aside0.mk H
           clear H; have hnb167 := NB541_539.out; have hnc167 := NB539_541.out; have hnb168 := NB541_540.out; have hnc168 := NB540_541.out; have hnb169 := NB541_559.out; have hnc169 := NB559_541.out; obtain ⟨hcz170_0, hcz170_1, hcz170_2, hcz170_3, hcz170_4, hfz170_0, hfz170_1, hfz170_2, hfz170_3, hfz170_4⟩ := cz5_ (w := w123) BK541; obtain ⟨Ao171, co171, eo171⟩ := Kd.V_slice HO568.out; subst eo171
           go_wp2_with (first | (go_at_call 17; (with_reducible refine (lodgerref03_Ints.calls kj44 _ _ t566 _ _ l1 false _ ?side1 ?side2 ?side3 ?side4 A145.out).mono ?_); (case side1 => repeat (first | exact (Kd.V_reads' HO568.out).2.2 | (with_reducible refine Kd.C_alloc ?_ _) | (with_reducible refine Kd.C_drewN ?_ _) | (with_reducible refine Kd.C_drew ?_))); (case side2 => exact (Kd.V_reads' HO568.out).2.1); (case side3 => exact cC_ HR1 HB); (case side4 => exact HC1.out); rintro e w' ⟨rfl, ⟨nd, rfl⟩⟩))
           go_meet
           case rel => exact ⟨_, (true), rs_, H', ⟨by have := HJ4.out; have := HJ44.out; first | omega | exact Nat.le_refl _⟩, ⟨by (with_reducible repeat (first | apply Kd.V_alloc | apply Kd.V_drewN | apply Kd.V_drew)); exact HO568.out⟩, ⟨by (with_reducible repeat (first | apply Kd.R_alloc | apply Kd.R_drewN | apply Kd.R_drew)); exact HO_560003.out⟩, ⟨by (with_reducible repeat (first | apply Kd.R_alloc | apply Kd.R_drewN | apply Kd.R_drew)); exact HO_560004.out⟩, ⟨bk_ BK539⟩, ⟨bk_ BK540⟩, ⟨bk_ BK541⟩, ⟨bk_ BK559⟩, ⟨hB_ HB⟩⟩
        case rest =>
         clear HC113
         try clear c1
         try clear c2
         try clear p2
         try clear c3
         try clear c4
         try clear c5
         try clear c6
         try clear p6
         try clear c7
         try clear c8
         try clear c9
         try clear c10
         try clear c11
         try clear c12
         try clear c13
         try clear c14
         try clear c15
         try clear c16
         try clear c17
         try clear c18
         try clear c21
         try clear c27
         try clear c28
         try clear c31
         try clear c35
         try clear c36
         try clear c40
         try clear c46
         try clear c47
         try clear c49
         try clear c53
         try clear c54
         try clear c55
         try clear c64
         try clear p64
         try clear c66
         try clear c68
         try clear c69
         try clear c69b0
         try clear c69b1
         try clear c72
         try clear c73
         try clear c74
         try clear c77
         try clear c78
         try clear c80
         try clear c80b0
         try clear c80b1
         try clear c83
         try clear c84
         try clear c85
         try clear c88
         try clear c89
         try clear c93
         try clear c94
         try clear c95
         try clear c98
         try clear c99
         try clear c103
         try clear c104
         try clear c105
         try clear c110
         try clear c112
         try clear c114
         try clear c115
         try clear c116
         try clear c118
         try clear c119
         try clear c121
         try clear c124
         try clear c124b0
         try clear c124b1
         try clear c126
         try clear c127
         try clear c128
         try clear c129
         try clear c131
         try clear c132
         try clear c136
         try clear c137
         try clear c138
         try clear c140
         try clear c141
         try clear c146
         try clear c148
         try clear c149
         try clear c150
         try clear c151
         try clear c154
         try clear c155
         try clear c158
         try clear c159
         try clear c160
         try clear c163
         try clear c164
         try clear c167
         try clear c168
         try clear c169
         try clear hcz100_0 hcz100_1 hcz100_2 hcz100_3 hcz100_4
         try clear hcz106_0 hcz106_1 hcz106_2 hcz106_3 hcz106_4 hcz106_5 hcz106_6
         try clear hcz117_0 hcz117_1 hcz117_2 hcz117_3 hcz117_4 hcz117_5 hcz117_6
         try clear hcz120_0 hcz120_1 hcz120_2
         try clear hcz122_0 hcz122_1 hcz122_2 hcz122_3 hcz122_4
         try clear hcz130_0 hcz130_1 hcz130_2 hcz130_3 hcz130_4
         try clear hcz133_0 hcz133_1 hcz133_2 hcz133_3 hcz133_4 hcz133_5 hcz133_6
         try clear hcz139_0 hcz139_1 hcz139_2 hcz139_3 hcz139_4
         try clear hcz142_0 hcz142_1 hcz142_2 hcz142_3 hcz142_4 hcz142_5 hcz142_6
         try clear hcz152_0 hcz152_1 hcz152_2 hcz152_3 hcz152_4
         try clear hcz156_0 hcz156_1 hcz156_2 hcz156_3 hcz156_4 hcz156_5 hcz156_6
         try clear hcz161_0 hcz161_1 hcz161_2 hcz161_3 hcz161_4
         try clear hcz165_0 hcz165_1 hcz165_2 hcz165_3 hcz165_4 hcz165_5 hcz165_6
         try clear hcz170_0 hcz170_1 hcz170_2 hcz170_3 hcz170_4
         try clear hcz19_0 hcz19_1 hcz19_2 hcz19_3 hcz19_4 hcz19_5 hcz19_6
         try clear hcz22_0 hcz22_1 hcz22_2
         try clear hcz24_0 hcz24_1 hcz24_2 hcz24_3 hcz24_4
         try clear hcz29_0 hcz29_1 hcz29_2 hcz29_3 hcz29_4 hcz29_5 hcz29_6
         try clear hcz32_0 hcz32_1 hcz32_2
         try clear hcz37_0 hcz37_1 hcz37_2 hcz37_3 hcz37_4 hcz37_5 hcz37_6
         try clear hcz48_0 hcz48_1 hcz48_2 hcz48_3 hcz48_4 hcz48_5 hcz48_6
         try clear hcz50_0 hcz50_1 hcz50_2
         try clear hcz56_0 hcz56_1 hcz56_2 hcz56_3 hcz56_4
         try clear hcz60_0 hcz60_1 hcz60_2 hcz60_3 hcz60_4 hcz60_5 hcz60_6
         try clear hcz61_0 hcz61_1 hcz61_2
         try clear hcz62_0 hcz62_1 hcz62_2 hcz62_3 hcz62_4
         try clear hcz75_0 hcz75_1 hcz75_2 hcz75_3 hcz75_4 hcz75_5 hcz75_6
         try clear hcz79_0 hcz79_1 hcz79_2 hcz79_3 hcz79_4
         try clear hcz86_0 hcz86_1 hcz86_2 hcz86_3 hcz86_4 hcz86_5 hcz86_6
         try clear hcz90_0 hcz90_1 hcz90_2 hcz90_3 hcz90_4
         try clear hcz96_0 hcz96_1 hcz96_2 hcz96_3 hcz96_4 hcz96_5 hcz96_6
         try clear hfz100_0 hfz100_1 hfz100_2 hfz100_3 hfz100_4
         try clear hfz106_0 hfz106_1 hfz106_2 hfz106_3 hfz106_4 hfz106_5 hfz106_6
         try clear hfz117_0 hfz117_1 hfz117_2 hfz117_3 hfz117_4 hfz117_5 hfz117_6
         try clear hfz120_0 hfz120_1 hfz120_2
         try clear hfz122_0 hfz122_1 hfz122_2 hfz122_3 hfz122_4
         try clear hfz130_0 hfz130_1 hfz130_2 hfz130_3 hfz130_4
         try clear hfz133_0 hfz133_1 hfz133_2 hfz133_3 hfz133_4 hfz133_5 hfz133_6
         try clear hfz139_0 hfz139_1 hfz139_2 hfz139_3 hfz139_4
         try clear hfz142_0 hfz142_1 hfz142_2 hfz142_3 hfz142_4 hfz142_5 hfz142_6
         try clear hfz152_0 hfz152_1 hfz152_2 hfz152_3 hfz152_4
         try clear hfz156_0 hfz156_1 hfz156_2 hfz156_3 hfz156_4 hfz156_5 hfz156_6
         try clear hfz161_0 hfz161_1 hfz161_2 hfz161_3 hfz161_4
         try clear hfz165_0 hfz165_1 hfz165_2 hfz165_3 hfz165_4 hfz165_5 hfz165_6
         try clear hfz170_0 hfz170_1 hfz170_2 hfz170_3 hfz170_4
         try clear hfz19_0 hfz19_1 hfz19_2 hfz19_3 hfz19_4 hfz19_5 hfz19_6
         try clear hfz22_0 hfz22_1 hfz22_2
         try clear hfz24_0 hfz24_1 hfz24_2 hfz24_3 hfz24_4
         try clear hfz29_0 hfz29_1 hfz29_2 hfz29_3 hfz29_4 hfz29_5 hfz29_6
         try clear hfz32_0 hfz32_1 hfz32_2
         try clear hfz37_0 hfz37_1 hfz37_2 hfz37_3 hfz37_4 hfz37_5 hfz37_6
         try clear hfz48_0 hfz48_1 hfz48_2 hfz48_3 hfz48_4 hfz48_5 hfz48_6
         try clear hfz50_0 hfz50_1 hfz50_2
         try clear hfz56_0 hfz56_1 hfz56_2 hfz56_3 hfz56_4
         try clear hfz60_0 hfz60_1 hfz60_2 hfz60_3 hfz60_4 hfz60_5 hfz60_6
         try clear hfz61_0 hfz61_1 hfz61_2
         try clear hfz62_0 hfz62_1 hfz62_2 hfz62_3 hfz62_4
         try clear hfz75_0 hfz75_1 hfz75_2 hfz75_3 hfz75_4 hfz75_5 hfz75_6
         try clear hfz79_0 hfz79_1 hfz79_2 hfz79_3 hfz79_4
         try clear hfz86_0 hfz86_1 hfz86_2 hfz86_3 hfz86_4 hfz86_5 hfz86_6
         try clear hfz90_0 hfz90_1 hfz90_2 hfz90_3 hfz90_4
         try clear hfz96_0 hfz96_1 hfz96_2 hfz96_3 hfz96_4 hfz96_5 hfz96_6
         try clear p2
         obtain ⟨kq, x115_112, rfl, HA, HJ112, HO_13, HO_560003, HO_560004, BK539, BK540, BK541, BK559, HB⟩ := hcut
         cases kq with
         | zero => exact absurd HA.out (by simp [lodgerlaw11_SpecLegal.j2])
         | succ kj112 =>
          have H := HA.out; clear HA; simp only [lodgerlaw11_SpecLegal.j2] at H
          by_cases c172 : x115_112 = true
          ·subst c172
           have H1 : (some false) = some r := by rw [if_pos rfl] at H; exact H
           rw [hr_.out] at H1
           exact absurd (Option.some.inj H1) (by decide)
          ·as_aux_lemma =>
           replace c172 := Bool.eq_false_iff.mpr c172
           subst c172
           have H1 : (lodgerlaw11_SpecLegal.l0 kj112 l1 t566 0 0 a0_0 a0_1 l0_2 a0_3 a0_4 a0_5 a0_6 a2_0 a2_1 l2_2 a3_0 a3_1 a3_2 l3_3 l3_4) = some r := by rw [if_neg (show ¬ (false = true) by decide)] at H; exact H
           clear H; have H := H1; clear H1
           have H' := Aside0.mk H
           clear H
           go_wp2
           go_loopg [15, 16] kj112 (fun kq v15 v16 w' => ∃ (x15_4 : Int) (x16_4 : Int), v15 = .int .i64 x15_4 ∧ v16 = .int .i64 x16_4 ∧ Aside0 (lodgerlaw11_SpecLegal.l0 kq l1 t566 x15_4 x16_4 a0_0 a0_1 l0_2 a0_3 a0_4 a0_5 a0_6 a2_0 a2_1 l2_2 a3_0 a3_1 a3_2 l3_3 l3_4 = some r) ∧ Aside0 (kq ≤ kj112) ∧ Aside0 (Kd.V (Kd.int .i64) 3 w' w.heap.size (fun k_ => some k_ ≠ ((.slice Ao57 t553.length co57) : Value).ownBlock ∧ some k_ ≠ ((.slice Ao58 t556.length co58) : Value).ownBlock ∧ k_ ≠ gb539 ∧ k_ ≠ gb540 ∧ k_ ≠ gb541 ∧ k_ ≠ gb559) v567 t566) ∧ Aside0 (Kd.R (Kd.int .u32) 22 w' w.heap.size (fun _ => True) (.slice Ao57 t553.length co57) t553) ∧ Aside0 (Kd.R (Kd.int .i64) 31 w' w.heap.size (fun _ => True) (.slice Ao58 t556.length co58) t556) ∧ Aside0 (w'.heap[gb539]? = some (.cells #[.int .u32 a0_0, .int .i64 a0_1, (.slice A0_2 l0_2.length c0_2), .int .i64 a0_3, .int .i64 a0_4, .int .i64 a0_5, .int .i64 a0_6] 27 (0, 0))) ∧ Aside0 (w'.heap[gb540]? = some (.cells #[.int .i64 a2_0, .int .u32 a2_1, (.slice A2_2 l2_2.length c2_2)] 30 (0, 0))) ∧ Aside0 (w'.heap[gb541]? = some (.cells #[.int .i64 a3_0, .int .u32 a3_1, .bool a3_2, (.slice A3_3 l3_3.length c3_3), (.slice A3_4 l3_4.length c3_4)] 34 (0, 0))) ∧ Aside0 (w'.heap[gb559]? = some (.cells #[.int .i64 t550, .int .u32 t551, .bool t552, (.slice Ao57 t553.length co57), (.slice Ao58 t556.length co58)] 34 (0, 0))) ∧ Aside0 (Below w.heap.size w w'))
           case atStart => exact ⟨(0), (0), rs_, rs_, H', ⟨Nat.le_refl _⟩, ⟨by (with_reducible repeat (first | apply Kd.V_alloc | apply Kd.V_drewN | apply Kd.V_drew)); exact HO_13.out⟩, ⟨by (with_reducible repeat (first | apply Kd.R_alloc | apply Kd.R_drewN | apply Kd.R_drew)); exact HO_560003.out⟩, ⟨by (with_reducible repeat (first | apply Kd.R_alloc | apply Kd.R_drewN | apply Kd.R_drew)); exact HO_560004.out⟩, ⟨bk_ BK539⟩, ⟨bk_ BK540⟩, ⟨bk_ BK541⟩, ⟨bk_ BK559⟩, ⟨hB_ HB⟩⟩
           case round =>
            clear H'
            try clear c1
            try clear c2
            try clear p2
            try clear c3
            try clear c4
            try clear c5
            try clear c6
            try clear p6
            try clear c7
            try clear c8
            try clear c9
            try clear c10
            try clear c11
            try clear c12
            try clear c13
            try clear c14
            try clear c15
            try clear c16
            try clear c17
            try clear c18
            try clear c21
            try clear c27
            try clear c28
            try clear c31
            try clear c35
            try clear c36
            try clear c40
            try clear c46
            try clear c47
            try clear c49
            try clear c53
            try clear c54
            try clear c55
            try clear c64
            try clear p64
            try clear c66
            try clear c68
            try clear c69
            try clear c69b0
            try clear c69b1
            try clear c72
            try clear c73
            try clear c74
            try clear c77
            try clear c78
            try clear c80
            try clear c80b0
            try clear c80b1
            try clear c83
            try clear c84
            try clear c85
            try clear c88
            try clear c89
            try clear c93
            try clear c94
            try clear c95
            try clear c98
            try clear c99
            try clear c103
            try clear c104
            try clear c105
            try clear c110
            try clear c112
            try clear c114
            try clear c115
            try clear c116
            try clear c118
            try clear c119
            try clear c121
            try clear c124
            try clear c124b0
            try clear c124b1
            try clear c126
            try clear c127
            try clear c128
            try clear c129
            try clear c131
            try clear c132
            try clear c136
            try clear c137
            try clear c138
            try clear c140
            try clear c141
            try clear c146
            try clear c148
            try clear c149
            try clear c150
            try clear c151
            try clear c154
            try clear c155
            try clear c158
            try clear c159
            try clear c160
            try clear c163
            try clear c164
            try clear c167
            try clear c168
            try clear c169
            try clear c172
            try clear hcz100_0 hcz100_1 hcz100_2 hcz100_3 hcz100_4
            try clear hcz106_0 hcz106_1 hcz106_2 hcz106_3 hcz106_4 hcz106_5 hcz106_6
            try clear hcz117_0 hcz117_1 hcz117_2 hcz117_3 hcz117_4 hcz117_5 hcz117_6
            try clear hcz120_0 hcz120_1 hcz120_2
            try clear hcz122_0 hcz122_1 hcz122_2 hcz122_3 hcz122_4
            try clear hcz130_0 hcz130_1 hcz130_2 hcz130_3 hcz130_4
            try clear hcz133_0 hcz133_1 hcz133_2 hcz133_3 hcz133_4 hcz133_5 hcz133_6
            try clear hcz139_0 hcz139_1 hcz139_2 hcz139_3 hcz139_4
            try clear hcz142_0 hcz142_1 hcz142_2 hcz142_3 hcz142_4 hcz142_5 hcz142_6
            try clear hcz152_0 hcz152_1 hcz152_2 hcz152_3 hcz152_4
            try clear hcz156_0 hcz156_1 hcz156_2 hcz156_3 hcz156_4 hcz156_5 hcz156_6
            try clear hcz161_0 hcz161_1 hcz161_2 hcz161_3 hcz161_4
            try clear hcz165_0 hcz165_1 hcz165_2 hcz165_3 hcz165_4 hcz165_5 hcz165_6
            try clear hcz170_0 hcz170_1 hcz170_2 hcz170_3 hcz170_4
            try clear hcz19_0 hcz19_1 hcz19_2 hcz19_3 hcz19_4 hcz19_5 hcz19_6
            try clear hcz22_0 hcz22_1 hcz22_2
            try clear hcz24_0 hcz24_1 hcz24_2 hcz24_3 hcz24_4
            try clear hcz29_0 hcz29_1 hcz29_2 hcz29_3 hcz29_4 hcz29_5 hcz29_6
            try clear hcz32_0 hcz32_1 hcz32_2
            try clear hcz37_0 hcz37_1 hcz37_2 hcz37_3 hcz37_4 hcz37_5 hcz37_6
            try clear hcz48_0 hcz48_1 hcz48_2 hcz48_3 hcz48_4 hcz48_5 hcz48_6
            try clear hcz50_0 hcz50_1 hcz50_2
            try clear hcz56_0 hcz56_1 hcz56_2 hcz56_3 hcz56_4
            try clear hcz60_0 hcz60_1 hcz60_2 hcz60_3 hcz60_4 hcz60_5 hcz60_6
            try clear hcz61_0 hcz61_1 hcz61_2
            try clear hcz62_0 hcz62_1 hcz62_2 hcz62_3 hcz62_4
            try clear hcz75_0 hcz75_1 hcz75_2 hcz75_3 hcz75_4 hcz75_5 hcz75_6
            try clear hcz79_0 hcz79_1 hcz79_2 hcz79_3 hcz79_4
            try clear hcz86_0 hcz86_1 hcz86_2 hcz86_3 hcz86_4 hcz86_5 hcz86_6
            try clear hcz90_0 hcz90_1 hcz90_2 hcz90_3 hcz90_4
            try clear hcz96_0 hcz96_1 hcz96_2 hcz96_3 hcz96_4 hcz96_5 hcz96_6
            try clear hfz100_0 hfz100_1 hfz100_2 hfz100_3 hfz100_4
            try clear hfz106_0 hfz106_1 hfz106_2 hfz106_3 hfz106_4 hfz106_5 hfz106_6
            try clear hfz117_0 hfz117_1 hfz117_2 hfz117_3 hfz117_4 hfz117_5 hfz117_6
            try clear hfz120_0 hfz120_1 hfz120_2
            try clear hfz122_0 hfz122_1 hfz122_2 hfz122_3 hfz122_4
            try clear hfz130_0 hfz130_1 hfz130_2 hfz130_3 hfz130_4
            try clear hfz133_0 hfz133_1 hfz133_2 hfz133_3 hfz133_4 hfz133_5 hfz133_6
            try clear hfz139_0 hfz139_1 hfz139_2 hfz139_3 hfz139_4
            try clear hfz142_0 hfz142_1 hfz142_2 hfz142_3 hfz142_4 hfz142_5 hfz142_6
            try clear hfz152_0 hfz152_1 hfz152_2 hfz152_3 hfz152_4
            try clear hfz156_0 hfz156_1 hfz156_2 hfz156_3 hfz156_4 hfz156_5 hfz156_6
            try clear hfz161_0 hfz161_1 hfz161_2 hfz161_3 hfz161_4
            try clear hfz165_0 hfz165_1 hfz165_2 hfz165_3 hfz165_4 hfz165_5 hfz165_6
            try clear hfz170_0 hfz170_1 hfz170_2 hfz170_3 hfz170_4
            try clear hfz19_0 hfz19_1 hfz19_2 hfz19_3 hfz19_4 hfz19_5 hfz19_6
            try clear hfz22_0 hfz22_1 hfz22_2
            try clear hfz24_0 hfz24_1 hfz24_2 hfz24_3 hfz24_4
            try clear hfz29_0 hfz29_1 hfz29_2 hfz29_3 hfz29_4 hfz29_5 hfz29_6
            try clear hfz32_0 hfz32_1 hfz32_2
            try clear hfz37_0 hfz37_1 hfz37_2 hfz37_3 hfz37_4 hfz37_5 hfz37_6
            try clear hfz48_0 hfz48_1 hfz48_2 hfz48_3 hfz48_4 hfz48_5 hfz48_6
            try clear hfz50_0 hfz50_1 hfz50_2
            try clear hfz56_0 hfz56_1 hfz56_2 hfz56_3 hfz56_4
            try clear hfz60_0 hfz60_1 hfz60_2 hfz60_3 hfz60_4 hfz60_5 hfz60_6
            try clear hfz61_0 hfz61_1 hfz61_2
            try clear hfz62_0 hfz62_1 hfz62_2 hfz62_3 hfz62_4
            try clear hfz75_0 hfz75_1 hfz75_2 hfz75_3 hfz75_4 hfz75_5 hfz75_6
            try clear hfz79_0 hfz79_1 hfz79_2 hfz79_3 hfz79_4
            try clear hfz86_0 hfz86_1 hfz86_2 hfz86_3 hfz86_4 hfz86_5 hfz86_6
            try clear hfz90_0 hfz90_1 hfz90_2 hfz90_3 hfz90_4
            try clear hfz96_0 hfz96_1 hfz96_2 hfz96_3 hfz96_4 hfz96_5 hfz96_6
            try clear p2
            try clear p6
            try clear p64
            obtain ⟨x15_4, x16_4, rfl, rfl, HA, HK4, HO_13, HO_560003, HO_560004, BK539, BK540, BK541, BK559, HB⟩ := hrel
            cases gk with
            | zero => exact absurd HA.out (by simp [lodgerlaw11_SpecLegal.l0])
            | succ k4 =>
             have H := HA.out; clear HA; simp only [lodgerlaw11_SpecLegal.l0] at H
             by_cases c173 : x16_4 < (t566.length : Int)
             ·rw [if_pos c173] at H
              have c173b0 : decide (x16_4 < (t566.length : Int)) = true := decide_eq_true c173
              clear c173
              by_cases c174 : 0 ≤ x16_4
              ·rw [if_pos c174] at H
               have c174b0 : decide (0 ≤ x16_4) = true := decide_eq_true c174
               clear c174; replace H := Option.bind_eq_some_iff.mp H; obtain ⟨t575, A1750, H⟩ := H
               replace H : (if t575 = true then (lodgerlaw11_SpecLegal.l0 k4 l1 t566 x15_4 (wrap64 (x16_4 + 1)) a0_0 a0_1 l0_2 a0_3 a0_4 a0_5 a0_6 a2_0 a2_1 l2_2 a3_0 a3_1 a3_2 l3_3 l3_4) else (if a2_0 = 1 then (if a3_1 = ((a0_0 + (rd t566 x16_4)) % 4294967296) then (lodgerlaw11_SpecLegal.l0 k4 l1 t566 (wrap64 (x15_4 + 1)) (wrap64 (x16_4 + 1)) a0_0 a0_1 l0_2 a0_3 a0_4 a0_5 a0_6 a2_0 a2_1 l2_2 a3_0 a3_1 a3_2 l3_3 l3_4) else (some false)) else (if a2_0 = 2 then (if a3_1 = ((a0_0 + (rd t566 x16_4)) % 4294967296) then (lodgerlaw11_SpecLegal.l0 k4 l1 t566 (wrap64 (x15_4 + 1)) (wrap64 (x16_4 + 1)) a0_0 a0_1 l0_2 a0_3 a0_4 a0_5 a0_6 a2_0 a2_1 l2_2 a3_0 a3_1 a3_2 l3_3 l3_4) else (some false)) else (some false)))) = some r := H
               have A175 := Aside0.mk A1750; clear A1750
               by_cases c176 : t575 = true
               ·subst c176
                have H1 : (lodgerlaw11_SpecLegal.l0 k4 l1 t566 x15_4 (wrap64 (x16_4 + 1)) a0_0 a0_1 l0_2 a0_3 a0_4 a0_5 a0_6 a2_0 a2_1 l2_2 a3_0 a3_1 a3_2 l3_3 l3_4) = some r := by rw [if_pos rfl] at H; exact H
                clear H; have H := H1; clear H1
                have H' := Aside0.mk H
                clear H; obtain ⟨Ao177, co177, eo177⟩ := Kd.V_slice HO_13.out; subst eo177
                have p574 : 0 ≤ (x16_4 : Int) := od_
                have q574 : x16_4 < (t566.length : Int) := od_
                obtain ⟨ad574, e574, hx574_0⟩ := Kd.at_int (Kd.V_reads' HO_13.out).2.2 x16_4 p574 q574
                cases e574
                replace p574 := eq_true p574; replace q574 := eq_true q574
                go_wp2_with (first | ((with_reducible refine gate_callee (f := 21) rfl ?_); refine goesL_ (some 127) rfl rfl Tryd.func21 (by kernel_rfl) rfl #[.slice A1 l1.length c1, .int .i64 (rd t566 x16_4)] rfl am_ ?_; (with_reducible refine (lodgerref09_Has.calls k4 _ _ l1 (rd t566 x16_4) true _ ?side1 ?side2 A175.out).mono ?_); (case side1 => exact cC_ HR1 HB); (case side2 => exact HC1.out); rintro e w' ⟨rfl, ⟨nd, rfl⟩⟩; refine ⟨_, rfl, ?_⟩))
                go_roundg k4
                case measure => have := HJ4.out; have := HJ44.out; have := HJ112.out; have := HK4.out; omega
                case rel => exact ⟨(x15_4), (wrap64 (x16_4 + 1)), rs_, rs_, H', ⟨by have := HJ4.out; have := HJ44.out; have := HJ112.out; have := HK4.out; omega⟩, ⟨by (with_reducible repeat (first | apply Kd.V_alloc | apply Kd.V_drewN | apply Kd.V_drew)); exact HO_13.out⟩, ⟨by (with_reducible repeat (first | apply Kd.R_alloc | apply Kd.R_drewN | apply Kd.R_drew)); exact HO_560003.out⟩, ⟨by (with_reducible repeat (first | apply Kd.R_alloc | apply Kd.R_drewN | apply Kd.R_drew)); exact HO_560004.out⟩, ⟨bk_ BK539⟩, ⟨bk_ BK540⟩, ⟨bk_ BK541⟩, ⟨bk_ BK559⟩, ⟨hB_ HB⟩⟩
               ·replace c176 := Bool.eq_false_iff.mpr c176
                subst c176
                have H1 : (if a2_0 = 1 then (if a3_1 = ((a0_0 + (rd t566 x16_4)) % 4294967296) then (lodgerlaw11_SpecLegal.l0 k4 l1 t566 (wrap64 (x15_4 + 1)) (wrap64 (x16_4 + 1)) a0_0 a0_1 l0_2 a0_3 a0_4 a0_5 a0_6 a2_0 a2_1 l2_2 a3_0 a3_1 a3_2 l3_3 l3_4) else (some false)) else (if a2_0 = 2 then (if a3_1 = ((a0_0 + (rd t566 x16_4)) % 4294967296) then (lodgerlaw11_SpecLegal.l0 k4 l1 t566 (wrap64 (x15_4 + 1)) (wrap64 (x16_4 + 1)) a0_0 a0_1 l0_2 a0_3 a0_4 a0_5 a0_6 a2_0 a2_1 l2_2 a3_0 a3_1 a3_2 l3_3 l3_4) else (some false)) else (some false))) = some r := by rw [if_neg (show ¬ (false = true) by decide)] at H; exact H
                clear H; have H := H1; clear H1
                by_cases c178 : a2_0 = 1
                ·rw [if_pos c178] at H
                 have c178b0 : (a2_0 == 1) = true := beq_iff_eq.mpr c178
                 have c178b1 : (a2_0 != 1) = false := bne_eq_false_iff_eq.mpr c178
                 clear c178
                 by_cases c179 : a3_1 = ((a0_0 + (rd t566 x16_4)) % 4294967296)
                 ·as_aux_lemma =>
                  rw [if_pos c179] at H
                  have c179b0 : (a3_1 == ((a0_0 + (rd t566 x16_4)) % 4294967296)) = true := beq_iff_eq.mpr c179
                  have c179b1 : (a3_1 != ((a0_0 + (rd t566 x16_4)) % 4294967296)) = false := bne_eq_false_iff_eq.mpr c179
                  clear c179
                  have H' := Aside0.mk H
                  clear H; obtain ⟨Ao180, co180, eo180⟩ := Kd.V_slice HO_13.out; subst eo180
                  have p574 : 0 ≤ (x16_4 : Int) := od_
                  have q574 : x16_4 < (t566.length : Int) := od_
                  obtain ⟨ad574, e574, hx574_0⟩ := Kd.at_int (Kd.V_reads' HO_13.out).2.2 x16_4 p574 q574
                  cases e574
                  replace p574 := eq_true p574; replace q574 := eq_true q574
                  try go_wp2_with (first | ((with_reducible refine gate_callee (f := 21) rfl ?_); refine goesL_ (some 127) rfl rfl Tryd.func21 (by kernel_rfl) rfl #[.slice A1 l1.length c1, .int .i64 (rd t566 x16_4)] rfl am_ ?_; (with_reducible refine (lodgerref09_Has.calls k4 _ _ l1 (rd t566 x16_4) false _ ?side1 ?side2 A175.out).mono ?_); (case side1 => exact cC_ HR1 HB); (case side2 => exact HC1.out); rintro e w' ⟨rfl, ⟨nd, rfl⟩⟩; refine ⟨_, rfl, ?_⟩))
                  (try (rw [drewN_self wr]; generalize hq_ : World.drewN wr _ = wr; have n0_ := Aside0.mk (V_atq hq_ HO_13.out); have n1_ := Aside0.mk (Kd.R_at hq_ HO_560003.out); have n2_ := Aside0.mk (Kd.R_at hq_ HO_560004.out); have n3_ := Aside0.mk (blk_at hq_ BK539.out); have n4_ := Aside0.mk (blk_at hq_ BK540.out); have n5_ := Aside0.mk (blk_at hq_ BK541.out); have n6_ := Aside0.mk (blk_at hq_ BK559.out); have n7_ := Aside0.mk (below_at hq_ HB.out); clear hq_ HO_13 HO_560003 HO_560004 BK539 BK540 BK541 BK559 HB; have HO_13 := n0_; have HO_560003 := n1_; have HO_560004 := n2_; have BK539 := n3_; have BK540 := n4_; have BK541 := n5_; have BK559 := n6_; have HB := n7_; clear n0_ n1_ n2_ n3_ n4_ n5_ n6_ n7_))
                  have n0_ := Aside0.mk (Kd.V_drew HO_13.out); have n1_ := Aside0.mk (Kd.R_drew HO_560003.out); have n2_ := Aside0.mk (Kd.R_drew HO_560004.out); have n3_ := Aside0.mk (blk_drew BK539.out); have n4_ := Aside0.mk (blk_drew BK540.out); have n5_ := Aside0.mk (blk_drew BK541.out); have n6_ := Aside0.mk (blk_drew BK559.out); have n7_ := Aside0.mk (below_drew1 HB.out); clear HO_13; clear HO_560003; clear HO_560004; clear BK539; clear BK540; clear BK541; clear BK559; clear HB; have HO_13 := n0_; have HO_560003 := n1_; have HO_560004 := n2_; have BK539 := n3_; have BK540 := n4_; have BK541 := n5_; have BK559 := n6_; have HB := n7_; clear n0_ n1_ n2_ n3_ n4_ n5_ n6_ n7_
                  have p576 : 0 ≤ (x16_4 : Int) := od_
                  have q576 : x16_4 < (t566.length : Int) := od_
                  obtain ⟨ad576, e576, hx576_0⟩ := Kd.at_int (Kd.V_reads' HO_13.out).2.2 x16_4 p576 q576
                  obtain rfl : ad574 = ad576 := (by injection e576)
                  replace p576 := eq_true p576; replace q576 := eq_true q576
                  refine start_ (n := 22) (S := fun w' => w'.cell? ⟨gb540, 0, none⟩ = some (.int .i64 a2_0) ∧ w'.cell? ⟨gb540, 1, none⟩ = some (.int .u32 a2_1) ∧ w'.cell? ⟨gb540, 2, none⟩ = some (.slice A2_2 l2_2.length c2_2) ∧ w'.cell? ⟨gb541, 0, none⟩ = some (.int .i64 a3_0) ∧ w'.cell? ⟨gb541, 1, none⟩ = some (.int .u32 a3_1) ∧ w'.cell? ⟨gb541, 2, none⟩ = some (.bool a3_2) ∧ w'.cell? ⟨gb541, 3, none⟩ = some (.slice A3_3 l3_3.length c3_3) ∧ w'.cell? ⟨gb541, 4, none⟩ = some (.slice A3_4 l3_4.length c3_4) ∧ w'.cell? ⟨gb539, 0, none⟩ = some (.int .u32 a0_0) ∧ w'.cell? ⟨gb539, 1, none⟩ = some (.int .i64 a0_1) ∧ w'.cell? ⟨gb539, 2, none⟩ = some (.slice A0_2 l0_2.length c0_2) ∧ w'.cell? ⟨gb539, 3, none⟩ = some (.int .i64 a0_3) ∧ w'.cell? ⟨gb539, 4, none⟩ = some (.int .i64 a0_4) ∧ w'.cell? ⟨gb539, 5, none⟩ = some (.int .i64 a0_5) ∧ w'.cell? ⟨gb539, 6, none⟩ = some (.int .i64 a0_6) ∧ w'.cell? (ad574.add (x16_4).toNat) = some (.int .i64 (rd t566 x16_4))) (ds := []) (tf 22 0) (by kernel_rfl) rfl rfl ⟨(blk_cell BK540.out 0).trans rfl, (blk_cell BK540.out 1).trans rfl, (blk_cell BK540.out 2).trans rfl, (blk_cell BK541.out 0).trans rfl, (blk_cell BK541.out 1).trans rfl, (blk_cell BK541.out 2).trans rfl, (blk_cell BK541.out 3).trans rfl, (blk_cell BK541.out 4).trans rfl, (blk_cell BK539.out 0).trans rfl, (blk_cell BK539.out 1).trans rfl, (blk_cell BK539.out 2).trans rfl, (blk_cell BK539.out 3).trans rfl, (blk_cell BK539.out 4).trans rfl, (blk_cell BK539.out 5).trans rfl, (blk_cell BK539.out 6).trans rfl, hx576_0⟩ (fun hHeld => ?_); refine with_tabW lodgerlaw11_SpecLegal.tab18 lodgerlaw11_SpecLegal.bits18 (fun HT_ HW_ => ?_)
                  generalize wr.drew = w181 at HO_13 HO_560003 HO_560004 BK539 BK540 BK541 BK559 HB hx576_0 hHeld ⊢
                  refine pv_ (i := 0) (N := some 131) (tf 22 1) HT_ ?_; refine tv_ (i := 1) (N := some 132) (tf 22 3) rfl rfl HT_ HW_ hHeld (by rintro w' ⟨s0, s1, s2, s3, s4, s5, s6, s7, s8, s9, s10, s11, s12, s13, s14, s15⟩; go_simp; with_reducible rfl) ?_; refine pv_ (i := 2) (N := some 133) (tf 22 7) HT_ ?_; refine pv_ (i := 3) (N := some 134) (tf 22 15) HT_ ?_; refine pw_ (i := 4) (N := some 135) (tf 22 31) HT_ ?_; refine pw_ (i := 5) (N := some 136) (tf 22 63) HT_ ?_; refine pw_ (i := 6) (N := some 137) (tf 22 127) HT_ ?_; refine pv_ (i := 7) (N := some 138) (tf 22 255) HT_ ?_; refine pv_ (i := 8) (N := some 139) (tf 22 511) HT_ ?_; refine pv_ (i := 9) (N := some 140) (tf 22 1023) HT_ ?_; refine pv_ (i := 11) (N := some 142) (tf 22 3071) HT_ ?_; refine pv_ (i := 12) (N := some 143) (tf 22 7167) HT_ ?_; refine pv_ (i := 14) (N := some 145) (tf 22 23551) HT_ ?_; refine pv_ (i := 15) (N := some 146) (tf 22 56319) HT_ ?_; refine pv_ (i := 16) (N := some 147) (tf 22 121855) HT_ ?_; refine tv_ (i := 10) (N := some 141) (tf 22 122879) rfl rfl HT_ HW_ hHeld (by rintro w' ⟨s0, s1, s2, s3, s4, s5, s6, s7, s8, s9, s10, s11, s12, s13, s14, s15⟩; go_simp; with_reducible rfl) ?_; refine tv_ (i := 13) (N := some 144) (tf 22 131071) rfl rfl HT_ HW_ hHeld (by rintro w' ⟨s0, s1, s2, s3, s4, s5, s6, s7, s8, s9, s10, s11, s12, s13, s14, s15⟩; go_simp; with_reducible rfl) ?_; refine tv_ (i := 17) (N := some 148) (tf 22 262143) rfl rfl HT_ HW_ hHeld (by rintro w' ⟨s0, s1, s2, s3, s4, s5, s6, s7, s8, s9, s10, s11, s12, s13, s14, s15⟩; go_simp; with_reducible rfl) ?_; refine pv_ (i := 18) (N := some 149) (tf 22 524287) HT_ ?_; refine pv_ (i := 19) (N := some 150) (tf 22 1048575) HT_ ?_; refine pv_ (i := 20) (N := some 151) (tf 22 2097151) HT_ ?_; refine pv_ (i := 21) (N := some 152) (tf 22 4194303) HT_ ?_
                  refine done_ (done_of HT_.out (by kernel_rfl)) ?_
                  try go_wp2
                  go_roundg k4
                  case measure => have := HJ4.out; have := HJ44.out; have := HJ112.out; have := HK4.out; omega
                  case rel => exact ⟨(wrap64 (x15_4 + 1)), (wrap64 (x16_4 + 1)), rs_, rs_, H', ⟨by have := HJ4.out; have := HJ44.out; have := HJ112.out; have := HK4.out; omega⟩, ⟨by (with_reducible repeat (first | apply Kd.V_alloc | apply Kd.V_drewN | apply Kd.V_drew)); exact HO_13.out⟩, ⟨by (with_reducible repeat (first | apply Kd.R_alloc | apply Kd.R_drewN | apply Kd.R_drew)); exact HO_560003.out⟩, ⟨by (with_reducible repeat (first | apply Kd.R_alloc | apply Kd.R_drewN | apply Kd.R_drew)); exact HO_560004.out⟩, ⟨bk_ BK539⟩, ⟨bk_ BK540⟩, ⟨bk_ BK541⟩, ⟨bk_ BK559⟩, ⟨hB_ HB⟩⟩
                 ·rw [if_neg c179] at H
                  rw [hr_.out] at H
                  exact absurd (Option.some.inj H) (by decide)
                ·rw [if_neg c178] at H
                 have c178b0 : (a2_0 == 1) = false := beq_eq_false_iff_ne.mpr c178
                 have c178b1 : (a2_0 != 1) = true := bne_iff_ne.mpr c178
                 by_cases c184 : a2_0 = 2
                 ·rw [if_pos c184] at H
                  have c184b0 : (a2_0 == 2) = true := beq_iff_eq.mpr c184
                  have c184b1 : (a2_0 != 2) = false := bne_eq_false_iff_eq.mpr c184
                  clear c184
                  by_cases c185 : a3_1 = ((a0_0 + (rd t566 x16_4)) % 4294967296)
                  ·as_aux_lemma =>
                   rw [if_pos c185] at H
                   have c185b0 : (a3_1 == ((a0_0 + (rd t566 x16_4)) % 4294967296)) = true := beq_iff_eq.mpr c185
                   have c185b1 : (a3_1 != ((a0_0 + (rd t566 x16_4)) % 4294967296)) = false := bne_eq_false_iff_eq.mpr c185
                   clear c185
                   have H' := Aside0.mk H
                   clear H; obtain ⟨Ao186, co186, eo186⟩ := Kd.V_slice HO_13.out; subst eo186
                   have p574 : 0 ≤ (x16_4 : Int) := od_
                   have q574 : x16_4 < (t566.length : Int) := od_
                   obtain ⟨ad574, e574, hx574_0⟩ := Kd.at_int (Kd.V_reads' HO_13.out).2.2 x16_4 p574 q574
                   cases e574
                   replace p574 := eq_true p574; replace q574 := eq_true q574
                   try go_wp2_with (first | ((with_reducible refine gate_callee (f := 21) rfl ?_); refine goesL_ (some 127) rfl rfl Tryd.func21 (by kernel_rfl) rfl #[.slice A1 l1.length c1, .int .i64 (rd t566 x16_4)] rfl am_ ?_; (with_reducible refine (lodgerref09_Has.calls k4 _ _ l1 (rd t566 x16_4) false _ ?side1 ?side2 A175.out).mono ?_); (case side1 => exact cC_ HR1 HB); (case side2 => exact HC1.out); rintro e w' ⟨rfl, ⟨nd, rfl⟩⟩; refine ⟨_, rfl, ?_⟩))
                   (try (rw [drewN_self wr]; generalize hq_ : World.drewN wr _ = wr; have n0_ := Aside0.mk (V_atq hq_ HO_13.out); have n1_ := Aside0.mk (Kd.R_at hq_ HO_560003.out); have n2_ := Aside0.mk (Kd.R_at hq_ HO_560004.out); have n3_ := Aside0.mk (blk_at hq_ BK539.out); have n4_ := Aside0.mk (blk_at hq_ BK540.out); have n5_ := Aside0.mk (blk_at hq_ BK541.out); have n6_ := Aside0.mk (blk_at hq_ BK559.out); have n7_ := Aside0.mk (below_at hq_ HB.out); clear hq_ HO_13 HO_560003 HO_560004 BK539 BK540 BK541 BK559 HB; have HO_13 := n0_; have HO_560003 := n1_; have HO_560004 := n2_; have BK539 := n3_; have BK540 := n4_; have BK541 := n5_; have BK559 := n6_; have HB := n7_; clear n0_ n1_ n2_ n3_ n4_ n5_ n6_ n7_))
                   have n0_ := Aside0.mk (Kd.V_drew HO_13.out); have n1_ := Aside0.mk (Kd.R_drew HO_560003.out); have n2_ := Aside0.mk (Kd.R_drew HO_560004.out); have n3_ := Aside0.mk (blk_drew BK539.out); have n4_ := Aside0.mk (blk_drew BK540.out); have n5_ := Aside0.mk (blk_drew BK541.out); have n6_ := Aside0.mk (blk_drew BK559.out); have n7_ := Aside0.mk (below_drew1 HB.out); clear HO_13; clear HO_560003; clear HO_560004; clear BK539; clear BK540; clear BK541; clear BK559; clear HB; have HO_13 := n0_; have HO_560003 := n1_; have HO_560004 := n2_; have BK539 := n3_; have BK540 := n4_; have BK541 := n5_; have BK559 := n6_; have HB := n7_; clear n0_ n1_ n2_ n3_ n4_ n5_ n6_ n7_
                   have p577 : 0 ≤ (x16_4 : Int) := od_
                   have q577 : x16_4 < (t566.length : Int) := od_
                   obtain ⟨ad577, e577, hx577_0⟩ := Kd.at_int (Kd.V_reads' HO_13.out).2.2 x16_4 p577 q577
                   obtain rfl : ad574 = ad577 := (by injection e577)
                   replace p577 := eq_true p577; replace q577 := eq_true q577
                   refine start_ (n := 22) (S := fun w' => w'.cell? ⟨gb540, 0, none⟩ = some (.int .i64 a2_0) ∧ w'.cell? ⟨gb540, 1, none⟩ = some (.int .u32 a2_1) ∧ w'.cell? ⟨gb540, 2, none⟩ = some (.slice A2_2 l2_2.length c2_2) ∧ w'.cell? ⟨gb541, 0, none⟩ = some (.int .i64 a3_0) ∧ w'.cell? ⟨gb541, 1, none⟩ = some (.int .u32 a3_1) ∧ w'.cell? ⟨gb541, 2, none⟩ = some (.bool a3_2) ∧ w'.cell? ⟨gb541, 3, none⟩ = some (.slice A3_3 l3_3.length c3_3) ∧ w'.cell? ⟨gb541, 4, none⟩ = some (.slice A3_4 l3_4.length c3_4) ∧ w'.cell? ⟨gb539, 0, none⟩ = some (.int .u32 a0_0) ∧ w'.cell? ⟨gb539, 1, none⟩ = some (.int .i64 a0_1) ∧ w'.cell? ⟨gb539, 2, none⟩ = some (.slice A0_2 l0_2.length c0_2) ∧ w'.cell? ⟨gb539, 3, none⟩ = some (.int .i64 a0_3) ∧ w'.cell? ⟨gb539, 4, none⟩ = some (.int .i64 a0_4) ∧ w'.cell? ⟨gb539, 5, none⟩ = some (.int .i64 a0_5) ∧ w'.cell? ⟨gb539, 6, none⟩ = some (.int .i64 a0_6) ∧ w'.cell? (ad574.add (x16_4).toNat) = some (.int .i64 (rd t566 x16_4))) (ds := []) (tf 22 0) (by kernel_rfl) rfl rfl ⟨(blk_cell BK540.out 0).trans rfl, (blk_cell BK540.out 1).trans rfl, (blk_cell BK540.out 2).trans rfl, (blk_cell BK541.out 0).trans rfl, (blk_cell BK541.out 1).trans rfl, (blk_cell BK541.out 2).trans rfl, (blk_cell BK541.out 3).trans rfl, (blk_cell BK541.out 4).trans rfl, (blk_cell BK539.out 0).trans rfl, (blk_cell BK539.out 1).trans rfl, (blk_cell BK539.out 2).trans rfl, (blk_cell BK539.out 3).trans rfl, (blk_cell BK539.out 4).trans rfl, (blk_cell BK539.out 5).trans rfl, (blk_cell BK539.out 6).trans rfl, hx577_0⟩ (fun hHeld => ?_); refine with_tabW lodgerlaw11_SpecLegal.tab18 lodgerlaw11_SpecLegal.bits18 (fun HT_ HW_ => ?_)
                   generalize wr.drew = w187 at HO_13 HO_560003 HO_560004 BK539 BK540 BK541 BK559 HB hx577_0 hHeld ⊢
                   refine pv_ (i := 0) (N := some 131) (tf 22 1) HT_ ?_; refine tv_ (i := 1) (N := some 132) (tf 22 3) rfl rfl HT_ HW_ hHeld (by rintro w' ⟨s0, s1, s2, s3, s4, s5, s6, s7, s8, s9, s10, s11, s12, s13, s14, s15⟩; go_simp; with_reducible rfl) ?_; refine pv_ (i := 2) (N := some 133) (tf 22 7) HT_ ?_; refine pv_ (i := 3) (N := some 134) (tf 22 15) HT_ ?_; refine pv_ (i := 4) (N := some 135) (tf 22 31) HT_ ?_; refine tv_ (i := 5) (N := some 136) (tf 22 63) rfl rfl HT_ HW_ hHeld (by rintro w' ⟨s0, s1, s2, s3, s4, s5, s6, s7, s8, s9, s10, s11, s12, s13, s14, s15⟩; go_simp; with_reducible rfl) ?_; refine pv_ (i := 6) (N := some 137) (tf 22 127) HT_ ?_; refine pv_ (i := 7) (N := some 138) (tf 22 255) HT_ ?_; refine pv_ (i := 8) (N := some 139) (tf 22 511) HT_ ?_; refine pv_ (i := 9) (N := some 140) (tf 22 1023) HT_ ?_; refine pv_ (i := 11) (N := some 142) (tf 22 3071) HT_ ?_; refine pv_ (i := 12) (N := some 143) (tf 22 7167) HT_ ?_; refine pv_ (i := 14) (N := some 145) (tf 22 23551) HT_ ?_; refine pv_ (i := 15) (N := some 146) (tf 22 56319) HT_ ?_; refine pv_ (i := 16) (N := some 147) (tf 22 121855) HT_ ?_; refine tv_ (i := 10) (N := some 141) (tf 22 122879) rfl rfl HT_ HW_ hHeld (by rintro w' ⟨s0, s1, s2, s3, s4, s5, s6, s7, s8, s9, s10, s11, s12, s13, s14, s15⟩; go_simp; with_reducible rfl) ?_; refine tv_ (i := 13) (N := some 144) (tf 22 131071) rfl rfl HT_ HW_ hHeld (by rintro w' ⟨s0, s1, s2, s3, s4, s5, s6, s7, s8, s9, s10, s11, s12, s13, s14, s15⟩; go_simp; with_reducible rfl) ?_; refine tv_ (i := 17) (N := some 148) (tf 22 262143) rfl rfl HT_ HW_ hHeld (by rintro w' ⟨s0, s1, s2, s3, s4, s5, s6, s7, s8, s9, s10, s11, s12, s13, s14, s15⟩; go_simp; with_reducible rfl) ?_; refine pv_ (i := 18) (N := some 149) (tf 22 524287) HT_ ?_; refine pv_ (i := 19) (N := some 150) (tf 22 1048575) HT_ ?_; refine pv_ (i := 20) (N := some 151) (tf 22 2097151) HT_ ?_; refine pv_ (i := 21) (N := some 152) (tf 22 4194303) HT_ ?_
                   refine done_ (done_of HT_.out (by kernel_rfl)) ?_
                   try go_wp2
                   go_roundg k4
                   case measure => have := HJ4.out; have := HJ44.out; have := HJ112.out; have := HK4.out; omega
                   case rel => exact ⟨(wrap64 (x15_4 + 1)), (wrap64 (x16_4 + 1)), rs_, rs_, H', ⟨by have := HJ4.out; have := HJ44.out; have := HJ112.out; have := HK4.out; omega⟩, ⟨by (with_reducible repeat (first | apply Kd.V_alloc | apply Kd.V_drewN | apply Kd.V_drew)); exact HO_13.out⟩, ⟨by (with_reducible repeat (first | apply Kd.R_alloc | apply Kd.R_drewN | apply Kd.R_drew)); exact HO_560003.out⟩, ⟨by (with_reducible repeat (first | apply Kd.R_alloc | apply Kd.R_drewN | apply Kd.R_drew)); exact HO_560004.out⟩, ⟨bk_ BK539⟩, ⟨bk_ BK540⟩, ⟨bk_ BK541⟩, ⟨bk_ BK559⟩, ⟨hB_ HB⟩⟩
                  ·rw [if_neg c185] at H
                   rw [hr_.out] at H
                   exact absurd (Option.some.inj H) (by decide)
                 ·rw [if_neg c184] at H
                  rw [hr_.out] at H
                  exact absurd (Option.some.inj H) (by decide)
              ·rw [if_neg c174] at H
               exact absurd H (by simp)
             ·as_aux_lemma =>
              rw [if_neg c173] at H
              have c173b0 : decide (x16_4 < (t566.length : Int)) = false := decide_eq_false c173
              clear c173; have HC192 := Aside0.mk H; clear H; obtain ⟨Ao193, co193, eo193⟩ := Kd.V_slice HO_13.out; subst eo193
              go_upto_region 20 with (fail)
              go_cut [164] (fun v164 wc => ∃ (kq : Nat) (x164_191 : Bool), v164 = .bool x164_191 ∧ Aside0 (lodgerlaw11_SpecLegal.j4 kq l1 x164_191 a0_0 a0_1 l0_2 a0_3 a0_4 a0_5 a0_6 a2_0 a2_1 l2_2 a3_0 a3_1 a3_2 l3_3 l3_4 = some r) ∧ Aside0 (kq ≤ k4) ∧ Aside0 (Kd.R (Kd.int .u32) 22 wc w.heap.size (fun _ => True) (.slice Ao57 t553.length co57) t553) ∧ Aside0 (Kd.R (Kd.int .i64) 31 wc w.heap.size (fun _ => True) (.slice Ao58 t556.length co58) t556) ∧ Aside0 (wc.heap[gb539]? = some (.cells #[.int .u32 a0_0, .int .i64 a0_1, (.slice A0_2 l0_2.length c0_2), .int .i64 a0_3, .int .i64 a0_4, .int .i64 a0_5, .int .i64 a0_6] 27 (0, 0))) ∧ Aside0 (wc.heap[gb540]? = some (.cells #[.int .i64 a2_0, .int .u32 a2_1, (.slice A2_2 l2_2.length c2_2)] 30 (0, 0))) ∧ Aside0 (wc.heap[gb541]? = some (.cells #[.int .i64 a3_0, .int .u32 a3_1, .bool a3_2, (.slice A3_3 l3_3.length c3_3), (.slice A3_4 l3_4.length c3_4)] 34 (0, 0))) ∧ Aside0 (wc.heap[gb559]? = some (.cells #[.int .i64 t550, .int .u32 t551, .bool t552, (.slice Ao57 t553.length co57), (.slice Ao58 t556.length co58)] 34 (0, 0))) ∧ Aside0 (Below w.heap.size w wc))
              case first =>
               have H := HC192.out; clear HC192
               by_cases c194 : a2_0 = 1
               ·rw [if_pos c194] at H
                have c194b0 : (a2_0 == 1) = true := beq_iff_eq.mpr c194
                have c194b1 : (a2_0 != 1) = false := bne_eq_false_iff_eq.mpr c194
                clear c194
                (first | rw [c194b0] | (simp only [i64_w, i32_w, IntKind.wrap_u32, Int.add_emod_emod, Int.emod_add_emod]; rw [c194b0]) | skip)
                by_cases c195 : a3_0 = 0
                ·rw [if_pos c195] at H
                 have c195b0 : (a3_0 == 0) = true := beq_iff_eq.mpr c195
                 have c195b1 : (a3_0 != 0) = false := bne_eq_false_iff_eq.mpr c195
                 clear c195
                 have H' := Aside0.mk H
                 clear H; have hnb196 := NB540_539.out; have hnc196 := NB539_540.out; have hnb197 := NB540_541.out; have hnc197 := NB541_540.out; have hnb198 := NB540_559.out; have hnc198 := NB559_540.out; obtain ⟨hcz199_0, hcz199_1, hcz199_2, hfz199_0, hfz199_1, hfz199_2⟩ := cz3_ (w := wr) BK540; have hnb200 := NB541_539.out; have hnc200 := NB539_541.out; have hnb201 := NB541_559.out; have hnc201 := NB559_541.out; obtain ⟨hcz202_0, hcz202_1, hcz202_2, hcz202_3, hcz202_4, hfz202_0, hfz202_1, hfz202_2, hfz202_3, hfz202_4⟩ := cz5_ (w := wr) BK541
                 go_wp2
                 go_meet
                 case rel => exact ⟨_, ((x15_4 != 1)), rs_, H', ⟨by have := HJ4.out; have := HJ44.out; have := HJ112.out; have := HK4.out; first | omega | exact Nat.le_refl _⟩, ⟨by (with_reducible repeat (first | apply Kd.R_alloc | apply Kd.R_drewN | apply Kd.R_drew)); exact HO_560003.out⟩, ⟨by (with_reducible repeat (first | apply Kd.R_alloc | apply Kd.R_drewN | apply Kd.R_drew)); exact HO_560004.out⟩, ⟨bk_ BK539⟩, ⟨bk_ BK540⟩, ⟨bk_ BK541⟩, ⟨bk_ BK559⟩, ⟨hB_ HB⟩⟩
                ·rw [if_neg c195] at H
                 have c195b0 : (a3_0 == 0) = false := beq_eq_false_iff_ne.mpr c195
                 have c195b1 : (a3_0 != 0) = true := bne_iff_ne.mpr c195
                 have H' := Aside0.mk H
                 clear H; have hnb203 := NB540_539.out; have hnc203 := NB539_540.out; have hnb204 := NB540_541.out; have hnc204 := NB541_540.out; have hnb205 := NB540_559.out; have hnc205 := NB559_540.out; obtain ⟨hcz206_0, hcz206_1, hcz206_2, hfz206_0, hfz206_1, hfz206_2⟩ := cz3_ (w := wr) BK540; have hnb207 := NB541_539.out; have hnc207 := NB539_541.out; have hnb208 := NB541_559.out; have hnc208 := NB559_541.out; obtain ⟨hcz209_0, hcz209_1, hcz209_2, hcz209_3, hcz209_4, hfz209_0, hfz209_1, hfz209_2, hfz209_3, hfz209_4⟩ := cz5_ (w := wr) BK541
                 go_wp2
                 go_meet
                 case rel => exact ⟨_, (false), rs_, H', ⟨by have := HJ4.out; have := HJ44.out; have := HJ112.out; have := HK4.out; first | omega | exact Nat.le_refl _⟩, ⟨by (with_reducible repeat (first | apply Kd.R_alloc | apply Kd.R_drewN | apply Kd.R_drew)); exact HO_560003.out⟩, ⟨by (with_reducible repeat (first | apply Kd.R_alloc | apply Kd.R_drewN | apply Kd.R_drew)); exact HO_560004.out⟩, ⟨bk_ BK539⟩, ⟨bk_ BK540⟩, ⟨bk_ BK541⟩, ⟨bk_ BK559⟩, ⟨hB_ HB⟩⟩
               ·rw [if_neg c194] at H
                have c194b0 : (a2_0 == 1) = false := beq_eq_false_iff_ne.mpr c194
                have c194b1 : (a2_0 != 1) = true := bne_iff_ne.mpr c194
                (first | rw [c194b0] | (simp only [i64_w, i32_w, IntKind.wrap_u32, Int.add_emod_emod, Int.emod_add_emod]; rw [c194b0]) | skip)
                have H' := Aside0.mk H
                clear H; have hnb210 := NB540_539.out; have hnc210 := NB539_540.out; have hnb211 := NB540_541.out; have hnc211 := NB541_540.out; have hnb212 := NB540_559.out; have hnc212 := NB559_540.out; obtain ⟨hcz213_0, hcz213_1, hcz213_2, hfz213_0, hfz213_1, hfz213_2⟩ := cz3_ (w := wr) BK540
                go_wp2
                go_meet
                case rel => exact ⟨_, (false), rs_, H', ⟨by have := HJ4.out; have := HJ44.out; have := HJ112.out; have := HK4.out; first | omega | exact Nat.le_refl _⟩, ⟨by (with_reducible repeat (first | apply Kd.R_alloc | apply Kd.R_drewN | apply Kd.R_drew)); exact HO_560003.out⟩, ⟨by (with_reducible repeat (first | apply Kd.R_alloc | apply Kd.R_drewN | apply Kd.R_drew)); exact HO_560004.out⟩, ⟨bk_ BK539⟩, ⟨bk_ BK540⟩, ⟨bk_ BK541⟩, ⟨bk_ BK559⟩, ⟨hB_ HB⟩⟩
              case rest =>
               clear HC192
               try clear c1
               try clear c2
               try clear p2
               try clear c3
               try clear p5
               try clear q5
               try clear hx5
               try clear p6
               try clear c17
               try clear c18
               try clear c19
               try clear c20
               try clear c21
               try clear p57
               try clear q57
               try clear hx57
               try clear p64
               try clear c173
               try clear c173b0
               try clear c174
               try clear c184
               try clear c184b0
               try clear c184b1
               try clear c185
               try clear c185b0
               try clear c185b1
               try clear c194
               try clear c194b0
               try clear c194b1
               try clear c195
               try clear c195b0
               try clear c195b1
               try clear c196
               try clear c197
               try clear c198
               try clear c200
               try clear c201
               try clear c203
               try clear c204
               try clear c205
               try clear c207
               try clear c208
               try clear c210
               try clear c211
               try clear c212
               try clear hcz199_0 hcz199_1 hcz199_2
               try clear hcz202_0 hcz202_1 hcz202_2 hcz202_3 hcz202_4
               try clear hcz206_0 hcz206_1 hcz206_2
               try clear hcz209_0 hcz209_1 hcz209_2 hcz209_3 hcz209_4
               try clear hcz213_0 hcz213_1 hcz213_2
               try clear hfz199_0 hfz199_1 hfz199_2
               try clear hfz202_0 hfz202_1 hfz202_2 hfz202_3 hfz202_4
               try clear hfz206_0 hfz206_1 hfz206_2
               try clear hfz209_0 hfz209_1 hfz209_2 hfz209_3 hfz209_4
               try clear hfz213_0 hfz213_1 hfz213_2
               try clear hx574_0
               try clear hx577_0
               try clear p574
               try clear p577
               try clear q574
               try clear q577
               obtain ⟨kq, x164_191, rfl, HA, HJ191, HO_560003, HO_560004, BK539, BK540, BK541, BK559, HB⟩ := hcut
               cases kq with
               | zero => exact absurd HA.out (by simp [lodgerlaw11_SpecLegal.j4])
               | succ kj191 =>
                have H := HA.out; clear HA; simp only [lodgerlaw11_SpecLegal.j4] at H
                by_cases c214 : x164_191 = true
                ·subst c214
                 have H1 : (some false) = some r := by rw [if_pos rfl] at H; exact H
                 rw [hr_.out] at H1
                 exact absurd (Option.some.inj H1) (by decide)
                ·as_aux_lemma =>
                 replace c214 := Bool.eq_false_iff.mpr c214
                 subst c214
                 have H1 : (if a2_0 = 5 then (if a3_0 = 0 then ((lodgerref05_Held.f kj191 a0_0 a0_1 l0_2 a0_3 a0_4 a0_5 a0_6 0).bind fun t578 => (if t578 = true then (some true) else ((lodgerref09_With.f kj191 l1 ((a2_1 - a0_0) % 4294967296)).bind fun t579 => (some (a3_2 == ((t579.length : Int) == (l1.length : Int))))))) else (some true)) else (some true)) = some r := by rw [if_neg (show ¬ (false = true) by decide)] at H; exact H
                 clear H; have H := H1; clear H1
                 by_cases c215 : a2_0 = 5
                 ·rw [if_pos c215] at H
                  have c215b0 : (a2_0 == 5) = true := beq_iff_eq.mpr c215
                  have c215b1 : (a2_0 != 5) = false := bne_eq_false_iff_eq.mpr c215
                  clear c215
                  by_cases c216 : a3_0 = 0
                  ·rw [if_pos c216] at H
                   have c216b0 : (a3_0 == 0) = true := beq_iff_eq.mpr c216
                   have c216b1 : (a3_0 != 0) = false := bne_eq_false_iff_eq.mpr c216
                   clear c216; replace H := Option.bind_eq_some_iff.mp H; obtain ⟨t578, A2170, H⟩ := H
                   replace H : (if t578 = true then (some true) else ((lodgerref09_With.f kj191 l1 ((a2_1 - a0_0) % 4294967296)).bind fun t579 => (some (a3_2 == ((t579.length : Int) == (l1.length : Int)))))) = some r := H
                   have A217 := Aside0.mk A2170; clear A2170
                   by_cases c218 : t578 = true
                   ·as_aux_lemma =>
                    subst c218
                    have H1 : (some true) = some r := by rw [if_pos rfl] at H; exact H
                    clear H; have H := H1; clear H1
                    first | (exfalso; rw [hr_.out] at H; exact absurd (Option.some.inj H) (by decide)) | (try clear hr_)
                    all_goals
                     obtain rfl := Option.some.inj H
                     try go_wp2
                     have n0_ := Aside0.mk (Kd.R_drew HO_560003.out); have n1_ := Aside0.mk (Kd.R_drew HO_560004.out); have n2_ := Aside0.mk (blk_drew BK539.out); have n3_ := Aside0.mk (blk_drew BK540.out); have n4_ := Aside0.mk (blk_drew BK541.out); have n5_ := Aside0.mk (blk_drew BK559.out); have n6_ := Aside0.mk (below_drew1 HB.out); clear HO_560003; clear HO_560004; clear BK539; clear BK540; clear BK541; clear BK559; clear HB; have HO_560003 := n0_; have HO_560004 := n1_; have BK539 := n2_; have BK540 := n3_; have BK541 := n4_; have BK559 := n5_; have HB := n6_; clear n0_ n1_ n2_ n3_ n4_ n5_ n6_
                     refine start_ (n := 31) (S := fun w' => w'.cell? ⟨gb540, 0, none⟩ = some (.int .i64 a2_0) ∧ w'.cell? ⟨gb540, 1, none⟩ = some (.int .u32 a2_1) ∧ w'.cell? ⟨gb540, 2, none⟩ = some (.slice A2_2 l2_2.length c2_2) ∧ w'.cell? ⟨gb541, 0, none⟩ = some (.int .i64 a3_0) ∧ w'.cell? ⟨gb541, 1, none⟩ = some (.int .u32 a3_1) ∧ w'.cell? ⟨gb541, 2, none⟩ = some (.bool a3_2) ∧ w'.cell? ⟨gb541, 3, none⟩ = some (.slice A3_3 l3_3.length c3_3) ∧ w'.cell? ⟨gb541, 4, none⟩ = some (.slice A3_4 l3_4.length c3_4) ∧ w'.cell? ⟨gb539, 0, none⟩ = some (.int .u32 a0_0) ∧ w'.cell? ⟨gb539, 1, none⟩ = some (.int .i64 a0_1) ∧ w'.cell? ⟨gb539, 2, none⟩ = some (.slice A0_2 l0_2.length c0_2) ∧ w'.cell? ⟨gb539, 3, none⟩ = some (.int .i64 a0_3) ∧ w'.cell? ⟨gb539, 4, none⟩ = some (.int .i64 a0_4) ∧ w'.cell? ⟨gb539, 5, none⟩ = some (.int .i64 a0_5) ∧ w'.cell? ⟨gb539, 6, none⟩ = some (.int .i64 a0_6)) (ds := []) (tf 31 0) (by kernel_rfl) rfl rfl ⟨(blk_cell BK540.out 0).trans rfl, (blk_cell BK540.out 1).trans rfl, (blk_cell BK540.out 2).trans rfl, (blk_cell BK541.out 0).trans rfl, (blk_cell BK541.out 1).trans rfl, (blk_cell BK541.out 2).trans rfl, (blk_cell BK541.out 3).trans rfl, (blk_cell BK541.out 4).trans rfl, (blk_cell BK539.out 0).trans rfl, (blk_cell BK539.out 1).trans rfl, (blk_cell BK539.out 2).trans rfl, (blk_cell BK539.out 3).trans rfl, (blk_cell BK539.out 4).trans rfl, (blk_cell BK539.out 5).trans rfl, (blk_cell BK539.out 6).trans rfl⟩ (fun hHeld => ?_); refine with_tabW lodgerlaw11_SpecLegal.tab22 lodgerlaw11_SpecLegal.bits22 (fun HT_ HW_ => ?_)
                     generalize wc.drew = w219 at HO_560003 HO_560004 BK539 BK540 BK541 BK559 HB hHeld ⊢
                     refine pv_ (i := 0) (N := some 165) (tf 31 1) HT_ ?_; refine tv_ (i := 1) (N := some 166) (tf 31 3) rfl rfl HT_ HW_ hHeld (by rintro w' ⟨s0, s1, s2, s3, s4, s5, s6, s7, s8, s9, s10, s11, s12, s13, s14⟩; go_simp; with_reducible rfl) ?_; refine pv_ (i := 2) (N := some 167) (tf 31 7) HT_ ?_; refine pv_ (i := 3) (N := some 168) (tf 31 15) HT_ ?_; refine pv_ (i := 4) (N := some 169) (tf 31 31) HT_ ?_; refine tv_ (i := 5) (N := some 170) (tf 31 63) rfl rfl HT_ HW_ hHeld (by rintro w' ⟨s0, s1, s2, s3, s4, s5, s6, s7, s8, s9, s10, s11, s12, s13, s14⟩; go_simp; with_reducible rfl) ?_; refine pv_ (i := 6) (N := some 171) (tf 31 127) HT_ ?_; refine pv_ (i := 7) (N := some 172) (tf 31 255) HT_ ?_; refine pv_ (i := 8) (N := some 173) (tf 31 511) HT_ ?_; refine tv_ (i := 9) (N := some 174) (tf 31 1023) rfl rfl HT_ HW_ hHeld (by rintro w' ⟨s0, s1, s2, s3, s4, s5, s6, s7, s8, s9, s10, s11, s12, s13, s14⟩; go_simp; with_reducible rfl) ?_
                     refine one_ (i := 10) (N := some 175) (tf 31 2047) rfl rfl (one_of HT_.out (by kernel_rfl)) (by decide) (fun K hK => ?_)
                     refine goes_ Tryd.func22 (by kernel_rfl) rfl #[.agg #[.int .u32 a0_0, .int .i64 a0_1, .slice A0_2 l0_2.length c0_2, .int .i64 a0_3, .int .i64 a0_4, .int .i64 a0_5, .int .i64 a0_6], .int .i64 0] (by rfl) rfl rfl am_ ?_
                     with_reducible refine (lodgerref05_Held.calls kj191 a0_0 a0_1 _ _ l0_2 a0_3 a0_4 a0_5 a0_6 0 true _ ?side1 ?side2 A217.out).mono ?_
                     (case side1 => exact cC_ HR0_2 HB)
                     (case side2 => exact HC0_2.out)
                     rintro e w220 ⟨rfl, hb⟩
                     refine ⟨_, rfl, ?_⟩
                     have n0_ := Aside0.mk (Kd.R_below (rR_ HO_560003) hb); have n1_ := Aside0.mk (Kd.R_below (rR_ HO_560004) hb); have n2_ := bB_ BK539 hb; have n3_ := bB_ BK540 hb; have n4_ := bB_ BK541 hb; have n5_ := bB_ BK559 hb; have n6_ := Aside0.mk (below_step (hB_ HB) hb); clear HO_560003; clear HO_560004; clear BK539; clear BK540; clear BK541; clear BK559; clear HB; have HO_560003 := n0_; have HO_560004 := n1_; have BK539 := n2_; have BK540 := n3_; have BK541 := n4_; have BK559 := n5_; have HB := n6_; clear n0_ n1_ n2_ n3_ n4_ n5_ n6_
                     (try clear hb)
                     (try clear hb2)
                     (try clear hk)
                     (try clear hi)
                     refine hK.out _ _ ⟨(blk_cell BK540.out 0).trans rfl, (blk_cell BK540.out 1).trans rfl, (blk_cell BK540.out 2).trans rfl, (blk_cell BK541.out 0).trans rfl, (blk_cell BK541.out 1).trans rfl, (blk_cell BK541.out 2).trans rfl, (blk_cell BK541.out 3).trans rfl, (blk_cell BK541.out 4).trans rfl, (blk_cell BK539.out 0).trans rfl, (blk_cell BK539.out 1).trans rfl, (blk_cell BK539.out 2).trans rfl, (blk_cell BK539.out 3).trans rfl, (blk_cell BK539.out 4).trans rfl, (blk_cell BK539.out 5).trans rfl, (blk_cell BK539.out 6).trans rfl⟩ (fun hHeld => ?_)
                     clear hK K
                     refine norm_ (a' := ?_) ?_ ?_
                     rotate_left
                     ·show Act.put _ (some 175) _ = _
                      simp only [Act.put, List.setIfInBounds_toArray, List.set_cons_zero, List.set_cons_succ, i64_w, i32_w, IntKind.wrap_u32, Int.add_emod_emod, Int.emod_add_emod]
                      rfl
                     refine pv_ (i := 11) (N := some 176) (tf 31 4095) HT_ ?_; refine pv_ (i := 12) (N := some 177) (tf 31 8191) HT_ ?_; refine pw_ (i := 13) (N := some 178) (tf 31 16383) HT_ ?_; refine pw_ (i := 14) (N := some 179) (tf 31 32767) HT_ ?_; refine pw_ (i := 15) (N := some 180) (tf 31 65535) HT_ ?_; refine pw_ (i := 16) (N := some 181) (tf 31 131071) HT_ ?_; refine pw_ (i := 17) (N := some 182) (tf 31 262143) HT_ ?_; refine pw_ (i := 18) (N := some 183) (tf 31 524287) HT_ ?_; refine pw_ (i := 19) (N := some 184) (tf 31 1048575) HT_ ?_; refine pw_ (i := 20) (N := some 185) (tf 31 2097151) HT_ ?_; refine pw_ (i := 21) (N := some 186) (tf 31 4194303) HT_ ?_; refine pw_ (i := 22) (N := some 187) (tf 31 8388607) HT_ ?_; refine pw_ (i := 23) (N := some 188) (tf 31 16777215) HT_ ?_; refine pw_ (i := 24) (N := some 189) (tf 31 33554431) HT_ ?_; refine pw_ (i := 25) (N := some 190) (tf 31 67108863) HT_ ?_; refine pw_ (i := 26) (N := some 191) (tf 31 134217727) HT_ ?_; refine pw_ (i := 27) (N := some 192) (tf 31 268435455) HT_ ?_; refine pw_ (i := 28) (N := some 193) (tf 31 536870911) HT_ ?_; refine pv_ (i := 29) (N := some 194) (tf 31 1073741823) HT_ ?_; refine pv_ (i := 30) (N := some 8) (tf 31 2147483647) HT_ ?_
                     refine done_ (done_of HT_.out (by kernel_rfl)) ?_
                     try go_wp2
                     go_ret
                     exact ⟨er_, hB_ HB⟩
                   ·as_aux_lemma =>
                    replace c218 := Bool.eq_false_iff.mpr c218
                    subst c218
                    have H1 : ((lodgerref09_With.f kj191 l1 ((a2_1 - a0_0) % 4294967296)).bind fun t579 => (some (a3_2 == ((t579.length : Int) == (l1.length : Int))))) = some r := by rw [if_neg (show ¬ (false = true) by decide)] at H; exact H
                    clear H; have H := H1; clear H1; replace H := Option.bind_eq_some_iff.mp H; obtain ⟨t579, A2210, H⟩ := H
                    replace H : (some (a3_2 == ((t579.length : Int) == (l1.length : Int)))) = some r := H
                    have A221 := Aside0.mk A2210; clear A2210
                    first | (exfalso; rw [hr_.out] at H; exact absurd (Option.some.inj H) (by decide)) | (try clear hr_)
                    all_goals
                     obtain rfl := Option.some.inj H
                     try go_wp2
                     have n0_ := Aside0.mk (Kd.R_drew HO_560003.out); have n1_ := Aside0.mk (Kd.R_drew HO_560004.out); have n2_ := Aside0.mk (blk_drew BK539.out); have n3_ := Aside0.mk (blk_drew BK540.out); have n4_ := Aside0.mk (blk_drew BK541.out); have n5_ := Aside0.mk (blk_drew BK559.out); have n6_ := Aside0.mk (below_drew1 HB.out); clear HO_560003; clear HO_560004; clear BK539; clear BK540; clear BK541; clear BK559; clear HB; have HO_560003 := n0_; have HO_560004 := n1_; have BK539 := n2_; have BK540 := n3_; have BK541 := n4_; have BK559 := n5_; have HB := n6_; clear n0_ n1_ n2_ n3_ n4_ n5_ n6_
                     refine start_ (n := 31) (S := fun w' => w'.cell? ⟨gb540, 0, none⟩ = some (.int .i64 a2_0) ∧ w'.cell? ⟨gb540, 1, none⟩ = some (.int .u32 a2_1) ∧ w'.cell? ⟨gb540, 2, none⟩ = some (.slice A2_2 l2_2.length c2_2) ∧ w'.cell? ⟨gb541, 0, none⟩ = some (.int .i64 a3_0) ∧ w'.cell? ⟨gb541, 1, none⟩ = some (.int .u32 a3_1) ∧ w'.cell? ⟨gb541, 2, none⟩ = some (.bool a3_2) ∧ w'.cell? ⟨gb541, 3, none⟩ = some (.slice A3_3 l3_3.length c3_3) ∧ w'.cell? ⟨gb541, 4, none⟩ = some (.slice A3_4 l3_4.length c3_4) ∧ w'.cell? ⟨gb539, 0, none⟩ = some (.int .u32 a0_0) ∧ w'.cell? ⟨gb539, 1, none⟩ = some (.int .i64 a0_1) ∧ w'.cell? ⟨gb539, 2, none⟩ = some (.slice A0_2 l0_2.length c0_2) ∧ w'.cell? ⟨gb539, 3, none⟩ = some (.int .i64 a0_3) ∧ w'.cell? ⟨gb539, 4, none⟩ = some (.int .i64 a0_4) ∧ w'.cell? ⟨gb539, 5, none⟩ = some (.int .i64 a0_5) ∧ w'.cell? ⟨gb539, 6, none⟩ = some (.int .i64 a0_6)) (ds := []) (tf 31 0) (by kernel_rfl) rfl rfl ⟨(blk_cell BK540.out 0).trans rfl, (blk_cell BK540.out 1).trans rfl, (blk_cell BK540.out 2).trans rfl, (blk_cell BK541.out 0).trans rfl, (blk_cell BK541.out 1).trans rfl, (blk_cell BK541.out 2).trans rfl, (blk_cell BK541.out 3).trans rfl, (blk_cell BK541.out 4).trans rfl, (blk_cell BK539.out 0).trans rfl, (blk_cell BK539.out 1).trans rfl, (blk_cell BK539.out 2).trans rfl, (blk_cell BK539.out 3).trans rfl, (blk_cell BK539.out 4).trans rfl, (blk_cell BK539.out 5).trans rfl, (blk_cell BK539.out 6).trans rfl⟩ (fun hHeld => ?_); refine with_tabW lodgerlaw11_SpecLegal.tab22 lodgerlaw11_SpecLegal.bits22 (fun HT_ HW_ => ?_)
                     generalize wc.drew = w222 at HO_560003 HO_560004 BK539 BK540 BK541 BK559 HB hHeld ⊢
                     refine pu_ (i := 0) (N := some 165) (tf 31 1) HT_ ?_; refine tk_ (i := 1) (N := some 166) (tf 31 3) rfl rfl HT_ HW_ hHeld (by rintro w' ⟨s0, s1, s2, s3, s4, s5, s6, s7, s8, s9, s10, s11, s12, s13, s14⟩; go_simp; with_reducible rfl) ?_; refine pu_ (i := 2) (N := some 167) (tf 31 7) HT_ ?_; refine pu_ (i := 3) (N := some 168) (tf 31 15) HT_ ?_; refine pu_ (i := 4) (N := some 169) (tf 31 31) HT_ ?_; refine tk_ (i := 5) (N := some 170) (tf 31 63) rfl rfl HT_ HW_ hHeld (by rintro w' ⟨s0, s1, s2, s3, s4, s5, s6, s7, s8, s9, s10, s11, s12, s13, s14⟩; go_simp; with_reducible rfl) ?_; refine pu_ (i := 6) (N := some 171) (tf 31 127) HT_ ?_; refine pu_ (i := 7) (N := some 172) (tf 31 255) HT_ ?_; refine pu_ (i := 8) (N := some 173) (tf 31 511) HT_ ?_; refine tk_ (i := 9) (N := some 174) (tf 31 1023) rfl rfl HT_ HW_ hHeld (by rintro w' ⟨s0, s1, s2, s3, s4, s5, s6, s7, s8, s9, s10, s11, s12, s13, s14⟩; go_simp; with_reducible rfl) ?_
                     refine one_ (i := 10) (N := some 175) (tf 31 2047) rfl rfl (one_of HT_.out (by kernel_rfl)) (by decide) (fun K hK => ?_)
                     refine goes_ Tryd.func22 (by kernel_rfl) rfl #[.agg #[.int .u32 a0_0, .int .i64 a0_1, .slice A0_2 l0_2.length c0_2, .int .i64 a0_3, .int .i64 a0_4, .int .i64 a0_5, .int .i64 a0_6], .int .i64 0] (by rfl) rfl rfl am_ ?_
                     with_reducible refine (lodgerref05_Held.calls kj191 a0_0 a0_1 _ _ l0_2 a0_3 a0_4 a0_5 a0_6 0 false _ ?side1 ?side2 A217.out).mono ?_
                     (case side1 => exact cC_ HR0_2 HB)
                     (case side2 => exact HC0_2.out)
                     rintro e w223 ⟨rfl, hb⟩
                     refine ⟨_, rfl, ?_⟩
                     have n0_ := Aside0.mk (Kd.R_below (rR_ HO_560003) hb); have n1_ := Aside0.mk (Kd.R_below (rR_ HO_560004) hb); have n2_ := bB_ BK539 hb; have n3_ := bB_ BK540 hb; have n4_ := bB_ BK541 hb; have n5_ := bB_ BK559 hb; have n6_ := Aside0.mk (below_step (hB_ HB) hb); clear HO_560003; clear HO_560004; clear BK539; clear BK540; clear BK541; clear BK559; clear HB; have HO_560003 := n0_; have HO_560004 := n1_; have BK539 := n2_; have BK540 := n3_; have BK541 := n4_; have BK559 := n5_; have HB := n6_; clear n0_ n1_ n2_ n3_ n4_ n5_ n6_
                     (try clear hb)
                     (try clear hb2)
                     (try clear hk)
                     (try clear hi)
                     refine hK.out _ _ ⟨(blk_cell BK540.out 0).trans rfl, (blk_cell BK540.out 1).trans rfl, (blk_cell BK540.out 2).trans rfl, (blk_cell BK541.out 0).trans rfl, (blk_cell BK541.out 1).trans rfl, (blk_cell BK541.out 2).trans rfl, (blk_cell BK541.out 3).trans rfl, (blk_cell BK541.out 4).trans rfl, (blk_cell BK539.out 0).trans rfl, (blk_cell BK539.out 1).trans rfl, (blk_cell BK539.out 2).trans rfl, (blk_cell BK539.out 3).trans rfl, (blk_cell BK539.out 4).trans rfl, (blk_cell BK539.out 5).trans rfl, (blk_cell BK539.out 6).trans rfl⟩ (fun hHeld => ?_)
                     clear hK K
                     refine norm_ (a' := ?_) ?_ ?_
                     rotate_left
                     ·show Act.put _ (some 175) _ = _
                      simp only [Act.put, List.setIfInBounds_toArray, List.set_cons_zero, List.set_cons_succ, i64_w, i32_w]
                      rfl
                     refine pu_ (i := 11) (N := some 176) (tf 31 4095) HT_ ?_; refine pu_ (i := 12) (N := some 177) (tf 31 8191) HT_ ?_; refine pu_ (i := 13) (N := some 178) (tf 31 16383) HT_ ?_; refine pu_ (i := 15) (N := some 180) (tf 31 49151) HT_ ?_; refine pu_ (i := 16) (N := some 181) (tf 31 114687) HT_ ?_; refine pu_ (i := 18) (N := some 183) (tf 31 376831) HT_ ?_; refine pu_ (i := 19) (N := some 184) (tf 31 901119) HT_ ?_; refine pu_ (i := 25) (N := some 190) (tf 31 34455551) HT_ ?_; refine pu_ (i := 26) (N := some 191) (tf 31 101564415) HT_ ?_; refine tk_ (i := 14) (N := some 179) (tf 31 101580799) rfl rfl HT_ HW_ hHeld (by rintro w' ⟨s0, s1, s2, s3, s4, s5, s6, s7, s8, s9, s10, s11, s12, s13, s14⟩; go_simp; with_reducible rfl) ?_; refine tk_ (i := 17) (N := some 182) (tf 31 101711871) rfl rfl HT_ HW_ hHeld (by rintro w' ⟨s0, s1, s2, s3, s4, s5, s6, s7, s8, s9, s10, s11, s12, s13, s14⟩; go_simp; with_reducible rfl) ?_; refine tk_ (i := 20) (N := some 185) (tf 31 102760447) rfl rfl HT_ HW_ hHeld (by rintro w' ⟨s0, s1, s2, s3, s4, s5, s6, s7, s8, s9, s10, s11, s12, s13, s14⟩; go_simp; with_reducible rfl) ?_; refine pu_ (i := 21) (N := some 186) (tf 31 104857599) HT_ ?_; refine pu_ (i := 22) (N := some 187) (tf 31 109051903) HT_ ?_
                     refine one_ (i := 23) (N := some 188) (tf 31 117440511) rfl rfl (one_of HT_.out (by kernel_rfl)) (by decide) (fun K hK => ?_)
                     refine goes_ Tryd.func23 (by kernel_rfl) rfl #[.slice A1 l1.length c1, .int .i64 ((a2_1 - a0_0) % 4294967296)] (by rfl) rfl rfl (by rw [← w64u_ (a2_1 - a0_0)]; exact am_) ?_
                     with_reducible refine (lodgerref09_With.calls kj191 _ _ l1 ((a2_1 - a0_0) % 4294967296) t579 _ ?side1 ?side2 A221.out).mono ?_
                     (case side1 => exact cC_ HR1 HB)
                     (case side2 => exact HC1.out)
                     rintro e w224 ⟨v580, rfl, ho0, hb⟩
                     refine ⟨_, rfl, ?_⟩
                     have n0_ := Aside0.mk (Kd.R_below (rR_ HO_560003) hb); have n1_ := Aside0.mk (Kd.R_below (rR_ HO_560004) hb); have n2_ := Aside0.mk (Kd.R_lower ho0 (below_size (hB_ HB))); have n3_ := bB_ BK539 hb; have n4_ := bB_ BK540 hb; have n5_ := bB_ BK541 hb; have n6_ := bB_ BK559 hb; have n7_ := Aside0.mk (below_step (hB_ HB) hb); clear HO_560003; clear HO_560004; clear BK539; clear BK540; clear BK541; clear BK559; clear HB; have HO_560003 := n0_; have HO_560004 := n1_; have HO581 := n2_; have BK539 := n3_; have BK540 := n4_; have BK541 := n5_; have BK559 := n6_; have HB := n7_; clear n0_ n1_ n2_ n3_ n4_ n5_ n6_ n7_
                     (try clear hb)
                     (try clear hb2)
                     (try clear hk)
                     (try clear hi)
                     (try clear ho0)
                     obtain ⟨Ao225, co225, eo225⟩ := Kd.R_slice HO581.out
                     (first | subst eo225 | (injection eo225 with f1_ f2_ f3_; have f4_ := f1_.symm; have f5_ := f3_.symm; clear f1_ f2_ f3_; subst f4_; subst f5_))
                     refine hK.out _ _ ⟨(blk_cell BK540.out 0).trans rfl, (blk_cell BK540.out 1).trans rfl, (blk_cell BK540.out 2).trans rfl, (blk_cell BK541.out 0).trans rfl, (blk_cell BK541.out 1).trans rfl, (blk_cell BK541.out 2).trans rfl, (blk_cell BK541.out 3).trans rfl, (blk_cell BK541.out 4).trans rfl, (blk_cell BK539.out 0).trans rfl, (blk_cell BK539.out 1).trans rfl, (blk_cell BK539.out 2).trans rfl, (blk_cell BK539.out 3).trans rfl, (blk_cell BK539.out 4).trans rfl, (blk_cell BK539.out 5).trans rfl, (blk_cell BK539.out 6).trans rfl⟩ (fun hHeld => ?_)
                     clear hK K
                     refine norm_ (a' := ?_) ?_ ?_
                     rotate_left
                     ·show Act.put _ (some 188) _ = _
                      simp only [Act.put, List.setIfInBounds_toArray, List.set_cons_zero, List.set_cons_succ, i64_w, i32_w]
                      rfl
                     refine pu_ (i := 24) (N := some 189) (tf 31 134217727) HT_ ?_; refine pu_ (i := 27) (N := some 192) (tf 31 268435455) HT_ ?_; refine pu_ (i := 28) (N := some 193) (tf 31 536870911) HT_ ?_; refine pu_ (i := 29) (N := some 194) (tf 31 1073741823) HT_ ?_; refine pu_ (i := 30) (N := some 8) (tf 31 2147483647) HT_ ?_
                     refine done_ (done_of HT_.out (by kernel_rfl)) ?_
                     try go_wp2
                     go_ret
                     exact ⟨er_, hB_ HB⟩
                  ·rw [if_neg c216] at H
                   have c216b0 : (a3_0 == 0) = false := beq_eq_false_iff_ne.mpr c216
                   have c216b1 : (a3_0 != 0) = true := bne_iff_ne.mpr c216
                   first | (exfalso; rw [hr_.out] at H; exact absurd (Option.some.inj H) (by decide)) | (try clear hr_)
                   all_goals
                    obtain rfl := Option.some.inj H
                    try go_wp2
                    have n0_ := Aside0.mk (Kd.R_drew HO_560003.out); have n1_ := Aside0.mk (Kd.R_drew HO_560004.out); have n2_ := Aside0.mk (blk_drew BK539.out); have n3_ := Aside0.mk (blk_drew BK540.out); have n4_ := Aside0.mk (blk_drew BK541.out); have n5_ := Aside0.mk (blk_drew BK559.out); have n6_ := Aside0.mk (below_drew1 HB.out); clear HO_560003; clear HO_560004; clear BK539; clear BK540; clear BK541; clear BK559; clear HB; have HO_560003 := n0_; have HO_560004 := n1_; have BK539 := n2_; have BK540 := n3_; have BK541 := n4_; have BK559 := n5_; have HB := n6_; clear n0_ n1_ n2_ n3_ n4_ n5_ n6_
                    refine start_ (n := 31) (S := fun w' => w'.cell? ⟨gb540, 0, none⟩ = some (.int .i64 a2_0) ∧ w'.cell? ⟨gb540, 1, none⟩ = some (.int .u32 a2_1) ∧ w'.cell? ⟨gb540, 2, none⟩ = some (.slice A2_2 l2_2.length c2_2) ∧ w'.cell? ⟨gb541, 0, none⟩ = some (.int .i64 a3_0) ∧ w'.cell? ⟨gb541, 1, none⟩ = some (.int .u32 a3_1) ∧ w'.cell? ⟨gb541, 2, none⟩ = some (.bool a3_2) ∧ w'.cell? ⟨gb541, 3, none⟩ = some (.slice A3_3 l3_3.length c3_3) ∧ w'.cell? ⟨gb541, 4, none⟩ = some (.slice A3_4 l3_4.length c3_4)) (ds := []) (tf 31 0) (by kernel_rfl) rfl rfl ⟨(blk_cell BK540.out 0).trans rfl, (blk_cell BK540.out 1).trans rfl, (blk_cell BK540.out 2).trans rfl, (blk_cell BK541.out 0).trans rfl, (blk_cell BK541.out 1).trans rfl, (blk_cell BK541.out 2).trans rfl, (blk_cell BK541.out 3).trans rfl, (blk_cell BK541.out 4).trans rfl⟩ (fun hHeld => ?_); refine with_tabW lodgerlaw11_SpecLegal.tab22 lodgerlaw11_SpecLegal.bits22 (fun HT_ HW_ => ?_)
                    generalize wc.drew = w226 at HO_560003 HO_560004 BK539 BK540 BK541 BK559 HB hHeld ⊢
                    refine pv_ (i := 0) (N := some 165) (tf 31 1) HT_ ?_; refine tv_ (i := 1) (N := some 166) (tf 31 3) rfl rfl HT_ HW_ hHeld (by rintro w' ⟨s0, s1, s2, s3, s4, s5, s6, s7⟩; go_simp; with_reducible rfl) ?_; refine pv_ (i := 2) (N := some 167) (tf 31 7) HT_ ?_; refine pv_ (i := 3) (N := some 168) (tf 31 15) HT_ ?_; refine pv_ (i := 4) (N := some 169) (tf 31 31) HT_ ?_; refine tv_ (i := 5) (N := some 170) (tf 31 63) rfl rfl HT_ HW_ hHeld (by rintro w' ⟨s0, s1, s2, s3, s4, s5, s6, s7⟩; go_simp; with_reducible rfl) ?_; refine pv_ (i := 6) (N := some 171) (tf 31 127) HT_ ?_; refine pv_ (i := 7) (N := some 172) (tf 31 255) HT_ ?_; refine pv_ (i := 8) (N := some 173) (tf 31 511) HT_ ?_; refine pw_ (i := 9) (N := some 174) (tf 31 1023) HT_ ?_; refine pw_ (i := 10) (N := some 175) (tf 31 2047) HT_ ?_; refine pv_ (i := 11) (N := some 176) (tf 31 4095) HT_ ?_; refine pv_ (i := 12) (N := some 177) (tf 31 8191) HT_ ?_; refine pw_ (i := 13) (N := some 178) (tf 31 16383) HT_ ?_; refine pw_ (i := 14) (N := some 179) (tf 31 32767) HT_ ?_; refine pw_ (i := 15) (N := some 180) (tf 31 65535) HT_ ?_; refine pw_ (i := 16) (N := some 181) (tf 31 131071) HT_ ?_; refine pw_ (i := 17) (N := some 182) (tf 31 262143) HT_ ?_; refine pw_ (i := 18) (N := some 183) (tf 31 524287) HT_ ?_; refine pw_ (i := 19) (N := some 184) (tf 31 1048575) HT_ ?_; refine pw_ (i := 20) (N := some 185) (tf 31 2097151) HT_ ?_; refine pw_ (i := 21) (N := some 186) (tf 31 4194303) HT_ ?_; refine pw_ (i := 22) (N := some 187) (tf 31 8388607) HT_ ?_; refine pw_ (i := 23) (N := some 188) (tf 31 16777215) HT_ ?_; refine pw_ (i := 24) (N := some 189) (tf 31 33554431) HT_ ?_; refine pw_ (i := 25) (N := some 190) (tf 31 67108863) HT_ ?_; refine pw_ (i := 26) (N := some 191) (tf 31 134217727) HT_ ?_; refine pw_ (i := 27) (N := some 192) (tf 31 268435455) HT_ ?_; refine pw_ (i := 28) (N := some 193) (tf 31 536870911) HT_ ?_; refine pv_ (i := 29) (N := some 194) (tf 31 1073741823) HT_ ?_; refine pv_ (i := 30) (N := some 8) (tf 31 2147483647) HT_ ?_
                    refine done_ (done_of HT_.out (by kernel_rfl)) ?_
                    try go_wp2
                    go_ret
                    exact ⟨er_, hB_ HB⟩
                 ·rw [if_neg c215] at H
                  have c215b0 : (a2_0 == 5) = false := beq_eq_false_iff_ne.mpr c215
                  have c215b1 : (a2_0 != 5) = true := bne_iff_ne.mpr c215
                  first | (exfalso; rw [hr_.out] at H; exact absurd (Option.some.inj H) (by decide)) | (try clear hr_)
                  all_goals
                   obtain rfl := Option.some.inj H
                   try go_wp2
                   have n0_ := Aside0.mk (Kd.R_drew HO_560003.out); have n1_ := Aside0.mk (Kd.R_drew HO_560004.out); have n2_ := Aside0.mk (blk_drew BK539.out); have n3_ := Aside0.mk (blk_drew BK540.out); have n4_ := Aside0.mk (blk_drew BK541.out); have n5_ := Aside0.mk (blk_drew BK559.out); have n6_ := Aside0.mk (below_drew1 HB.out); clear HO_560003; clear HO_560004; clear BK539; clear BK540; clear BK541; clear BK559; clear HB; have HO_560003 := n0_; have HO_560004 := n1_; have BK539 := n2_; have BK540 := n3_; have BK541 := n4_; have BK559 := n5_; have HB := n6_; clear n0_ n1_ n2_ n3_ n4_ n5_ n6_
                   refine start_ (n := 31) (S := fun w' => w'.cell? ⟨gb540, 0, none⟩ = some (.int .i64 a2_0) ∧ w'.cell? ⟨gb540, 1, none⟩ = some (.int .u32 a2_1) ∧ w'.cell? ⟨gb540, 2, none⟩ = some (.slice A2_2 l2_2.length c2_2)) (ds := []) (tf 31 0) (by kernel_rfl) rfl rfl ⟨(blk_cell BK540.out 0).trans rfl, (blk_cell BK540.out 1).trans rfl, (blk_cell BK540.out 2).trans rfl⟩ (fun hHeld => ?_); refine with_tabW lodgerlaw11_SpecLegal.tab22 lodgerlaw11_SpecLegal.bits22 (fun HT_ HW_ => ?_)
                   generalize wc.drew = w227 at HO_560003 HO_560004 BK539 BK540 BK541 BK559 HB hHeld ⊢
                   refine pv_ (i := 0) (N := some 165) (tf 31 1) HT_ ?_; refine tv_ (i := 1) (N := some 166) (tf 31 3) rfl rfl HT_ HW_ hHeld (by rintro w' ⟨s0, s1, s2⟩; go_simp; with_reducible rfl) ?_; refine pv_ (i := 2) (N := some 167) (tf 31 7) HT_ ?_; refine pv_ (i := 3) (N := some 168) (tf 31 15) HT_ ?_; refine pw_ (i := 4) (N := some 169) (tf 31 31) HT_ ?_; refine pw_ (i := 5) (N := some 170) (tf 31 63) HT_ ?_; refine pw_ (i := 6) (N := some 171) (tf 31 127) HT_ ?_; refine pv_ (i := 7) (N := some 172) (tf 31 255) HT_ ?_; refine pv_ (i := 8) (N := some 173) (tf 31 511) HT_ ?_; refine pw_ (i := 9) (N := some 174) (tf 31 1023) HT_ ?_; refine pw_ (i := 10) (N := some 175) (tf 31 2047) HT_ ?_; refine pv_ (i := 11) (N := some 176) (tf 31 4095) HT_ ?_; refine pv_ (i := 12) (N := some 177) (tf 31 8191) HT_ ?_; refine pw_ (i := 13) (N := some 178) (tf 31 16383) HT_ ?_; refine pw_ (i := 14) (N := some 179) (tf 31 32767) HT_ ?_; refine pw_ (i := 15) (N := some 180) (tf 31 65535) HT_ ?_; refine pw_ (i := 16) (N := some 181) (tf 31 131071) HT_ ?_; refine pw_ (i := 17) (N := some 182) (tf 31 262143) HT_ ?_; refine pw_ (i := 18) (N := some 183) (tf 31 524287) HT_ ?_; refine pw_ (i := 19) (N := some 184) (tf 31 1048575) HT_ ?_; refine pw_ (i := 20) (N := some 185) (tf 31 2097151) HT_ ?_; refine pw_ (i := 21) (N := some 186) (tf 31 4194303) HT_ ?_; refine pw_ (i := 22) (N := some 187) (tf 31 8388607) HT_ ?_; refine pw_ (i := 23) (N := some 188) (tf 31 16777215) HT_ ?_; refine pw_ (i := 24) (N := some 189) (tf 31 33554431) HT_ ?_; refine pw_ (i := 25) (N := some 190) (tf 31 67108863) HT_ ?_; refine pw_ (i := 26) (N := some 191) (tf 31 134217727) HT_ ?_; refine pw_ (i := 27) (N := some 192) (tf 31 268435455) HT_ ?_; refine pw_ (i := 28) (N := some 193) (tf 31 536870911) HT_ ?_; refine pv_ (i := 29) (N := some 194) (tf 31 1073741823) HT_ ?_; refine pv_ (i := 30) (N := some 8) (tf 31 2147483647) HT_ ?_
                   refine done_ (done_of HT_.out (by kernel_rfl)) ?_
                   try go_wp2
                   go_ret
                   exact ⟨er_, hB_ HB⟩
       ·replace c112 := Bool.eq_false_iff.mpr c112
        subst c112
        have H1 : ((lodgerref03_Ints.f kj44 t566 l1).bind fun t570 => (some t570)) = some r := by rw [if_neg (show ¬ (false = true) by decide)] at H; exact H
        clear H; have H := H1; clear H1; replace H := Option.bind_eq_some_iff.mp H; obtain ⟨t570, A2280, H⟩ := H
        replace H : (some t570) = some r := H
        have A228 := Aside0.mk A2280; clear A2280
        first | (exfalso; rw [hr_.out] at H; exact absurd (Option.some.inj H) (by decide)) | (try clear hr_)
        all_goals
         obtain rfl := Option.some.inj H
         have hnb229 := NB539_540.out; have hnc229 := NB540_539.out; have hnb230 := NB539_541.out; have hnc230 := NB541_539.out; have hnb231 := NB539_559.out; have hnc231 := NB559_539.out; obtain ⟨hcz232_0, hcz232_1, hcz232_2, hcz232_3, hcz232_4, hcz232_5, hcz232_6, hfz232_0, hfz232_1, hfz232_2, hfz232_3, hfz232_4, hfz232_5, hfz232_6⟩ := cz7_ (w := wc) BK539; have hnb233 := NB540_541.out; have hnc233 := NB541_540.out; have hnb234 := NB540_559.out; have hnc234 := NB559_540.out; obtain ⟨hcz235_0, hcz235_1, hcz235_2, hfz235_0, hfz235_1, hfz235_2⟩ := cz3_ (w := wc) BK540; have hnb236 := NB541_559.out; have hnc236 := NB559_541.out; obtain ⟨hcz237_0, hcz237_1, hcz237_2, hcz237_3, hcz237_4, hfz237_0, hfz237_1, hfz237_2, hfz237_3, hfz237_4⟩ := cz5_ (w := wc) BK541
         go_wp2_with (first | ((with_reducible refine gate_callee (f := 13) rfl ?_); refine goesL_ (some 85) rfl rfl Tryd.func13 (by kernel_rfl) rfl #[.agg #[.int .u32 a0_0, .int .i64 a0_1, .slice A0_2 l0_2.length c0_2, .int .i64 a0_3, .int .i64 a0_4, .int .i64 a0_5, .int .i64 a0_6], .slice A1 l1.length c1, .agg #[.int .i64 a2_0, .int .u32 a2_1, .slice A2_2 l2_2.length c2_2], .agg #[.int .i64 a3_0, .int .u32 a3_1, .bool a3_2, .slice A3_3 l3_3.length c3_3, .slice A3_4 l3_4.length c3_4]] rfl am_ ?_; (with_reducible refine (spec_Legal.calls kj44 a0_0 a0_1 _ _ l0_2 a0_3 a0_4 a0_5 a0_6 (fun k_ => k_ < w.heap.size) _ _ l1 a2_0 a2_1 _ _ l2_2 a3_0 a3_1 a3_2 _ _ l3_3 _ _ l3_4 t566 false _ ?side1 ?side2 ?side3 ?side4 ?side5 ?side6 ?side7 ?side8 ?side9 ?side10 A111.out).mono ?_); (case side1 => exact cC_ HR0_2 HB); (case side2 => exact HC0_2.out); (case side3 => exact Kd.V_mk HC1.out (Kd.F_below (Kd.C_F (Kd.heap_int .i64) HR1.out) (hB_ HB))); (case side4 => exact cC_ HR2_2 HB); (case side5 => exact HC2_2.out); (case side6 => exact cC_ HR3_3 HB); (case side7 => exact HC3_3.out); (case side8 => exact cC_ HR3_4 HB); (case side9 => exact HC3_4.out); (case side10 => exact Lg_below HG.out (hB_ HB)); rintro e w238 ⟨v567, rfl, ho0, hb⟩; refine ⟨_, rfl, ?_⟩; have n0_ := Aside0.mk (Kd.R_below (rR_ HO_560003) hb); have n1_ := Aside0.mk (Kd.R_below (rR_ HO_560004) hb); have n2_ := Aside0.mk (Kd.V_lower (Kd.V_mono (ok' := fun k_ => some k_ ≠ (.slice Ao57 t553.length co57 : Value).ownBlock ∧ some k_ ≠ (.slice Ao58 t556.length co58 : Value).ownBlock ∧ k_ ≠ gb539 ∧ k_ ≠ gb540 ∧ k_ ≠ gb541 ∧ k_ ≠ gb559) ho0 (fun k_ hk_ => ⟨Or.elim hk_ (fun hs_ => fun e_ => Nat.not_le.2 hs_ (Kd.R_base HO_560003.out k_ e_.symm)) (fun hn_ => (Kd.fresh' (Kd.R_lt (rR_ HO_560003)) k_ hn_)), Or.elim hk_ (fun hs_ => fun e_ => Nat.not_le.2 hs_ (Kd.R_base HO_560004.out k_ e_.symm)) (fun hn_ => (Kd.fresh' (Kd.R_lt (rR_ HO_560004)) k_ hn_)), Or.elim hk_ (fun hs_ => fun e_ => Nat.not_le.2 hs_ (by rw [e_]; exact GW539.out)) (fun hn_ => (fB_ BK539 k_ hn_)), Or.elim hk_ (fun hs_ => fun e_ => Nat.not_le.2 hs_ (by rw [e_]; exact GW540.out)) (fun hn_ => (fB_ BK540 k_ hn_)), Or.elim hk_ (fun hs_ => fun e_ => Nat.not_le.2 hs_ (by rw [e_]; exact GW541.out)) (fun hn_ => (fB_ BK541 k_ hn_)), Or.elim hk_ (fun hs_ => fun e_ => Nat.not_le.2 hs_ (by rw [e_]; exact GW559.out)) (fun hn_ => (fB_ BK559 k_ hn_))⟩)) (below_size (hB_ HB))); have n4_ := bB_ BK540 hb; have n6_ := bB_ BK559 hb; clear HO_560003; clear HO_560004; clear BK540; clear BK559; have HO_560003 := n0_; have HO_560004 := n1_; have HO568 := n2_; have BK540 := n4_; have BK559 := n6_; replace BK539 := bB_ BK539 hb; replace BK541 := bB_ BK541 hb; replace HB := hS_ HB hb; clear n0_ n1_ n2_ n4_ n6_; (try clear hb); (try clear hb2); (try clear hk); (try clear hi); (try clear ho0); obtain ⟨Ao239, co239, eo239⟩ := Kd.V_slice HO568.out; subst eo239) | ((with_reducible refine gate_callee (f := 17) rfl ?_); refine goesL_ (some 92) rfl rfl Tryd.func17 (by kernel_rfl) rfl #[.slice Ao239 t566.length co239, .slice A1 l1.length c1] rfl am_ ?_; (with_reducible refine (lodgerref03_Ints.calls kj44 _ _ t566 _ _ l1 t570 _ ?side1 ?side2 ?side3 ?side4 A228.out).mono ?_); (case side1 => repeat (first | exact (Kd.V_reads' HO568.out).2.2 | (with_reducible refine Kd.C_alloc ?_ _) | (with_reducible refine Kd.C_drewN ?_ _) | (with_reducible refine Kd.C_drew ?_))); (case side2 => exact (Kd.V_reads' HO568.out).2.1); (case side3 => exact cC_ HR1 HB); (case side4 => exact HC1.out); rintro e w' ⟨rfl, ⟨nd, rfl⟩⟩; refine ⟨_, rfl, ?_⟩))
         go_ret
         exact ⟨er_, hB_ HB⟩

/-- THE ONE PURE STATEMENT of lodgerlaw11_SpecLegal: yours. -/
def lodgerlaw11_SpecLegal.Pure : Prop := ∀ (a0_0 : Int) (a0_1 : Int) (l0_2 : List Int) (a0_3 : Int) (a0_4 : Int) (a0_5 : Int) (a0_6 : Int) (l1 : List Int) (a2_0 : Int) (a2_1 : Int) (l2_2 : List Int) (a3_0 : Int) (a3_1 : Int) (a3_2 : Bool) (l3_3 : List Int) (l3_4 : List Int), (Lit.int .u32 a0_0).wf = true → (Lit.int .i64 a0_1).wf = true → l0_2.length ≤ maxLen → (∀ x ∈ l0_2, (Lit.int .i64 x).wf = true) → (Lit.int .i64 a0_3).wf = true → (Lit.int .i64 a0_4).wf = true → (Lit.int .i64 a0_5).wf = true → (Lit.int .i64 a0_6).wf = true → l1.length ≤ maxLen → l1.length * 8 ≤ 140737488351232 → (∀ x ∈ l1, (Lit.int .i64 x).wf = true) → (Lit.int .i64 a2_0).wf = true → (Lit.int .u32 a2_1).wf = true → l2_2.length ≤ maxLen → (∀ x ∈ l2_2, (Lit.int .u32 x).wf = true) → (Lit.int .i64 a3_0).wf = true → (Lit.int .u32 a3_1).wf = true → l3_3.length ≤ maxLen → (∀ x ∈ l3_3, (Lit.int .u32 x).wf = true) → l3_4.length ≤ maxLen → (∀ x ∈ l3_4, (Lit.int .i64 x).wf = true) → ∃ k, lodgerlaw11_SpecLegal.f k a0_0 a0_1 l0_2 a0_3 a0_4 a0_5 a0_6 l1 a2_0 a2_1 l2_2 a3_0 a3_1 a3_2 l3_3 l3_4 = some true
theorem lodgerlaw11_SpecLegal.walk (P : lodgerlaw11_SpecLegal.Pure) (a0_0 : Int) (a0_1 : Int) (a0_2 : Option Addr) (len0_2 cap0_2 : Nat) (z0_2 : List Int) (a0_3 : Int) (a0_4 : Int) (a0_5 : Int) (a0_6 : Int) (a1 : Option Addr) (len1 cap1 : Nat) (z1 : List Int) (a2_0 : Int) (a2_1 : Int) (a2_2 : Option Addr) (len2_2 cap2_2 : Nat) (z2_2 : List Int) (a3_0 : Int) (a3_1 : Int) (a3_2 : Bool) (a3_3 : Option Addr) (len3_3 cap3_3 : Nat) (z3_3 : List Int) (a3_4 : Option Addr) (len3_4 cap3_4 : Nat) (z3_4 : List Int) (w : World) (w0_0 : (Lit.int .u32 a0_0).wf = true) (w0_1 : (Lit.int .i64 a0_1).wf = true) (w0_2 : (a0_2 = none ∧ len0_2 = 0 ∧ cap0_2 = 0 ∧ z0_2 = []) ∨ ∃ x, a0_2 = some x ∧ len0_2 ≤ cap0_2 ∧ cap0_2 ≤ maxLen ∧ z0_2.length = cap0_2 ∧ (∀ i, i < z0_2.length → w.cell? (x.add i) = some (.int .i64 (z0_2.getD i 0))) ∧ ∀ n ∈ z0_2, (Lit.int .i64 n).wf = true) (w0_3 : (Lit.int .i64 a0_3).wf = true) (w0_4 : (Lit.int .i64 a0_4).wf = true) (w0_5 : (Lit.int .i64 a0_5).wf = true) (w0_6 : (Lit.int .i64 a0_6).wf = true) (w1 : (a1 = none ∧ len1 = 0 ∧ cap1 = 0 ∧ z1 = []) ∨ ∃ x, a1 = some x ∧ len1 ≤ cap1 ∧ cap1 ≤ maxLen ∧ z1.length = cap1 ∧ (∀ i, i < z1.length → w.cell? (x.add i) = some (.int .i64 (z1.getD i 0))) ∧ ∀ n ∈ z1, (Lit.int .i64 n).wf = true) (y1 : len1 * 8 ≤ 140737488351232) (w2_0 : (Lit.int .i64 a2_0).wf = true) (w2_1 : (Lit.int .u32 a2_1).wf = true) (w2_2 : (a2_2 = none ∧ len2_2 = 0 ∧ cap2_2 = 0 ∧ z2_2 = []) ∨ ∃ x, a2_2 = some x ∧ len2_2 ≤ cap2_2 ∧ cap2_2 ≤ maxLen ∧ z2_2.length = cap2_2 ∧ (∀ i, i < z2_2.length → w.cell? (x.add i) = some (.int .u32 (z2_2.getD i 0))) ∧ ∀ n ∈ z2_2, (Lit.int .u32 n).wf = true) (w3_0 : (Lit.int .i64 a3_0).wf = true) (w3_1 : (Lit.int .u32 a3_1).wf = true) (w3_3 : (a3_3 = none ∧ len3_3 = 0 ∧ cap3_3 = 0 ∧ z3_3 = []) ∨ ∃ x, a3_3 = some x ∧ len3_3 ≤ cap3_3 ∧ cap3_3 ≤ maxLen ∧ z3_3.length = cap3_3 ∧ (∀ i, i < z3_3.length → w.cell? (x.add i) = some (.int .u32 (z3_3.getD i 0))) ∧ ∀ n ∈ z3_3, (Lit.int .u32 n).wf = true) (w3_4 : (a3_4 = none ∧ len3_4 = 0 ∧ cap3_4 = 0 ∧ z3_4 = []) ∨ ∃ x, a3_4 = some x ∧ len3_4 ≤ cap3_4 ∧ cap3_4 ≤ maxLen ∧ z3_4.length = cap3_4 ∧ (∀ i, i < z3_4.length → w.cell? (x.add i) = some (.int .i64 (z3_4.getD i 0))) ∧ ∀ n ∈ z3_4, (Lit.int .i64 n).wf = true) (hG : Lg w) :
  Calls Tryd.prog 4 #[.agg #[.int .u32 a0_0, .int .i64 a0_1, .slice a0_2 len0_2 cap0_2, .int .i64 a0_3, .int .i64 a0_4, .int .i64 a0_5, .int .i64 a0_6], .slice a1 len1 cap1, .agg #[.int .i64 a2_0, .int .u32 a2_1, .slice a2_2 len2_2 cap2_2], .agg #[.int .i64 a3_0, .int .u32 a3_1, .bool a3_2, .slice a3_3 len3_3 cap3_3, .slice a3_4 len3_4 cap3_4]] w fun e w' => e = .returned (.bool true) ∧ Below w.heap.size w w' := by
 obtain ⟨l0_2, rfl, hr0_2, hm0_2, hw0_2, hc0_2⟩ := ReadsInt.ofRowC w0_2
 obtain ⟨l1, rfl, hr1, hm1, hw1, hc1⟩ := ReadsInt.ofRowC w1
 obtain ⟨l2_2, rfl, hr2_2, hm2_2, hw2_2, hc2_2⟩ := ReadsInt.ofRowC w2_2
 obtain ⟨l3_3, rfl, hr3_3, hm3_3, hw3_3, hc3_3⟩ := ReadsInt.ofRowC w3_3
 obtain ⟨l3_4, rfl, hr3_4, hm3_4, hw3_4, hc3_4⟩ := ReadsInt.ofRowC w3_4
 obtain ⟨k, h⟩ := P a0_0 a0_1 l0_2 a0_3 a0_4 a0_5 a0_6 l1 a2_0 a2_1 l2_2 a3_0 a3_1 a3_2 l3_3 l3_4 w0_0 w0_1 hm0_2 hw0_2 w0_3 w0_4 w0_5 w0_6 hm1 y1 hw1 w2_0 w2_1 hm2_2 hw2_2 w3_0 w3_1 hm3_3 hw3_3 hm3_4 hw3_4
 refine (lodgerlaw11_SpecLegal.calls k a0_0 a0_1 _ _ l0_2 a0_3 a0_4 a0_5 a0_6 _ _ l1 a2_0 a2_1 _ _ l2_2 a3_0 a3_1 a3_2 _ _ l3_3 _ _ l3_4 true w (Kd.C_of_reads (d := (0 : Int)) (h1 := fun _ => rfl) hr0_2) hc0_2 (Kd.C_of_reads (d := (0 : Int)) (h1 := fun _ => rfl) hr1) hc1 (Kd.C_of_reads (d := (0 : Int)) (h1 := fun _ => rfl) hr2_2) hc2_2 (Kd.C_of_reads (d := (0 : Int)) (h1 := fun _ => rfl) hr3_3) hc3_3 (Kd.C_of_reads (d := (0 : Int)) (h1 := fun _ => rfl) hr3_4) hc3_4 hG rfl h).mono ?_
 rintro e w' ⟨rfl, hd⟩
 exact ⟨rfl, hd⟩

end Go.Proofs.YtkiimboedgnoiaaDoor.PSpecLegal
