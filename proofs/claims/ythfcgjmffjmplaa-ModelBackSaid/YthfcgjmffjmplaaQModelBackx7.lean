/- The walk of ModelBack, part of it: what the Go functions answer; no condition. -/
import Derived.Test.YthfcgjmffjmplaaQModelBackx0
import Derived.Test.YthfcgjmffjmplaaQModelBackx1
import Derived.Test.YthfcgjmffjmplaaQModelBackx2
import Derived.Test.YthfcgjmffjmplaaQModelBackx3
import Derived.Test.YthfcgjmffjmplaaQModelBackx4
import Derived.Test.YthfcgjmffjmplaaQModelBackx5
import Derived.Test.YthfcgjmffjmplaaQModelBackx6
namespace Go.Proofs.Ythfcgjmffjmplaa.PModelBack
open Go.RowKit Go.Proofs.YthfcgjmffjmplaaW.PrintWords Go.Proofs.YthfcgjmffjmplaaW.PrintLast Go.Proofs.YthfcgjmffjmplaaW.PrintMore
attribute [local go_sem] max2_int min2_int max_two min_two max_three min_three max_four min_four   -- for this text's walks alone
set_option linter.unusedVariables false
set_option linter.unusedSimpArgs false

/-! ### lodgerlaw09_ModelBack: function 5 -/
mutual
def lodgerlaw09_ModelBack.j0 : Nat → List Int → Int → Int → Bool → Int → Int → List Int → Int → Int → Int → Int → Option (Bool)
  | 0, _, _, _, _, _, _, _, _, _, _, _ => none
  | k + 1, x1, x2, x3, x24, x250000, x250001, x250002, x250003, x250004, x250005, x250006 => if x24 = true then ((lodgerlaw09_awake.f k).bind fun t253 => (some t253)) else ((model_With.f k x1 x2).bind fun t254 => ((model_Without.f k x1 x2).bind fun t257 => ((model_Has.f k t254 x2).bind fun t260 => (if t260 = true then ((model_Has.f k t257 x2).bind fun t261 => (if t261 = true then (lodgerlaw09_ModelBack.j1 k x2 t254 t257 true x250000 x250001 x250002 x250003 x250004 x250005 x250006) else (if x3 = x2 then (lodgerlaw09_ModelBack.j1 k x2 t254 t257 false x250000 x250001 x250002 x250003 x250004 x250005 x250006) else ((model_Has.f k t254 x3).bind fun t262 => ((model_Has.f k x1 x3).bind fun t263 => (if (t262 != t263) = true then (lodgerlaw09_ModelBack.j1 k x2 t254 t257 true x250000 x250001 x250002 x250003 x250004 x250005 x250006) else ((model_Has.f k t257 x3).bind fun t264 => ((model_Has.f k x1 x3).bind fun t265 => (lodgerlaw09_ModelBack.j1 k x2 t254 t257 (t264 != t265) x250000 x250001 x250002 x250003 x250004 x250005 x250006))))))))) else (lodgerlaw09_ModelBack.j1 k x2 t254 t257 true x250000 x250001 x250002 x250003 x250004 x250005 x250006)))))
def lodgerlaw09_ModelBack.j1 : Nat → Int → List Int → List Int → Bool → Int → Int → List Int → Int → Int → Int → Int → Option (Bool)
  | 0, _, _, _, _, _, _, _, _, _, _, _ => none
  | k + 1, x2, x9, x10, x63, x250000, x250001, x250002, x250003, x250004, x250005, x250006 => if x63 = true then (some false) else ((model_Without.f k x9 x2).bind fun t266 => ((lodgerref03_Ints.f k t266 x10).bind fun t269 => (if t269 = true then ((model_With.f k x10 x2).bind fun t270 => ((lodgerref03_Ints.f k t270 x9).bind fun t273 => (if t273 = true then (lodgerlaw09_ModelBack.j2 k ((x9.length : Int) != (wrap64 ((x10.length : Int) + 1))) x250000 x250001 x250002 x250003 x250004 x250005 x250006) else (lodgerlaw09_ModelBack.j2 k true x250000 x250001 x250002 x250003 x250004 x250005 x250006)))) else (lodgerlaw09_ModelBack.j2 k true x250000 x250001 x250002 x250003 x250004 x250005 x250006))))
def lodgerlaw09_ModelBack.j2 : Nat → Bool → Int → Int → List Int → Int → Int → Int → Int → Option (Bool)
  | 0, _, _, _, _, _, _, _, _ => none
  | k + 1, x85, x250000, x250001, x250002, x250003, x250004, x250005, x250006 => if x85 = true then (some false) else ((lodgerref05_Many.f k x250000 x250001).bind fun t274 => (if t274 > 256 then (some true) else ((lodgerref05_Many.f k x250000 x250001).bind fun t275 => (lodgerlaw09_ModelBack.l0 k ([] : List Int) (wrap64 (t275 - 1)) x250000 x250001 x250002 x250003 x250004 x250005 x250006))))
def lodgerlaw09_ModelBack.l0 : Nat → List Int → Int → Int → Int → List Int → Int → Int → Int → Int → Option (Bool)
  | 0, _, _, _, _, _, _, _, _, _ => none
  | k + 1, x11, x12, x250000, x250001, x250002, x250003, x250004, x250005, x250006 => if x12 ≥ 0 then ((lodgerref05_Held.f k x250000 x250001 x250002 x250003 x250004 x250005 x250006 x12).bind fun t278 => (if t278 = true then (lodgerlaw09_ModelBack.l0 k x11 (wrap64 (x12 - 1)) x250000 x250001 x250002 x250003 x250004 x250005 x250006) else ((model_Full.f x250000 x250001 x250002 x250003 x250004 x250005 x250006 x11).bind fun t279 => (if t279 = true then (some false) else ((model_With.f k x11 x12).bind fun t280 => (lodgerlaw09_ModelBack.l0 k t280 (wrap64 (x12 - 1)) x250000 x250001 x250002 x250003 x250004 x250005 x250006)))))) else ((model_Full.f x250000 x250001 x250002 x250003 x250004 x250005 x250006 x11).bind fun t276 => (if t276 = true then ((model_May.f k x250000 x250001 x250002 x250003 x250004 x250005 x250006 x11).bind fun t277 => (some t277)) else (some false)))
end
def lodgerlaw09_ModelBack.f (k : Nat) (a0_0 : Int) (a0_1 : Int) (l0_2 : List Int) (a0_3 : Int) (a0_4 : Int) (a0_5 : Int) (a0_6 : Int) (l1 : List Int) (a2 : Int) (a3 : Int) : Option (Bool) := (lodgerlaw09_awake.f k).bind fun t250 => (if t250 = true then ((lodgerref09_Rises.f k l1).bind fun t251 => (if t251 = true then ((lodgerref05_May.f k a0_0 a0_1 l0_2 a0_3 a0_4 a0_5 a0_6).bind fun t252 => (lodgerlaw09_ModelBack.j0 k l1 a2 a3 (!t252) a0_0 a0_1 l0_2 a0_3 a0_4 a0_5 a0_6)) else (lodgerlaw09_ModelBack.j0 k l1 a2 a3 true a0_0 a0_1 l0_2 a0_3 a0_4 a0_5 a0_6))) else (lodgerlaw09_ModelBack.j0 k l1 a2 a3 true a0_0 a0_1 l0_2 a0_3 a0_4 a0_5 a0_6))
theorem lodgerlaw09_ModelBack.mono_l : ∀ k, (∀ y0 y1 y2 y3 y4 y5 y6 y7 y8 y9 y10, LeO (lodgerlaw09_ModelBack.j0 k y0 y1 y2 y3 y4 y5 y6 y7 y8 y9 y10) (lodgerlaw09_ModelBack.j0 (k + 1) y0 y1 y2 y3 y4 y5 y6 y7 y8 y9 y10)) ∧ (∀ y0 y1 y2 y3 y4 y5 y6 y7 y8 y9 y10, LeO (lodgerlaw09_ModelBack.j1 k y0 y1 y2 y3 y4 y5 y6 y7 y8 y9 y10) (lodgerlaw09_ModelBack.j1 (k + 1) y0 y1 y2 y3 y4 y5 y6 y7 y8 y9 y10)) ∧ (∀ y0 y1 y2 y3 y4 y5 y6 y7, LeO (lodgerlaw09_ModelBack.j2 k y0 y1 y2 y3 y4 y5 y6 y7) (lodgerlaw09_ModelBack.j2 (k + 1) y0 y1 y2 y3 y4 y5 y6 y7)) ∧ (∀ y0 y1 y2 y3 y4 y5 y6 y7 y8, LeO (lodgerlaw09_ModelBack.l0 k y0 y1 y2 y3 y4 y5 y6 y7 y8) (lodgerlaw09_ModelBack.l0 (k + 1) y0 y1 y2 y3 y4 y5 y6 y7 y8))
  | 0 => ⟨fun _ _ _ _ _ _ _ _ _ _ _ r h => by simp [lodgerlaw09_ModelBack.j0] at h, fun _ _ _ _ _ _ _ _ _ _ _ r h => by simp [lodgerlaw09_ModelBack.j1] at h, fun _ _ _ _ _ _ _ _ r h => by simp [lodgerlaw09_ModelBack.j2] at h, fun _ _ _ _ _ _ _ _ _ r h => by simp [lodgerlaw09_ModelBack.l0] at h⟩
  | k + 1 => by
    obtain ⟨ih0, ih1, ih2, ih3⟩ := lodgerlaw09_ModelBack.mono_l k
    refine ⟨?_, ?_, ?_, ?_⟩
    · intro y0 y1 y2 y3 y4 y5 y6 y7 y8 y9 y10
      unfold lodgerlaw09_ModelBack.j0
      repeat' first
      | (with_reducible exact ih0 _ _ _ _ _ _ _ _ _ _ _)
      | (with_reducible exact ih1 _ _ _ _ _ _ _ _ _ _ _)
      | (with_reducible exact ih2 _ _ _ _ _ _ _ _)
      | (with_reducible exact ih3 _ _ _ _ _ _ _ _ _)
      | (with_reducible exact lodgerlaw09_awake.mono _)
      | (with_reducible exact lodgerref03_Ints.mono _ _ _)
      | (with_reducible exact lodgerref05_Held.mono _ _ _ _ _ _ _ _ _)
      | (with_reducible exact lodgerref05_Many.mono _ _ _)
      | (with_reducible exact lodgerref05_May.mono _ _ _ _ _ _ _ _)
      | (with_reducible exact lodgerref09_Rises.mono _ _)
      | (with_reducible exact model_Has.mono _ _ _)
      | (with_reducible exact model_May.mono _ _ _ _ _ _ _ _ _)
      | (with_reducible exact model_With.mono _ _ _)
      | (with_reducible exact model_Without.mono _ _ _)
      | (with_reducible exact LeO.refl _)
      | (with_reducible exact LeO.none _)
      | (with_reducible refine LeO.ite ?_ ?_)
      | (with_reducible refine LeO.bind ?_ (fun _ => ?_))
      | exact ih0 _ _ _ _ _ _ _ _ _ _ _
      | exact ih1 _ _ _ _ _ _ _ _ _ _ _
      | exact ih2 _ _ _ _ _ _ _ _
      | exact ih3 _ _ _ _ _ _ _ _ _
      | exact lodgerlaw09_awake.mono _
      | exact lodgerref03_Ints.mono _ _ _
      | exact lodgerref05_Held.mono _ _ _ _ _ _ _ _ _
      | exact lodgerref05_Many.mono _ _ _
      | exact lodgerref05_May.mono _ _ _ _ _ _ _ _
      | exact lodgerref09_Rises.mono _ _
      | exact model_Has.mono _ _ _
      | exact model_May.mono _ _ _ _ _ _ _ _ _
      | exact model_With.mono _ _ _
      | exact model_Without.mono _ _ _
      | exact LeO.none _
      | refine LeO.ite ?_ ?_
      | refine LeO.bind ?_ (fun _ => ?_)
    · intro y0 y1 y2 y3 y4 y5 y6 y7 y8 y9 y10
      unfold lodgerlaw09_ModelBack.j1
      repeat' first
      | (with_reducible exact ih0 _ _ _ _ _ _ _ _ _ _ _)
      | (with_reducible exact ih1 _ _ _ _ _ _ _ _ _ _ _)
      | (with_reducible exact ih2 _ _ _ _ _ _ _ _)
      | (with_reducible exact ih3 _ _ _ _ _ _ _ _ _)
      | (with_reducible exact lodgerlaw09_awake.mono _)
      | (with_reducible exact lodgerref03_Ints.mono _ _ _)
      | (with_reducible exact lodgerref05_Held.mono _ _ _ _ _ _ _ _ _)
      | (with_reducible exact lodgerref05_Many.mono _ _ _)
      | (with_reducible exact lodgerref05_May.mono _ _ _ _ _ _ _ _)
      | (with_reducible exact lodgerref09_Rises.mono _ _)
      | (with_reducible exact model_Has.mono _ _ _)
      | (with_reducible exact model_May.mono _ _ _ _ _ _ _ _ _)
      | (with_reducible exact model_With.mono _ _ _)
      | (with_reducible exact model_Without.mono _ _ _)
      | (with_reducible exact LeO.refl _)
      | (with_reducible exact LeO.none _)
      | (with_reducible refine LeO.ite ?_ ?_)
      | (with_reducible refine LeO.bind ?_ (fun _ => ?_))
      | exact ih0 _ _ _ _ _ _ _ _ _ _ _
      | exact ih1 _ _ _ _ _ _ _ _ _ _ _
      | exact ih2 _ _ _ _ _ _ _ _
      | exact ih3 _ _ _ _ _ _ _ _ _
      | exact lodgerlaw09_awake.mono _
      | exact lodgerref03_Ints.mono _ _ _
      | exact lodgerref05_Held.mono _ _ _ _ _ _ _ _ _
      | exact lodgerref05_Many.mono _ _ _
      | exact lodgerref05_May.mono _ _ _ _ _ _ _ _
      | exact lodgerref09_Rises.mono _ _
      | exact model_Has.mono _ _ _
      | exact model_May.mono _ _ _ _ _ _ _ _ _
      | exact model_With.mono _ _ _
      | exact model_Without.mono _ _ _
      | exact LeO.none _
      | refine LeO.ite ?_ ?_
      | refine LeO.bind ?_ (fun _ => ?_)
    · intro y0 y1 y2 y3 y4 y5 y6 y7
      unfold lodgerlaw09_ModelBack.j2
      repeat' first
      | (with_reducible exact ih0 _ _ _ _ _ _ _ _ _ _ _)
      | (with_reducible exact ih1 _ _ _ _ _ _ _ _ _ _ _)
      | (with_reducible exact ih2 _ _ _ _ _ _ _ _)
      | (with_reducible exact ih3 _ _ _ _ _ _ _ _ _)
      | (with_reducible exact lodgerlaw09_awake.mono _)
      | (with_reducible exact lodgerref03_Ints.mono _ _ _)
      | (with_reducible exact lodgerref05_Held.mono _ _ _ _ _ _ _ _ _)
      | (with_reducible exact lodgerref05_Many.mono _ _ _)
      | (with_reducible exact lodgerref05_May.mono _ _ _ _ _ _ _ _)
      | (with_reducible exact lodgerref09_Rises.mono _ _)
      | (with_reducible exact model_Has.mono _ _ _)
      | (with_reducible exact model_May.mono _ _ _ _ _ _ _ _ _)
      | (with_reducible exact model_With.mono _ _ _)
      | (with_reducible exact model_Without.mono _ _ _)
      | (with_reducible exact LeO.refl _)
      | (with_reducible exact LeO.none _)
      | (with_reducible refine LeO.ite ?_ ?_)
      | (with_reducible refine LeO.bind ?_ (fun _ => ?_))
      | exact ih0 _ _ _ _ _ _ _ _ _ _ _
      | exact ih1 _ _ _ _ _ _ _ _ _ _ _
      | exact ih2 _ _ _ _ _ _ _ _
      | exact ih3 _ _ _ _ _ _ _ _ _
      | exact lodgerlaw09_awake.mono _
      | exact lodgerref03_Ints.mono _ _ _
      | exact lodgerref05_Held.mono _ _ _ _ _ _ _ _ _
      | exact lodgerref05_Many.mono _ _ _
      | exact lodgerref05_May.mono _ _ _ _ _ _ _ _
      | exact lodgerref09_Rises.mono _ _
      | exact model_Has.mono _ _ _
      | exact model_May.mono _ _ _ _ _ _ _ _ _
      | exact model_With.mono _ _ _
      | exact model_Without.mono _ _ _
      | exact LeO.none _
      | refine LeO.ite ?_ ?_
      | refine LeO.bind ?_ (fun _ => ?_)
    · intro y0 y1 y2 y3 y4 y5 y6 y7 y8
      unfold lodgerlaw09_ModelBack.l0
      repeat' first
      | (with_reducible exact ih0 _ _ _ _ _ _ _ _ _ _ _)
      | (with_reducible exact ih1 _ _ _ _ _ _ _ _ _ _ _)
      | (with_reducible exact ih2 _ _ _ _ _ _ _ _)
      | (with_reducible exact ih3 _ _ _ _ _ _ _ _ _)
      | (with_reducible exact lodgerlaw09_awake.mono _)
      | (with_reducible exact lodgerref03_Ints.mono _ _ _)
      | (with_reducible exact lodgerref05_Held.mono _ _ _ _ _ _ _ _ _)
      | (with_reducible exact lodgerref05_Many.mono _ _ _)
      | (with_reducible exact lodgerref05_May.mono _ _ _ _ _ _ _ _)
      | (with_reducible exact lodgerref09_Rises.mono _ _)
      | (with_reducible exact model_Has.mono _ _ _)
      | (with_reducible exact model_May.mono _ _ _ _ _ _ _ _ _)
      | (with_reducible exact model_With.mono _ _ _)
      | (with_reducible exact model_Without.mono _ _ _)
      | (with_reducible exact LeO.refl _)
      | (with_reducible exact LeO.none _)
      | (with_reducible refine LeO.ite ?_ ?_)
      | (with_reducible refine LeO.bind ?_ (fun _ => ?_))
      | exact ih0 _ _ _ _ _ _ _ _ _ _ _
      | exact ih1 _ _ _ _ _ _ _ _ _ _ _
      | exact ih2 _ _ _ _ _ _ _ _
      | exact ih3 _ _ _ _ _ _ _ _ _
      | exact lodgerlaw09_awake.mono _
      | exact lodgerref03_Ints.mono _ _ _
      | exact lodgerref05_Held.mono _ _ _ _ _ _ _ _ _
      | exact lodgerref05_Many.mono _ _ _
      | exact lodgerref05_May.mono _ _ _ _ _ _ _ _
      | exact lodgerref09_Rises.mono _ _
      | exact model_Has.mono _ _ _
      | exact model_May.mono _ _ _ _ _ _ _ _ _
      | exact model_With.mono _ _ _
      | exact model_Without.mono _ _ _
      | exact LeO.none _
      | refine LeO.ite ?_ ?_
      | refine LeO.bind ?_ (fun _ => ?_)
theorem lodgerlaw09_ModelBack.mono : ∀ a0 a1 a2 a3 a4 a5 a6 a7 a8 a9 k, LeO (lodgerlaw09_ModelBack.f k a0 a1 a2 a3 a4 a5 a6 a7 a8 a9) (lodgerlaw09_ModelBack.f (k + 1) a0 a1 a2 a3 a4 a5 a6 a7 a8 a9) := by
  intro a0 a1 a2 a3 a4 a5 a6 a7 a8 a9 k
  obtain ⟨ih0, ih1, ih2, ih3⟩ := lodgerlaw09_ModelBack.mono_l k
  unfold lodgerlaw09_ModelBack.f
  repeat' first
      | (with_reducible exact ih0 _ _ _ _ _ _ _ _ _ _ _)
      | (with_reducible exact ih1 _ _ _ _ _ _ _ _ _ _ _)
      | (with_reducible exact ih2 _ _ _ _ _ _ _ _)
      | (with_reducible exact ih3 _ _ _ _ _ _ _ _ _)
      | (with_reducible exact lodgerlaw09_awake.mono _)
      | (with_reducible exact lodgerref03_Ints.mono _ _ _)
      | (with_reducible exact lodgerref05_Held.mono _ _ _ _ _ _ _ _ _)
      | (with_reducible exact lodgerref05_Many.mono _ _ _)
      | (with_reducible exact lodgerref05_May.mono _ _ _ _ _ _ _ _)
      | (with_reducible exact lodgerref09_Rises.mono _ _)
      | (with_reducible exact model_Has.mono _ _ _)
      | (with_reducible exact model_May.mono _ _ _ _ _ _ _ _ _)
      | (with_reducible exact model_With.mono _ _ _)
      | (with_reducible exact model_Without.mono _ _ _)
      | (with_reducible exact LeO.refl _)
      | (with_reducible exact LeO.none _)
      | (with_reducible refine LeO.ite ?_ ?_)
      | (with_reducible refine LeO.bind ?_ (fun _ => ?_))
      | exact ih0 _ _ _ _ _ _ _ _ _ _ _
      | exact ih1 _ _ _ _ _ _ _ _ _ _ _
      | exact ih2 _ _ _ _ _ _ _ _
      | exact ih3 _ _ _ _ _ _ _ _ _
      | exact lodgerlaw09_awake.mono _
      | exact lodgerref03_Ints.mono _ _ _
      | exact lodgerref05_Held.mono _ _ _ _ _ _ _ _ _
      | exact lodgerref05_Many.mono _ _ _
      | exact lodgerref05_May.mono _ _ _ _ _ _ _ _
      | exact lodgerref09_Rises.mono _ _
      | exact model_Has.mono _ _ _
      | exact model_May.mono _ _ _ _ _ _ _ _ _
      | exact model_With.mono _ _ _
      | exact model_Without.mono _ _ _
      | exact LeO.none _
      | refine LeO.ite ?_ ?_
      | refine LeO.bind ?_ (fun _ => ?_)
set_option maxHeartbeats 8000000 in
set_option maxRecDepth 100000 in
theorem lodgerlaw09_ModelBack.calls (k : Nat) (a0_0 : Int) (a0_1 : Int) (A0_2 : Option Addr) (c0_2 : Nat) (l0_2 : List Int) (a0_3 : Int) (a0_4 : Int) (a0_5 : Int) (a0_6 : Int) (A1 : Option Addr) (c1 : Nat) (l1 : List Int) (a2 : Int) (a3 : Int) (r : Bool) (w : World) (hr0_2 : Kd.C (Kd.int .i64) w A0_2 l0_2.length l0_2) (hc0_2 : l0_2.length ≤ c0_2) (hr1 : Kd.C (Kd.int .i64) w A1 l1.length l1) (hc1 : l1.length ≤ c1) (hr_ : r = true) (h : lodgerlaw09_ModelBack.f k a0_0 a0_1 l0_2 a0_3 a0_4 a0_5 a0_6 l1 a2 a3 = some r) :
    Calls Try.prog 5 #[.agg #[.int .u32 a0_0, .int .i64 a0_1, .slice A0_2 l0_2.length c0_2, .int .i64 a0_3, .int .i64 a0_4, .int .i64 a0_5, .int .i64 a0_6], .slice A1 l1.length c1, .int .i64 a2, .int .i64 a3] w fun e w' => e = .returned (.bool r) ∧ Below w.heap.size w w' := by
  have hu27 := Try.underlying27
  have hu24 := Try.underlying24
  have HR0_2 := Aside0.mk hr0_2
  have HC0_2 := Aside0.mk hc0_2
  clear hr0_2 hc0_2
  have HR1 := Aside0.mk hr1
  have HC1 := Aside0.mk hc1
  clear hr1 hc1
  have HB := Aside0.mk (Below.refl w.heap.size w)
  replace hr_ := Aside0.mk hr_
  have H : ((lodgerlaw09_awake.f k).bind fun t250 => (if t250 = true then ((lodgerref09_Rises.f k l1).bind fun t251 => (if t251 = true then ((lodgerref05_May.f k a0_0 a0_1 l0_2 a0_3 a0_4 a0_5 a0_6).bind fun t252 => (lodgerlaw09_ModelBack.j0 k l1 a2 a3 (!t252) a0_0 a0_1 l0_2 a0_3 a0_4 a0_5 a0_6)) else (lodgerlaw09_ModelBack.j0 k l1 a2 a3 true a0_0 a0_1 l0_2 a0_3 a0_4 a0_5 a0_6))) else (lodgerlaw09_ModelBack.j0 k l1 a2 a3 true a0_0 a0_1 l0_2 a0_3 a0_4 a0_5 a0_6))) = some r := h
  clear h
  have HC5 := Aside0.mk H
  clear H
  go_enter Try.func5, Try.ntmps5
  go_upto_region 1 with (first | ((with_reducible refine gate_dst (N := 4) rfl ?_); (try (refine gate_guard (by rfl) ?_; dsimp only)); refine box_event ?hg (N := 4) ?hd (cs := #[.int .u32 a0_0, .int .i64 a0_1, .slice A0_2 l0_2.length c0_2, .int .i64 a0_3, .int .i64 a0_4, .int .i64 a0_5, .int .i64 a0_6]) (t := 27) ?hr ?_; (case hd => rfl); (case hg => rfl); (case hr => first | (go_simp; done) | (go_simp; rfl)); intro gb249 hg w6 hbox hb; have n0_ := Aside0.mk (below_step (by repeat (first | (with_reducible first | exact HB.out | apply below_alloc | apply pw_below_drewN | apply below_drew1) | exact HB.out)) hb); have n1_ := Aside0.mk (hbox); have n2_ := Aside0.mk ((by rw [hg]; exact (below_size (by repeat (first | (with_reducible first | exact HB.out | apply below_alloc | apply pw_below_drewN | apply below_drew1) | exact HB.out))) : w.heap.size ≤ gb249)); have n3_ := Aside0.mk ((by rw [hg]; exact (below_size (by repeat (first | (with_reducible first | exact HB.out | apply below_alloc | apply pw_below_drewN | apply below_drew1) | exact HB.out))) : w.heap.size ≤ gb249)); clear HB; have HB := n0_; have BK249 := n1_; have GW249 := n2_; have GE249 := n3_; clear n0_ n1_ n2_ n3_; clear hb hbox hg))
  (try simp only [Act.put, List.setIfInBounds_toArray, List.set_cons_zero, List.set_cons_succ])
  go_cut [24] (fun v24 wc => ∃ (kq : Nat) (x24_4 : Bool), v24 = .bool x24_4 ∧ Aside0 (lodgerlaw09_ModelBack.j0 kq l1 a2 a3 x24_4 a0_0 a0_1 l0_2 a0_3 a0_4 a0_5 a0_6 = some r) ∧ Aside0 (kq ≤ k) ∧ Aside0 (wc.heap[gb249]? = some (.cells #[.int .u32 a0_0, .int .i64 a0_1, (.slice A0_2 l0_2.length c0_2), .int .i64 a0_3, .int .i64 a0_4, .int .i64 a0_5, .int .i64 a0_6] 27 (0, 0))) ∧ Aside0 (Below w.heap.size w wc))
  case first =>
    have H := HC5.out
    clear HC5
    replace H := Option.bind_eq_some_iff.mp H
    obtain ⟨t250, A70, H⟩ := H
    replace H : (if t250 = true then ((lodgerref09_Rises.f k l1).bind fun t251 => (if t251 = true then ((lodgerref05_May.f k a0_0 a0_1 l0_2 a0_3 a0_4 a0_5 a0_6).bind fun t252 => (lodgerlaw09_ModelBack.j0 k l1 a2 a3 (!t252) a0_0 a0_1 l0_2 a0_3 a0_4 a0_5 a0_6)) else (lodgerlaw09_ModelBack.j0 k l1 a2 a3 true a0_0 a0_1 l0_2 a0_3 a0_4 a0_5 a0_6))) else (lodgerlaw09_ModelBack.j0 k l1 a2 a3 true a0_0 a0_1 l0_2 a0_3 a0_4 a0_5 a0_6)) = some r := H
    have A7 := Aside0.mk A70
    clear A70
    by_cases c8 : t250 = true
    · subst c8
      have H1 : ((lodgerref09_Rises.f k l1).bind fun t251 => (if t251 = true then ((lodgerref05_May.f k a0_0 a0_1 l0_2 a0_3 a0_4 a0_5 a0_6).bind fun t252 => (lodgerlaw09_ModelBack.j0 k l1 a2 a3 (!t252) a0_0 a0_1 l0_2 a0_3 a0_4 a0_5 a0_6)) else (lodgerlaw09_ModelBack.j0 k l1 a2 a3 true a0_0 a0_1 l0_2 a0_3 a0_4 a0_5 a0_6))) = some r := by rw [if_pos rfl] at H; exact H
      clear H
      have H := H1
      clear H1
      replace H := Option.bind_eq_some_iff.mp H
      obtain ⟨t251, A90, H⟩ := H
      replace H : (if t251 = true then ((lodgerref05_May.f k a0_0 a0_1 l0_2 a0_3 a0_4 a0_5 a0_6).bind fun t252 => (lodgerlaw09_ModelBack.j0 k l1 a2 a3 (!t252) a0_0 a0_1 l0_2 a0_3 a0_4 a0_5 a0_6)) else (lodgerlaw09_ModelBack.j0 k l1 a2 a3 true a0_0 a0_1 l0_2 a0_3 a0_4 a0_5 a0_6)) = some r := H
      have A9 := Aside0.mk A90
      clear A90
      by_cases c10 : t251 = true
      · subst c10
        have H1 : ((lodgerref05_May.f k a0_0 a0_1 l0_2 a0_3 a0_4 a0_5 a0_6).bind fun t252 => (lodgerlaw09_ModelBack.j0 k l1 a2 a3 (!t252) a0_0 a0_1 l0_2 a0_3 a0_4 a0_5 a0_6)) = some r := by rw [if_pos rfl] at H; exact H
        clear H
        have H := H1
        clear H1
        replace H := Option.bind_eq_some_iff.mp H
        obtain ⟨t252, A110, H⟩ := H
        replace H : (lodgerlaw09_ModelBack.j0 k l1 a2 a3 (!t252) a0_0 a0_1 l0_2 a0_3 a0_4 a0_5 a0_6) = some r := H
        have A11 := Aside0.mk A110
        clear A110
        have H' := Aside0.mk H
        clear H
        go_wp2_with (first | ((with_reducible refine gate_callee (f := 9) rfl ?_); refine goesL_ (some 13) rfl rfl Try.func9 (by kernel_rfl) rfl #[] rfl (by (try simp only [List.map_toArray, List.map_cons, List.map_nil]); first | done | rfl | (simp only [List.length_drop, List.length_take]; rfl)) ?_; (with_reducible refine (lodgerlaw09_awake.calls k  true _ A7.out).mono ?_); rintro e w12 ⟨rfl, hb⟩; refine ⟨_, rfl, ?_⟩; have n0_ := Aside0.mk (blk_below (g := gb249) (o := .cells #[.int .u32 a0_0, .int .i64 a0_1, .slice A0_2 l0_2.length c0_2, .int .i64 a0_3, .int .i64 a0_4, .int .i64 a0_5, .int .i64 a0_6] 27 (0, 0)) (by (with_reducible repeat (first | refine blk_drewN ?_ _ | refine blk_drew ?_ | refine blk_alloc ?_ _)); exact BK249.out) hb); have n1_ := Aside0.mk (below_step (by repeat (first | (with_reducible first | exact HB.out | apply below_alloc | apply pw_below_drewN | apply below_drew1 | refine below_set ?_ GE249.out) | exact HB.out)) hb); clear BK249; clear HB; have BK249 := n0_; have HB := n1_; clear n0_ n1_; (try clear hb); (try clear hb2); (try clear hk); (try clear hi)) | (go_at_call 13; (with_reducible refine (lodgerref09_Rises.calls k _ _ l1 true _ ?side1 ?side2 A9.out).mono ?_); (case side1 => repeat (first | exact (Kd.C_below HR1.out HB.out) | (with_reducible refine Kd.C_alloc ?_ _) | (with_reducible refine Kd.C_drewN ?_ _) | (with_reducible refine Kd.C_drew ?_))); (case side2 => exact HC1.out); rintro e w' ⟨rfl, ⟨nd, rfl⟩⟩; have hcz13_0 : w12.cell? ⟨gb249, 0, none⟩ = some (.int .u32 a0_0) := (blk_cell BK249.out 0).trans rfl; have hcz13_1 : w12.cell? ⟨gb249, 1, none⟩ = some (.int .i64 a0_1) := (blk_cell BK249.out 1).trans rfl; have hcz13_2 : w12.cell? ⟨gb249, 2, none⟩ = some (.slice A0_2 l0_2.length c0_2) := (blk_cell BK249.out 2).trans rfl; have hcz13_3 : w12.cell? ⟨gb249, 3, none⟩ = some (.int .i64 a0_3) := (blk_cell BK249.out 3).trans rfl; have hcz13_4 : w12.cell? ⟨gb249, 4, none⟩ = some (.int .i64 a0_4) := (blk_cell BK249.out 4).trans rfl; have hcz13_5 : w12.cell? ⟨gb249, 5, none⟩ = some (.int .i64 a0_5) := (blk_cell BK249.out 5).trans rfl; have hcz13_6 : w12.cell? ⟨gb249, 6, none⟩ = some (.int .i64 a0_6) := (blk_cell BK249.out 6).trans rfl; have hfz13_0 := blk_frozen BK249.out 0; have hfz13_1 := blk_frozen BK249.out 1; have hfz13_2 := blk_frozen BK249.out 2; have hfz13_3 := blk_frozen BK249.out 3; have hfz13_4 := blk_frozen BK249.out 4; have hfz13_5 := blk_frozen BK249.out 5; have hfz13_6 := blk_frozen BK249.out 6) | (go_at_call 10; (with_reducible refine (lodgerref05_May.calls k a0_0 a0_1 _ _ l0_2 a0_3 a0_4 a0_5 a0_6 t252 _ ?side1 ?side2 A11.out).mono ?_); (case side1 => repeat (first | exact (Kd.C_below HR0_2.out (by repeat (first | (with_reducible first | exact HB.out | apply below_alloc | apply pw_below_drewN | apply below_drew1 | refine below_set ?_ GE249.out) | exact HB.out))) | (with_reducible refine Kd.C_alloc ?_ _) | (with_reducible refine Kd.C_drewN ?_ _) | (with_reducible refine Kd.C_drew ?_))); (case side2 => exact HC0_2.out); rintro e w14 ⟨rfl, hb⟩; have n0_ := Aside0.mk (blk_below (g := gb249) (o := .cells #[.int .u32 a0_0, .int .i64 a0_1, .slice A0_2 l0_2.length c0_2, .int .i64 a0_3, .int .i64 a0_4, .int .i64 a0_5, .int .i64 a0_6] 27 (0, 0)) (by (with_reducible repeat (first | refine blk_drewN ?_ _ | refine blk_drew ?_ | refine blk_alloc ?_ _)); exact BK249.out) hb); have n1_ := Aside0.mk (below_step (by repeat (first | (with_reducible first | exact HB.out | apply below_alloc | apply pw_below_drewN | apply below_drew1 | refine below_set ?_ GE249.out) | exact HB.out)) hb); clear BK249; clear HB; have BK249 := n0_; have HB := n1_; clear n0_ n1_; (try clear hb); (try clear hb2); (try clear hk); (try clear hi)))
        go_meet
        case rel => exact ⟨_, (!t252), (by first | rfl | (simp; done) | (simp [*]; done)), H', ⟨by first | omega | exact Nat.le_refl _⟩, ⟨by (with_reducible repeat (first | refine blk_drewN ?_ _ | refine blk_drew ?_ | refine blk_alloc ?_ _)); exact BK249.out⟩, ⟨by repeat (first | (with_reducible first | exact HB.out | apply below_alloc | apply pw_below_drewN | apply below_drew1 | refine below_set ?_ GE249.out) | exact HB.out)⟩⟩
      · replace c10 := Bool.eq_false_iff.mpr c10
        subst c10
        have H1 : (lodgerlaw09_ModelBack.j0 k l1 a2 a3 true a0_0 a0_1 l0_2 a0_3 a0_4 a0_5 a0_6) = some r := by rw [if_neg (show ¬ (false = true) by decide)] at H; exact H
        clear H
        have H := H1
        clear H1
        have H' := Aside0.mk H
        clear H
        go_wp2_with (first | ((with_reducible refine gate_callee (f := 9) rfl ?_); refine goesL_ (some 13) rfl rfl Try.func9 (by kernel_rfl) rfl #[] rfl (by (try simp only [List.map_toArray, List.map_cons, List.map_nil]); first | done | rfl | (simp only [List.length_drop, List.length_take]; rfl)) ?_; (with_reducible refine (lodgerlaw09_awake.calls k  true _ A7.out).mono ?_); rintro e w15 ⟨rfl, hb⟩; refine ⟨_, rfl, ?_⟩; have n0_ := Aside0.mk (blk_below (g := gb249) (o := .cells #[.int .u32 a0_0, .int .i64 a0_1, .slice A0_2 l0_2.length c0_2, .int .i64 a0_3, .int .i64 a0_4, .int .i64 a0_5, .int .i64 a0_6] 27 (0, 0)) (by (with_reducible repeat (first | refine blk_drewN ?_ _ | refine blk_drew ?_ | refine blk_alloc ?_ _)); exact BK249.out) hb); have n1_ := Aside0.mk (below_step (by repeat (first | (with_reducible first | exact HB.out | apply below_alloc | apply pw_below_drewN | apply below_drew1 | refine below_set ?_ GE249.out) | exact HB.out)) hb); clear BK249; clear HB; have BK249 := n0_; have HB := n1_; clear n0_ n1_; (try clear hb); (try clear hb2); (try clear hk); (try clear hi)) | (go_at_call 13; (with_reducible refine (lodgerref09_Rises.calls k _ _ l1 false _ ?side1 ?side2 A9.out).mono ?_); (case side1 => repeat (first | exact (Kd.C_below HR1.out HB.out) | (with_reducible refine Kd.C_alloc ?_ _) | (with_reducible refine Kd.C_drewN ?_ _) | (with_reducible refine Kd.C_drew ?_))); (case side2 => exact HC1.out); rintro e w' ⟨rfl, ⟨nd, rfl⟩⟩))
        go_meet
        case rel => exact ⟨_, (true), (by first | rfl | (simp; done) | (simp [*]; done)), H', ⟨by first | omega | exact Nat.le_refl _⟩, ⟨by (with_reducible repeat (first | refine blk_drewN ?_ _ | refine blk_drew ?_ | refine blk_alloc ?_ _)); exact BK249.out⟩, ⟨by repeat (first | (with_reducible first | exact HB.out | apply below_alloc | apply pw_below_drewN | apply below_drew1 | refine below_set ?_ GE249.out) | exact HB.out)⟩⟩
    · replace c8 := Bool.eq_false_iff.mpr c8
      subst c8
      have H1 : (lodgerlaw09_ModelBack.j0 k l1 a2 a3 true a0_0 a0_1 l0_2 a0_3 a0_4 a0_5 a0_6) = some r := by rw [if_neg (show ¬ (false = true) by decide)] at H; exact H
      clear H
      have H := H1
      clear H1
      have H' := Aside0.mk H
      clear H
      go_wp2_with (first | ((with_reducible refine gate_callee (f := 9) rfl ?_); refine goesL_ (some 13) rfl rfl Try.func9 (by kernel_rfl) rfl #[] rfl (by (try simp only [List.map_toArray, List.map_cons, List.map_nil]); first | done | rfl | (simp only [List.length_drop, List.length_take]; rfl)) ?_; (with_reducible refine (lodgerlaw09_awake.calls k  false _ A7.out).mono ?_); rintro e w16 ⟨rfl, hb⟩; refine ⟨_, rfl, ?_⟩; have n0_ := Aside0.mk (blk_below (g := gb249) (o := .cells #[.int .u32 a0_0, .int .i64 a0_1, .slice A0_2 l0_2.length c0_2, .int .i64 a0_3, .int .i64 a0_4, .int .i64 a0_5, .int .i64 a0_6] 27 (0, 0)) (by (with_reducible repeat (first | refine blk_drewN ?_ _ | refine blk_drew ?_ | refine blk_alloc ?_ _)); exact BK249.out) hb); have n1_ := Aside0.mk (below_step (by repeat (first | (with_reducible first | exact HB.out | apply below_alloc | apply pw_below_drewN | apply below_drew1 | refine below_set ?_ GE249.out) | exact HB.out)) hb); clear BK249; clear HB; have BK249 := n0_; have HB := n1_; clear n0_ n1_; (try clear hb); (try clear hb2); (try clear hk); (try clear hi)))
      go_meet
      case rel => exact ⟨_, (true), (by first | rfl | (simp; done) | (simp [*]; done)), H', ⟨by first | omega | exact Nat.le_refl _⟩, ⟨by (with_reducible repeat (first | refine blk_drewN ?_ _ | refine blk_drew ?_ | refine blk_alloc ?_ _)); exact BK249.out⟩, ⟨by repeat (first | (with_reducible first | exact HB.out | apply below_alloc | apply pw_below_drewN | apply below_drew1 | refine below_set ?_ GE249.out) | exact HB.out)⟩⟩
  case rest =>
    clear HC5
    try clear c1
    try clear p2
    try clear c5
    try clear c8
    try clear c9
    try clear c10
    try clear hcz13_0
    try clear hcz13_1
    try clear hcz13_2
    try clear hcz13_3
    try clear hcz13_4
    try clear hcz13_5
    try clear hcz13_6
    try clear hfz13_0
    try clear hfz13_1
    try clear hfz13_2
    try clear hfz13_3
    try clear hfz13_4
    try clear hfz13_5
    try clear hfz13_6
    obtain ⟨kq, x24_4, rfl, HA, HJ4, BK249, HB⟩ := hcut
    cases kq with
    | zero => exact absurd HA.out (by simp [lodgerlaw09_ModelBack.j0])
    | succ kj4 =>
      have H := HA.out
      clear HA
      simp only [lodgerlaw09_ModelBack.j0] at H
      by_cases c17 : x24_4 = true
      · subst c17
        have H1 : ((lodgerlaw09_awake.f kj4).bind fun t253 => (some t253)) = some r := by rw [if_pos rfl] at H; exact H
        clear H
        have H := H1
        clear H1
        replace H := Option.bind_eq_some_iff.mp H
        obtain ⟨t253, A180, H⟩ := H
        replace H : (some t253) = some r := H
        have A18 := Aside0.mk A180
        clear A180
        first | (exfalso; rw [hr_.out] at H; exact absurd (Option.some.inj H) (by decide)) | (try clear hr_)
        all_goals
          obtain rfl := Option.some.inj H
          go_wp2_with (first | ((with_reducible refine gate_callee (f := 9) rfl ?_); refine goesL_ (some 25) rfl rfl Try.func9 (by kernel_rfl) rfl #[] rfl (by (try simp only [List.map_toArray, List.map_cons, List.map_nil]); first | done | rfl | (simp only [List.length_drop, List.length_take]; rfl)) ?_; (with_reducible refine (lodgerlaw09_awake.calls kj4  t253 _ A18.out).mono ?_); rintro e w19 ⟨rfl, hb⟩; refine ⟨_, rfl, ?_⟩; have n0_ := Aside0.mk (blk_below (g := gb249) (o := .cells #[.int .u32 a0_0, .int .i64 a0_1, .slice A0_2 l0_2.length c0_2, .int .i64 a0_3, .int .i64 a0_4, .int .i64 a0_5, .int .i64 a0_6] 27 (0, 0)) (by (with_reducible repeat (first | refine blk_drewN ?_ _ | refine blk_drew ?_ | refine blk_alloc ?_ _)); exact BK249.out) hb); have n1_ := Aside0.mk (below_step (by repeat (first | (with_reducible first | exact HB.out | apply below_alloc | apply pw_below_drewN | apply below_drew1 | refine below_set ?_ GE249.out) | exact HB.out)) hb); clear BK249; clear HB; have BK249 := n0_; have HB := n1_; clear n0_ n1_; (try clear hb); (try clear hb2); (try clear hk); (try clear hi)))
          go_ret
          exact ⟨by first | rfl | (simp [errW_none, errW_some] <;> rfl) | (simp [*, errW_none, errW_some] <;> rfl), by repeat (first | (with_reducible first | exact HB.out | apply below_alloc | apply pw_below_drewN | apply below_drew1 | refine below_set ?_ GE249.out) | exact HB.out)⟩
      · replace c17 := Bool.eq_false_iff.mpr c17
        subst c17
        have H1 : ((model_With.f kj4 l1 a2).bind fun t254 => ((model_Without.f kj4 l1 a2).bind fun t257 => ((model_Has.f kj4 t254 a2).bind fun t260 => (if t260 = true then ((model_Has.f kj4 t257 a2).bind fun t261 => (if t261 = true then (lodgerlaw09_ModelBack.j1 kj4 a2 t254 t257 true a0_0 a0_1 l0_2 a0_3 a0_4 a0_5 a0_6) else (if a3 = a2 then (lodgerlaw09_ModelBack.j1 kj4 a2 t254 t257 false a0_0 a0_1 l0_2 a0_3 a0_4 a0_5 a0_6) else ((model_Has.f kj4 t254 a3).bind fun t262 => ((model_Has.f kj4 l1 a3).bind fun t263 => (if (t262 != t263) = true then (lodgerlaw09_ModelBack.j1 kj4 a2 t254 t257 true a0_0 a0_1 l0_2 a0_3 a0_4 a0_5 a0_6) else ((model_Has.f kj4 t257 a3).bind fun t264 => ((model_Has.f kj4 l1 a3).bind fun t265 => (lodgerlaw09_ModelBack.j1 kj4 a2 t254 t257 (t264 != t265) a0_0 a0_1 l0_2 a0_3 a0_4 a0_5 a0_6))))))))) else (lodgerlaw09_ModelBack.j1 kj4 a2 t254 t257 true a0_0 a0_1 l0_2 a0_3 a0_4 a0_5 a0_6))))) = some r := by rw [if_neg (show ¬ (false = true) by decide)] at H; exact H
        clear H
        have H := H1
        clear H1
        replace H := Option.bind_eq_some_iff.mp H
        obtain ⟨t254, A200, H⟩ := H
        replace H : ((model_Without.f kj4 l1 a2).bind fun t257 => ((model_Has.f kj4 t254 a2).bind fun t260 => (if t260 = true then ((model_Has.f kj4 t257 a2).bind fun t261 => (if t261 = true then (lodgerlaw09_ModelBack.j1 kj4 a2 t254 t257 true a0_0 a0_1 l0_2 a0_3 a0_4 a0_5 a0_6) else (if a3 = a2 then (lodgerlaw09_ModelBack.j1 kj4 a2 t254 t257 false a0_0 a0_1 l0_2 a0_3 a0_4 a0_5 a0_6) else ((model_Has.f kj4 t254 a3).bind fun t262 => ((model_Has.f kj4 l1 a3).bind fun t263 => (if (t262 != t263) = true then (lodgerlaw09_ModelBack.j1 kj4 a2 t254 t257 true a0_0 a0_1 l0_2 a0_3 a0_4 a0_5 a0_6) else ((model_Has.f kj4 t257 a3).bind fun t264 => ((model_Has.f kj4 l1 a3).bind fun t265 => (lodgerlaw09_ModelBack.j1 kj4 a2 t254 t257 (t264 != t265) a0_0 a0_1 l0_2 a0_3 a0_4 a0_5 a0_6))))))))) else (lodgerlaw09_ModelBack.j1 kj4 a2 t254 t257 true a0_0 a0_1 l0_2 a0_3 a0_4 a0_5 a0_6)))) = some r := H
        have A20 := Aside0.mk A200
        clear A200
        replace H := Option.bind_eq_some_iff.mp H
        obtain ⟨t257, A210, H⟩ := H
        replace H : ((model_Has.f kj4 t254 a2).bind fun t260 => (if t260 = true then ((model_Has.f kj4 t257 a2).bind fun t261 => (if t261 = true then (lodgerlaw09_ModelBack.j1 kj4 a2 t254 t257 true a0_0 a0_1 l0_2 a0_3 a0_4 a0_5 a0_6) else (if a3 = a2 then (lodgerlaw09_ModelBack.j1 kj4 a2 t254 t257 false a0_0 a0_1 l0_2 a0_3 a0_4 a0_5 a0_6) else ((model_Has.f kj4 t254 a3).bind fun t262 => ((model_Has.f kj4 l1 a3).bind fun t263 => (if (t262 != t263) = true then (lodgerlaw09_ModelBack.j1 kj4 a2 t254 t257 true a0_0 a0_1 l0_2 a0_3 a0_4 a0_5 a0_6) else ((model_Has.f kj4 t257 a3).bind fun t264 => ((model_Has.f kj4 l1 a3).bind fun t265 => (lodgerlaw09_ModelBack.j1 kj4 a2 t254 t257 (t264 != t265) a0_0 a0_1 l0_2 a0_3 a0_4 a0_5 a0_6))))))))) else (lodgerlaw09_ModelBack.j1 kj4 a2 t254 t257 true a0_0 a0_1 l0_2 a0_3 a0_4 a0_5 a0_6))) = some r := H
        have A21 := Aside0.mk A210
        clear A210
        have HC22 := Aside0.mk H
        clear H
        go_upto_region 5 with (first | ((with_reducible refine gate_callee (f := 17) rfl ?_); refine goesL_ (some 28) rfl rfl Try.func17 (by kernel_rfl) rfl #[.slice A1 l1.length c1, .int .i64 a2] rfl (by (try simp only [List.map_toArray, List.map_cons, List.map_nil]); first | done | rfl | (simp only [List.length_drop, List.length_take]; rfl)) ?_; (with_reducible refine (model_With.calls kj4 (fun k_ => k_ < w.heap.size) _ _ l1 a2 t254 _ ?side1 A20.out).mono ?_); (case side1 => exact Kd.V_mk HC1.out (Kd.F_below (Kd.C_F (Kd.heap_int .i64) HR1.out) (by repeat (first | (with_reducible first | exact HB.out | apply below_alloc | apply pw_below_drewN | apply below_drew1 | refine below_set ?_ GE249.out) | exact HB.out)))); rintro e w23 ⟨v255, rfl, ho0, hb⟩; refine ⟨_, rfl, ?_⟩; have n0_ := Aside0.mk (Kd.V_lower (Kd.V_mono (ok' := fun k_ => k_ ≠ gb249) ho0 (fun k_ hk_ => Or.elim hk_ (fun hs_ => fun e_ => Nat.not_le.2 hs_ (by rw [e_]; exact GW249.out)) (fun hn_ => (Kd.freshB (g := gb249) (o := .cells #[.int .u32 a0_0, .int .i64 a0_1, .slice A0_2 l0_2.length c0_2, .int .i64 a0_3, .int .i64 a0_4, .int .i64 a0_5, .int .i64 a0_6] 27 (0, 0)) (by (with_reducible repeat (first | refine blk_drewN ?_ _ | refine blk_drew ?_ | refine blk_alloc ?_ _)); exact BK249.out) k_ hn_)))) (below_size (by repeat (first | (with_reducible first | exact HB.out | apply below_alloc | apply pw_below_drewN | apply below_drew1 | refine below_set ?_ GE249.out) | exact HB.out)))); have n1_ := Aside0.mk (blk_below (g := gb249) (o := .cells #[.int .u32 a0_0, .int .i64 a0_1, .slice A0_2 l0_2.length c0_2, .int .i64 a0_3, .int .i64 a0_4, .int .i64 a0_5, .int .i64 a0_6] 27 (0, 0)) (by (with_reducible repeat (first | refine blk_drewN ?_ _ | refine blk_drew ?_ | refine blk_alloc ?_ _)); exact BK249.out) hb); have n2_ := Aside0.mk (below_step (by repeat (first | (with_reducible first | exact HB.out | apply below_alloc | apply pw_below_drewN | apply below_drew1 | refine below_set ?_ GE249.out) | exact HB.out)) hb); clear BK249; clear HB; have HO256 := n0_; have BK249 := n1_; have HB := n2_; clear n0_ n1_ n2_; (try clear hb); (try clear hb2); (try clear hk); (try clear hi); (try clear ho0)) | ((with_reducible refine gate_callee (f := 19) rfl ?_); refine goesL_ (some 31) rfl rfl Try.func19 (by kernel_rfl) rfl #[.slice A1 l1.length c1, .int .i64 a2] rfl (by (try simp only [List.map_toArray, List.map_cons, List.map_nil]); first | done | rfl | (simp only [List.length_drop, List.length_take]; rfl)) ?_; (with_reducible refine (model_Without.calls kj4 (fun k_ => k_ < w.heap.size) _ _ l1 a2 t257 _ ?side1 A21.out).mono ?_); (case side1 => exact Kd.V_mk HC1.out (Kd.F_below (Kd.C_F (Kd.heap_int .i64) HR1.out) (by repeat (first | (with_reducible first | exact HB.out | apply below_alloc | apply pw_below_drewN | apply below_drew1 | refine below_set ?_ GE249.out) | exact HB.out)))); rintro e w24 ⟨v258, rfl, ho0, hb⟩; refine ⟨_, rfl, ?_⟩; have n0_ := Aside0.mk (Kd.V_below (by (with_reducible repeat (first | apply Kd.V_alloc | apply Kd.V_drewN | apply Kd.V_drew)); exact HO256.out) hb); have n1_ := Aside0.mk (Kd.V_lower (Kd.V_mono (ok' := fun k_ => k_ ≠ gb249) ho0 (fun k_ hk_ => Or.elim hk_ (fun hs_ => fun e_ => Nat.not_le.2 hs_ (by rw [e_]; exact GW249.out)) (fun hn_ => (Kd.freshB (g := gb249) (o := .cells #[.int .u32 a0_0, .int .i64 a0_1, .slice A0_2 l0_2.length c0_2, .int .i64 a0_3, .int .i64 a0_4, .int .i64 a0_5, .int .i64 a0_6] 27 (0, 0)) (by (with_reducible repeat (first | refine blk_drewN ?_ _ | refine blk_drew ?_ | refine blk_alloc ?_ _)); exact BK249.out) k_ hn_)))) (below_size (by repeat (first | (with_reducible first | exact HB.out | apply below_alloc | apply pw_below_drewN | apply below_drew1 | refine below_set ?_ GE249.out) | exact HB.out)))); have n2_ := Aside0.mk (blk_below (g := gb249) (o := .cells #[.int .u32 a0_0, .int .i64 a0_1, .slice A0_2 l0_2.length c0_2, .int .i64 a0_3, .int .i64 a0_4, .int .i64 a0_5, .int .i64 a0_6] 27 (0, 0)) (by (with_reducible repeat (first | refine blk_drewN ?_ _ | refine blk_drew ?_ | refine blk_alloc ?_ _)); exact BK249.out) hb); have n3_ := Aside0.mk (below_step (by repeat (first | (with_reducible first | exact HB.out | apply below_alloc | apply pw_below_drewN | apply below_drew1 | refine below_set ?_ GE249.out) | exact HB.out)) hb); clear HO256; clear BK249; clear HB; have HO256 := n0_; have HO259 := n1_; have BK249 := n2_; have HB := n3_; clear n0_ n1_ n2_ n3_; (try clear hb); (try clear hb2); (try clear hk); (try clear hi); (try clear ho0)))
        (try simp only [Act.put, List.setIfInBounds_toArray, List.set_cons_zero, List.set_cons_succ])
        go_cut [63] (fun v63 wc => ∃ (kq : Nat) (x63_21 : Bool), v63 = .bool x63_21 ∧ Aside0 (lodgerlaw09_ModelBack.j1 kq a2 t254 t257 x63_21 a0_0 a0_1 l0_2 a0_3 a0_4 a0_5 a0_6 = some r) ∧ Aside0 (kq ≤ kj4) ∧ Aside0 (Kd.V (Kd.int .i64) 3 wc w.heap.size (fun k_ => k_ ≠ gb249) v255 t254) ∧ Aside0 (Kd.V (Kd.int .i64) 3 wc w.heap.size (fun k_ => k_ ≠ gb249) v258 t257) ∧ Aside0 (wc.heap[gb249]? = some (.cells #[.int .u32 a0_0, .int .i64 a0_1, (.slice A0_2 l0_2.length c0_2), .int .i64 a0_3, .int .i64 a0_4, .int .i64 a0_5, .int .i64 a0_6] 27 (0, 0))) ∧ Aside0 (Below w.heap.size w wc))
        case first =>
          have H := HC22.out
          clear HC22
          replace H := Option.bind_eq_some_iff.mp H
          obtain ⟨t260, A250, H⟩ := H
          replace H : (if t260 = true then ((model_Has.f kj4 t257 a2).bind fun t261 => (if t261 = true then (lodgerlaw09_ModelBack.j1 kj4 a2 t254 t257 true a0_0 a0_1 l0_2 a0_3 a0_4 a0_5 a0_6) else (if a3 = a2 then (lodgerlaw09_ModelBack.j1 kj4 a2 t254 t257 false a0_0 a0_1 l0_2 a0_3 a0_4 a0_5 a0_6) else ((model_Has.f kj4 t254 a3).bind fun t262 => ((model_Has.f kj4 l1 a3).bind fun t263 => (if (t262 != t263) = true then (lodgerlaw09_ModelBack.j1 kj4 a2 t254 t257 true a0_0 a0_1 l0_2 a0_3 a0_4 a0_5 a0_6) else ((model_Has.f kj4 t257 a3).bind fun t264 => ((model_Has.f kj4 l1 a3).bind fun t265 => (lodgerlaw09_ModelBack.j1 kj4 a2 t254 t257 (t264 != t265) a0_0 a0_1 l0_2 a0_3 a0_4 a0_5 a0_6))))))))) else (lodgerlaw09_ModelBack.j1 kj4 a2 t254 t257 true a0_0 a0_1 l0_2 a0_3 a0_4 a0_5 a0_6)) = some r := H
          have A25 := Aside0.mk A250
          clear A250
          by_cases c26 : t260 = true
          · subst c26
            have H1 : ((model_Has.f kj4 t257 a2).bind fun t261 => (if t261 = true then (lodgerlaw09_ModelBack.j1 kj4 a2 t254 t257 true a0_0 a0_1 l0_2 a0_3 a0_4 a0_5 a0_6) else (if a3 = a2 then (lodgerlaw09_ModelBack.j1 kj4 a2 t254 t257 false a0_0 a0_1 l0_2 a0_3 a0_4 a0_5 a0_6) else ((model_Has.f kj4 t254 a3).bind fun t262 => ((model_Has.f kj4 l1 a3).bind fun t263 => (if (t262 != t263) = true then (lodgerlaw09_ModelBack.j1 kj4 a2 t254 t257 true a0_0 a0_1 l0_2 a0_3 a0_4 a0_5 a0_6) else ((model_Has.f kj4 t257 a3).bind fun t264 => ((model_Has.f kj4 l1 a3).bind fun t265 => (lodgerlaw09_ModelBack.j1 kj4 a2 t254 t257 (t264 != t265) a0_0 a0_1 l0_2 a0_3 a0_4 a0_5 a0_6))))))))) = some r := by rw [if_pos rfl] at H; exact H
            clear H
            have H := H1
            clear H1
            replace H := Option.bind_eq_some_iff.mp H
            obtain ⟨t261, A270, H⟩ := H
            replace H : (if t261 = true then (lodgerlaw09_ModelBack.j1 kj4 a2 t254 t257 true a0_0 a0_1 l0_2 a0_3 a0_4 a0_5 a0_6) else (if a3 = a2 then (lodgerlaw09_ModelBack.j1 kj4 a2 t254 t257 false a0_0 a0_1 l0_2 a0_3 a0_4 a0_5 a0_6) else ((model_Has.f kj4 t254 a3).bind fun t262 => ((model_Has.f kj4 l1 a3).bind fun t263 => (if (t262 != t263) = true then (lodgerlaw09_ModelBack.j1 kj4 a2 t254 t257 true a0_0 a0_1 l0_2 a0_3 a0_4 a0_5 a0_6) else ((model_Has.f kj4 t257 a3).bind fun t264 => ((model_Has.f kj4 l1 a3).bind fun t265 => (lodgerlaw09_ModelBack.j1 kj4 a2 t254 t257 (t264 != t265) a0_0 a0_1 l0_2 a0_3 a0_4 a0_5 a0_6)))))))) = some r := H
            have A27 := Aside0.mk A270
            clear A270
            by_cases c28 : t261 = true
            · subst c28
              have H1 : (lodgerlaw09_ModelBack.j1 kj4 a2 t254 t257 true a0_0 a0_1 l0_2 a0_3 a0_4 a0_5 a0_6) = some r := by rw [if_pos rfl] at H; exact H
              clear H
              have H := H1
              clear H1
              have H' := Aside0.mk H
              clear H
              obtain ⟨Ao29, co29, eo29⟩ := Kd.V_slice HO256.out
              subst eo29
              go_wp2_with (first | ((with_reducible refine gate_callee (f := 14) rfl ?_); refine goesL_ (some 34) rfl rfl Try.func14 (by kernel_rfl) rfl #[.slice Ao29 t254.length co29, .int .i64 a2] rfl (by (try simp only [List.map_toArray, List.map_cons, List.map_nil]); first | done | rfl | (simp only [List.length_drop, List.length_take]; rfl)) ?_; (with_reducible refine (model_Has.calls kj4 _ _ t254 a2 true _ ?side1 ?side2 A25.out).mono ?_); (case side1 => repeat (first | exact (Kd.V_reads' HO256.out).2.2 | (with_reducible refine Kd.C_alloc ?_ _) | (with_reducible refine Kd.C_drewN ?_ _) | (with_reducible refine Kd.C_drew ?_))); (case side2 => exact (Kd.V_reads' HO256.out).2.1); rintro e w' ⟨rfl, ⟨nd, rfl⟩⟩; refine ⟨_, rfl, ?_⟩; obtain ⟨Ao30, co30, eo30⟩ := Kd.V_slice HO259.out; subst eo30) | (go_at_call 14; (with_reducible refine (model_Has.calls kj4 _ _ t257 a2 true _ ?side1 ?side2 A27.out).mono ?_); (case side1 => repeat (first | exact (Kd.V_reads' HO259.out).2.2 | (with_reducible refine Kd.C_alloc ?_ _) | (with_reducible refine Kd.C_drewN ?_ _) | (with_reducible refine Kd.C_drew ?_))); (case side2 => exact (Kd.V_reads' HO259.out).2.1); rintro e w' ⟨rfl, ⟨nd, rfl⟩⟩))
              go_meet
              case rel => exact ⟨_, (true), (by first | rfl | (simp; done) | (simp [*]; done)), H', ⟨by have := HJ4.out; first | omega | exact Nat.le_refl _⟩, ⟨by (with_reducible repeat (first | apply Kd.V_alloc | apply Kd.V_drewN | apply Kd.V_drew)); exact HO256.out⟩, ⟨by (with_reducible repeat (first | apply Kd.V_alloc | apply Kd.V_drewN | apply Kd.V_drew)); exact HO259.out⟩, ⟨by (with_reducible repeat (first | refine blk_drewN ?_ _ | refine blk_drew ?_ | refine blk_alloc ?_ _)); exact BK249.out⟩, ⟨by repeat (first | (with_reducible first | exact HB.out | apply below_alloc | apply pw_below_drewN | apply below_drew1 | refine below_set ?_ GE249.out) | exact HB.out)⟩⟩
            · replace c28 := Bool.eq_false_iff.mpr c28
              subst c28
              have H1 : (if a3 = a2 then (lodgerlaw09_ModelBack.j1 kj4 a2 t254 t257 false a0_0 a0_1 l0_2 a0_3 a0_4 a0_5 a0_6) else ((model_Has.f kj4 t254 a3).bind fun t262 => ((model_Has.f kj4 l1 a3).bind fun t263 => (if (t262 != t263) = true then (lodgerlaw09_ModelBack.j1 kj4 a2 t254 t257 true a0_0 a0_1 l0_2 a0_3 a0_4 a0_5 a0_6) else ((model_Has.f kj4 t257 a3).bind fun t264 => ((model_Has.f kj4 l1 a3).bind fun t265 => (lodgerlaw09_ModelBack.j1 kj4 a2 t254 t257 (t264 != t265) a0_0 a0_1 l0_2 a0_3 a0_4 a0_5 a0_6))))))) = some r := by rw [if_neg (show ¬ (false = true) by decide)] at H; exact H
              clear H
              have H := H1
              clear H1
              by_cases c31 : a3 = a2
              · rw [if_pos c31] at H
                have c31b0 : (a3 == a2) = true := beq_iff_eq.mpr c31
                have c31b1 : (a3 != a2) = false := bne_eq_false_iff_eq.mpr c31
                clear c31
                (first | rw [c31b0] | (simp only [i64_w, i32_w]; rw [c31b0]) | skip)
                have H' := Aside0.mk H
                clear H
                obtain ⟨Ao32, co32, eo32⟩ := Kd.V_slice HO256.out
                subst eo32
                go_wp2_with (first | ((with_reducible refine gate_callee (f := 14) rfl ?_); refine goesL_ (some 34) rfl rfl Try.func14 (by kernel_rfl) rfl #[.slice Ao32 t254.length co32, .int .i64 a2] rfl (by (try simp only [List.map_toArray, List.map_cons, List.map_nil]); first | done | rfl | (simp only [List.length_drop, List.length_take]; rfl)) ?_; (with_reducible refine (model_Has.calls kj4 _ _ t254 a2 true _ ?side1 ?side2 A25.out).mono ?_); (case side1 => repeat (first | exact (Kd.V_reads' HO256.out).2.2 | (with_reducible refine Kd.C_alloc ?_ _) | (with_reducible refine Kd.C_drewN ?_ _) | (with_reducible refine Kd.C_drew ?_))); (case side2 => exact (Kd.V_reads' HO256.out).2.1); rintro e w' ⟨rfl, ⟨nd, rfl⟩⟩; refine ⟨_, rfl, ?_⟩; obtain ⟨Ao33, co33, eo33⟩ := Kd.V_slice HO259.out; subst eo33) | (go_at_call 14; (with_reducible refine (model_Has.calls kj4 _ _ t257 a2 false _ ?side1 ?side2 A27.out).mono ?_); (case side1 => repeat (first | exact (Kd.V_reads' HO259.out).2.2 | (with_reducible refine Kd.C_alloc ?_ _) | (with_reducible refine Kd.C_drewN ?_ _) | (with_reducible refine Kd.C_drew ?_))); (case side2 => exact (Kd.V_reads' HO259.out).2.1); rintro e w' ⟨rfl, ⟨nd, rfl⟩⟩))
                go_meet
                case rel => exact ⟨_, (false), (by first | rfl | (simp; done) | (simp [*]; done)), H', ⟨by have := HJ4.out; first | omega | exact Nat.le_refl _⟩, ⟨by (with_reducible repeat (first | apply Kd.V_alloc | apply Kd.V_drewN | apply Kd.V_drew)); exact HO256.out⟩, ⟨by (with_reducible repeat (first | apply Kd.V_alloc | apply Kd.V_drewN | apply Kd.V_drew)); exact HO259.out⟩, ⟨by (with_reducible repeat (first | refine blk_drewN ?_ _ | refine blk_drew ?_ | refine blk_alloc ?_ _)); exact BK249.out⟩, ⟨by repeat (first | (with_reducible first | exact HB.out | apply below_alloc | apply pw_below_drewN | apply below_drew1 | refine below_set ?_ GE249.out) | exact HB.out)⟩⟩
              · rw [if_neg c31] at H
                have c31b0 : (a3 == a2) = false := beq_eq_false_iff_ne.mpr c31
                have c31b1 : (a3 != a2) = true := bne_iff_ne.mpr c31
                (first | rw [c31b0] | (simp only [i64_w, i32_w]; rw [c31b0]) | skip)
                replace H := Option.bind_eq_some_iff.mp H
                obtain ⟨t262, A340, H⟩ := H
                replace H : ((model_Has.f kj4 l1 a3).bind fun t263 => (if (t262 != t263) = true then (lodgerlaw09_ModelBack.j1 kj4 a2 t254 t257 true a0_0 a0_1 l0_2 a0_3 a0_4 a0_5 a0_6) else ((model_Has.f kj4 t257 a3).bind fun t264 => ((model_Has.f kj4 l1 a3).bind fun t265 => (lodgerlaw09_ModelBack.j1 kj4 a2 t254 t257 (t264 != t265) a0_0 a0_1 l0_2 a0_3 a0_4 a0_5 a0_6))))) = some r := H
                have A34 := Aside0.mk A340
                clear A340
                replace H := Option.bind_eq_some_iff.mp H
                obtain ⟨t263, A350, H⟩ := H
                replace H : (if (t262 != t263) = true then (lodgerlaw09_ModelBack.j1 kj4 a2 t254 t257 true a0_0 a0_1 l0_2 a0_3 a0_4 a0_5 a0_6) else ((model_Has.f kj4 t257 a3).bind fun t264 => ((model_Has.f kj4 l1 a3).bind fun t265 => (lodgerlaw09_ModelBack.j1 kj4 a2 t254 t257 (t264 != t265) a0_0 a0_1 l0_2 a0_3 a0_4 a0_5 a0_6)))) = some r := H
                have A35 := Aside0.mk A350
                clear A350
                by_cases c36 : (t262 != t263) = true
                · rw [if_pos c36] at H
                  have c36b0 : (t262 != t263) = true := c36
                  (try (have c36b1 : decide (t262 = t263) = false := by simpa using c36))
                  (try (have c36b2 : (t262 == t263) = false := by simpa using c36))
                  (try (have c36b3 : ¬ (t262 = t263) := by simpa using c36))
                  clear c36
                  have H' := Aside0.mk H
                  clear H
                  obtain ⟨Ao37, co37, eo37⟩ := Kd.V_slice HO256.out
                  subst eo37
                  go_wp2_with (first | ((with_reducible refine gate_callee (f := 14) rfl ?_); refine goesL_ (some 34) rfl rfl Try.func14 (by kernel_rfl) rfl #[.slice Ao37 t254.length co37, .int .i64 a2] rfl (by (try simp only [List.map_toArray, List.map_cons, List.map_nil]); first | done | rfl | (simp only [List.length_drop, List.length_take]; rfl)) ?_; (with_reducible refine (model_Has.calls kj4 _ _ t254 a2 true _ ?side1 ?side2 A25.out).mono ?_); (case side1 => repeat (first | exact (Kd.V_reads' HO256.out).2.2 | (with_reducible refine Kd.C_alloc ?_ _) | (with_reducible refine Kd.C_drewN ?_ _) | (with_reducible refine Kd.C_drew ?_))); (case side2 => exact (Kd.V_reads' HO256.out).2.1); rintro e w' ⟨rfl, ⟨nd, rfl⟩⟩; refine ⟨_, rfl, ?_⟩; obtain ⟨Ao38, co38, eo38⟩ := Kd.V_slice HO259.out; subst eo38) | (go_at_call 14; (with_reducible refine (model_Has.calls kj4 _ _ t257 a2 false _ ?side1 ?side2 A27.out).mono ?_); (case side1 => repeat (first | exact (Kd.V_reads' HO259.out).2.2 | (with_reducible refine Kd.C_alloc ?_ _) | (with_reducible refine Kd.C_drewN ?_ _) | (with_reducible refine Kd.C_drew ?_))); (case side2 => exact (Kd.V_reads' HO259.out).2.1); rintro e w' ⟨rfl, ⟨nd, rfl⟩⟩) | (go_at_call 14; (with_reducible refine (model_Has.calls kj4 _ _ t254 a3 t262 _ ?side1 ?side2 A34.out).mono ?_); (case side1 => repeat (first | exact (Kd.V_reads' HO256.out).2.2 | (with_reducible refine Kd.C_alloc ?_ _) | (with_reducible refine Kd.C_drewN ?_ _) | (with_reducible refine Kd.C_drew ?_))); (case side2 => exact (Kd.V_reads' HO256.out).2.1); rintro e w' ⟨rfl, ⟨nd, rfl⟩⟩) | (go_at_call 14; (with_reducible refine (model_Has.calls kj4 _ _ l1 a3 t263 _ ?side1 ?side2 A35.out).mono ?_); (case side1 => repeat (first | exact (Kd.C_below HR1.out (by repeat (first | (with_reducible first | exact HB.out | apply below_alloc | apply pw_below_drewN | apply below_drew1 | refine below_set ?_ GE249.out) | exact HB.out))) | (with_reducible refine Kd.C_alloc ?_ _) | (with_reducible refine Kd.C_drewN ?_ _) | (with_reducible refine Kd.C_drew ?_))); (case side2 => exact HC1.out); rintro e w' ⟨rfl, ⟨nd, rfl⟩⟩))
                  go_meet
                  case rel => exact ⟨_, (true), (by first | rfl | (simp; done) | (simp [*]; done)), H', ⟨by have := HJ4.out; first | omega | exact Nat.le_refl _⟩, ⟨by (with_reducible repeat (first | apply Kd.V_alloc | apply Kd.V_drewN | apply Kd.V_drew)); exact HO256.out⟩, ⟨by (with_reducible repeat (first | apply Kd.V_alloc | apply Kd.V_drewN | apply Kd.V_drew)); exact HO259.out⟩, ⟨by (with_reducible repeat (first | refine blk_drewN ?_ _ | refine blk_drew ?_ | refine blk_alloc ?_ _)); exact BK249.out⟩, ⟨by repeat (first | (with_reducible first | exact HB.out | apply below_alloc | apply pw_below_drewN | apply below_drew1 | refine below_set ?_ GE249.out) | exact HB.out)⟩⟩
                · rw [if_neg c36] at H
                  have c36b0 : (t262 != t263) = false := by simpa using c36
                  (try (have c36b1 : decide (t262 = t263) = true := by simpa using c36))
                  (try (have c36b2 : (t262 == t263) = true := by simpa using c36))
                  clear c36
                  replace H := Option.bind_eq_some_iff.mp H
                  obtain ⟨t264, A390, H⟩ := H
                  replace H : ((model_Has.f kj4 l1 a3).bind fun t265 => (lodgerlaw09_ModelBack.j1 kj4 a2 t254 t257 (t264 != t265) a0_0 a0_1 l0_2 a0_3 a0_4 a0_5 a0_6)) = some r := H
                  have A39 := Aside0.mk A390
                  clear A390
                  replace H := Option.bind_eq_some_iff.mp H
                  obtain ⟨t265, A400, H⟩ := H
                  replace H : (lodgerlaw09_ModelBack.j1 kj4 a2 t254 t257 (t264 != t265) a0_0 a0_1 l0_2 a0_3 a0_4 a0_5 a0_6) = some r := H
                  have A40 := Aside0.mk A400
                  clear A400
                  have E_ := A35.out.symm.trans A40.out
                  replace E_ := Option.some.inj E_
                  subst E_
                  have H' := Aside0.mk H
                  clear H
                  obtain ⟨Ao41, co41, eo41⟩ := Kd.V_slice HO256.out
                  subst eo41
                  go_wp2_with (first | ((with_reducible refine gate_callee (f := 14) rfl ?_); refine goesL_ (some 34) rfl rfl Try.func14 (by kernel_rfl) rfl #[.slice Ao41 t254.length co41, .int .i64 a2] rfl (by (try simp only [List.map_toArray, List.map_cons, List.map_nil]); first | done | rfl | (simp only [List.length_drop, List.length_take]; rfl)) ?_; (with_reducible refine (model_Has.calls kj4 _ _ t254 a2 true _ ?side1 ?side2 A25.out).mono ?_); (case side1 => repeat (first | exact (Kd.V_reads' HO256.out).2.2 | (with_reducible refine Kd.C_alloc ?_ _) | (with_reducible refine Kd.C_drewN ?_ _) | (with_reducible refine Kd.C_drew ?_))); (case side2 => exact (Kd.V_reads' HO256.out).2.1); rintro e w' ⟨rfl, ⟨nd, rfl⟩⟩; refine ⟨_, rfl, ?_⟩; obtain ⟨Ao42, co42, eo42⟩ := Kd.V_slice HO259.out; subst eo42) | (go_at_call 14; (with_reducible refine (model_Has.calls kj4 _ _ t257 a2 false _ ?side1 ?side2 A27.out).mono ?_); (case side1 => repeat (first | exact (Kd.V_reads' HO259.out).2.2 | (with_reducible refine Kd.C_alloc ?_ _) | (with_reducible refine Kd.C_drewN ?_ _) | (with_reducible refine Kd.C_drew ?_))); (case side2 => exact (Kd.V_reads' HO259.out).2.1); rintro e w' ⟨rfl, ⟨nd, rfl⟩⟩) | (go_at_call 14; (with_reducible refine (model_Has.calls kj4 _ _ t254 a3 t262 _ ?side1 ?side2 A34.out).mono ?_); (case side1 => repeat (first | exact (Kd.V_reads' HO256.out).2.2 | (with_reducible refine Kd.C_alloc ?_ _) | (with_reducible refine Kd.C_drewN ?_ _) | (with_reducible refine Kd.C_drew ?_))); (case side2 => exact (Kd.V_reads' HO256.out).2.1); rintro e w' ⟨rfl, ⟨nd, rfl⟩⟩) | (go_at_call 14; (with_reducible refine (model_Has.calls kj4 _ _ l1 a3 t263 _ ?side1 ?side2 A35.out).mono ?_); (case side1 => repeat (first | exact (Kd.C_below HR1.out (by repeat (first | (with_reducible first | exact HB.out | apply below_alloc | apply pw_below_drewN | apply below_drew1 | refine below_set ?_ GE249.out) | exact HB.out))) | (with_reducible refine Kd.C_alloc ?_ _) | (with_reducible refine Kd.C_drewN ?_ _) | (with_reducible refine Kd.C_drew ?_))); (case side2 => exact HC1.out); rintro e w' ⟨rfl, ⟨nd, rfl⟩⟩) | (go_at_call 14; (with_reducible refine (model_Has.calls kj4 _ _ t257 a3 t264 _ ?side1 ?side2 A39.out).mono ?_); (case side1 => repeat (first | exact (Kd.V_reads' HO259.out).2.2 | (with_reducible refine Kd.C_alloc ?_ _) | (with_reducible refine Kd.C_drewN ?_ _) | (with_reducible refine Kd.C_drew ?_))); (case side2 => exact (Kd.V_reads' HO259.out).2.1); rintro e w' ⟨rfl, ⟨nd, rfl⟩⟩) | (go_at_call 14; (with_reducible refine (model_Has.calls kj4 _ _ l1 a3 t263 _ ?side1 ?side2 A40.out).mono ?_); (case side1 => repeat (first | exact (Kd.C_below HR1.out (by repeat (first | (with_reducible first | exact HB.out | apply below_alloc | apply pw_below_drewN | apply below_drew1 | refine below_set ?_ GE249.out) | exact HB.out))) | (with_reducible refine Kd.C_alloc ?_ _) | (with_reducible refine Kd.C_drewN ?_ _) | (with_reducible refine Kd.C_drew ?_))); (case side2 => exact HC1.out); rintro e w' ⟨rfl, ⟨nd, rfl⟩⟩))
                  go_meet
                  case rel => exact ⟨_, ((t264 != t263)), (by first | rfl | (simp; done) | (simp [*]; done)), H', ⟨by have := HJ4.out; first | omega | exact Nat.le_refl _⟩, ⟨by (with_reducible repeat (first | apply Kd.V_alloc | apply Kd.V_drewN | apply Kd.V_drew)); exact HO256.out⟩, ⟨by (with_reducible repeat (first | apply Kd.V_alloc | apply Kd.V_drewN | apply Kd.V_drew)); exact HO259.out⟩, ⟨by (with_reducible repeat (first | refine blk_drewN ?_ _ | refine blk_drew ?_ | refine blk_alloc ?_ _)); exact BK249.out⟩, ⟨by repeat (first | (with_reducible first | exact HB.out | apply below_alloc | apply pw_below_drewN | apply below_drew1 | refine below_set ?_ GE249.out) | exact HB.out)⟩⟩
          · replace c26 := Bool.eq_false_iff.mpr c26
            subst c26
            have H1 : (lodgerlaw09_ModelBack.j1 kj4 a2 t254 t257 true a0_0 a0_1 l0_2 a0_3 a0_4 a0_5 a0_6) = some r := by rw [if_neg (show ¬ (false = true) by decide)] at H; exact H
            clear H
            have H := H1
            clear H1
            have H' := Aside0.mk H
            clear H
            obtain ⟨Ao43, co43, eo43⟩ := Kd.V_slice HO256.out
            subst eo43
            go_wp2_with (first | ((with_reducible refine gate_callee (f := 14) rfl ?_); refine goesL_ (some 34) rfl rfl Try.func14 (by kernel_rfl) rfl #[.slice Ao43 t254.length co43, .int .i64 a2] rfl (by (try simp only [List.map_toArray, List.map_cons, List.map_nil]); first | done | rfl | (simp only [List.length_drop, List.length_take]; rfl)) ?_; (with_reducible refine (model_Has.calls kj4 _ _ t254 a2 false _ ?side1 ?side2 A25.out).mono ?_); (case side1 => repeat (first | exact (Kd.V_reads' HO256.out).2.2 | (with_reducible refine Kd.C_alloc ?_ _) | (with_reducible refine Kd.C_drewN ?_ _) | (with_reducible refine Kd.C_drew ?_))); (case side2 => exact (Kd.V_reads' HO256.out).2.1); rintro e w' ⟨rfl, ⟨nd, rfl⟩⟩; refine ⟨_, rfl, ?_⟩))
            go_meet
            case rel => exact ⟨_, (true), (by first | rfl | (simp; done) | (simp [*]; done)), H', ⟨by have := HJ4.out; first | omega | exact Nat.le_refl _⟩, ⟨by (with_reducible repeat (first | apply Kd.V_alloc | apply Kd.V_drewN | apply Kd.V_drew)); exact HO256.out⟩, ⟨by (with_reducible repeat (first | apply Kd.V_alloc | apply Kd.V_drewN | apply Kd.V_drew)); exact HO259.out⟩, ⟨by (with_reducible repeat (first | refine blk_drewN ?_ _ | refine blk_drew ?_ | refine blk_alloc ?_ _)); exact BK249.out⟩, ⟨by repeat (first | (with_reducible first | exact HB.out | apply below_alloc | apply pw_below_drewN | apply below_drew1 | refine below_set ?_ GE249.out) | exact HB.out)⟩⟩
        case rest =>
          clear HC22
          try clear c1
          try clear c2
          try clear p2
          try clear c3
          try clear c5
          try clear c8
          try clear c9
          try clear c10
          try clear c14
          try clear c17
          try clear c19
          try clear c26
          try clear c28
          try clear c31
          try clear c31b0
          try clear c31b1
          try clear c36
          try clear c36b0
          try clear c36b1
          try clear c36b2
          try clear hcz13_0
          try clear hcz13_1
          try clear hcz13_2
          try clear hcz13_3
          try clear hcz13_4
          try clear hcz13_5
          try clear hcz13_6
          try clear hfz13_0
          try clear hfz13_1
          try clear hfz13_2
          try clear hfz13_3
          try clear hfz13_4
          try clear hfz13_5
          try clear hfz13_6
          try clear p2
          obtain ⟨kq, x63_21, rfl, HA, HJ21, HO_9, HO_10, BK249, HB⟩ := hcut
          cases kq with
          | zero => exact absurd HA.out (by simp [lodgerlaw09_ModelBack.j1])
          | succ kj21 =>
            have H := HA.out
            clear HA
            simp only [lodgerlaw09_ModelBack.j1] at H
            by_cases c44 : x63_21 = true
            · subst c44
              have H1 : (some false) = some r := by rw [if_pos rfl] at H; exact H
              rw [hr_.out] at H1
              exact absurd (Option.some.inj H1) (by decide)
            · replace c44 := Bool.eq_false_iff.mpr c44
              subst c44
              have H1 : ((model_Without.f kj21 t254 a2).bind fun t266 => ((lodgerref03_Ints.f kj21 t266 t257).bind fun t269 => (if t269 = true then ((model_With.f kj21 t257 a2).bind fun t270 => ((lodgerref03_Ints.f kj21 t270 t254).bind fun t273 => (if t273 = true then (lodgerlaw09_ModelBack.j2 kj21 ((t254.length : Int) != (wrap64 ((t257.length : Int) + 1))) a0_0 a0_1 l0_2 a0_3 a0_4 a0_5 a0_6) else (lodgerlaw09_ModelBack.j2 kj21 true a0_0 a0_1 l0_2 a0_3 a0_4 a0_5 a0_6)))) else (lodgerlaw09_ModelBack.j2 kj21 true a0_0 a0_1 l0_2 a0_3 a0_4 a0_5 a0_6)))) = some r := by rw [if_neg (show ¬ (false = true) by decide)] at H; exact H
              clear H
              have H := H1
              clear H1
              have HC45 := Aside0.mk H
              clear H
              go_upto_region 7 with (fail)
              go_cut [85] (fun v85 wc => ∃ (kq : Nat) (x85_44 : Bool), v85 = .bool x85_44 ∧ Aside0 (lodgerlaw09_ModelBack.j2 kq x85_44 a0_0 a0_1 l0_2 a0_3 a0_4 a0_5 a0_6 = some r) ∧ Aside0 (kq ≤ kj21) ∧ Aside0 (wc.heap[gb249]? = some (.cells #[.int .u32 a0_0, .int .i64 a0_1, (.slice A0_2 l0_2.length c0_2), .int .i64 a0_3, .int .i64 a0_4, .int .i64 a0_5, .int .i64 a0_6] 27 (0, 0))) ∧ Aside0 (Below w.heap.size w wc))
              case first =>
                have H := HC45.out
                clear HC45
                replace H := Option.bind_eq_some_iff.mp H
                obtain ⟨t266, A460, H⟩ := H
                replace H : ((lodgerref03_Ints.f kj21 t266 t257).bind fun t269 => (if t269 = true then ((model_With.f kj21 t257 a2).bind fun t270 => ((lodgerref03_Ints.f kj21 t270 t254).bind fun t273 => (if t273 = true then (lodgerlaw09_ModelBack.j2 kj21 ((t254.length : Int) != (wrap64 ((t257.length : Int) + 1))) a0_0 a0_1 l0_2 a0_3 a0_4 a0_5 a0_6) else (lodgerlaw09_ModelBack.j2 kj21 true a0_0 a0_1 l0_2 a0_3 a0_4 a0_5 a0_6)))) else (lodgerlaw09_ModelBack.j2 kj21 true a0_0 a0_1 l0_2 a0_3 a0_4 a0_5 a0_6))) = some r := H
                have A46 := Aside0.mk A460
                clear A460
                replace H := Option.bind_eq_some_iff.mp H
                obtain ⟨t269, A470, H⟩ := H
                replace H : (if t269 = true then ((model_With.f kj21 t257 a2).bind fun t270 => ((lodgerref03_Ints.f kj21 t270 t254).bind fun t273 => (if t273 = true then (lodgerlaw09_ModelBack.j2 kj21 ((t254.length : Int) != (wrap64 ((t257.length : Int) + 1))) a0_0 a0_1 l0_2 a0_3 a0_4 a0_5 a0_6) else (lodgerlaw09_ModelBack.j2 kj21 true a0_0 a0_1 l0_2 a0_3 a0_4 a0_5 a0_6)))) else (lodgerlaw09_ModelBack.j2 kj21 true a0_0 a0_1 l0_2 a0_3 a0_4 a0_5 a0_6)) = some r := H
                have A47 := Aside0.mk A470
                clear A470
                by_cases c48 : t269 = true
                · subst c48
                  have H1 : ((model_With.f kj21 t257 a2).bind fun t270 => ((lodgerref03_Ints.f kj21 t270 t254).bind fun t273 => (if t273 = true then (lodgerlaw09_ModelBack.j2 kj21 ((t254.length : Int) != (wrap64 ((t257.length : Int) + 1))) a0_0 a0_1 l0_2 a0_3 a0_4 a0_5 a0_6) else (lodgerlaw09_ModelBack.j2 kj21 true a0_0 a0_1 l0_2 a0_3 a0_4 a0_5 a0_6)))) = some r := by rw [if_pos rfl] at H; exact H
                  clear H
                  have H := H1
                  clear H1
                  replace H := Option.bind_eq_some_iff.mp H
                  obtain ⟨t270, A490, H⟩ := H
                  replace H : ((lodgerref03_Ints.f kj21 t270 t254).bind fun t273 => (if t273 = true then (lodgerlaw09_ModelBack.j2 kj21 ((t254.length : Int) != (wrap64 ((t257.length : Int) + 1))) a0_0 a0_1 l0_2 a0_3 a0_4 a0_5 a0_6) else (lodgerlaw09_ModelBack.j2 kj21 true a0_0 a0_1 l0_2 a0_3 a0_4 a0_5 a0_6))) = some r := H
                  have A49 := Aside0.mk A490
                  clear A490
                  replace H := Option.bind_eq_some_iff.mp H
                  obtain ⟨t273, A500, H⟩ := H
                  replace H : (if t273 = true then (lodgerlaw09_ModelBack.j2 kj21 ((t254.length : Int) != (wrap64 ((t257.length : Int) + 1))) a0_0 a0_1 l0_2 a0_3 a0_4 a0_5 a0_6) else (lodgerlaw09_ModelBack.j2 kj21 true a0_0 a0_1 l0_2 a0_3 a0_4 a0_5 a0_6)) = some r := H
                  have A50 := Aside0.mk A500
                  clear A500
                  by_cases c51 : t273 = true
                  · subst c51
                    have H1 : (lodgerlaw09_ModelBack.j2 kj21 ((t254.length : Int) != (wrap64 ((t257.length : Int) + 1))) a0_0 a0_1 l0_2 a0_3 a0_4 a0_5 a0_6) = some r := by rw [if_pos rfl] at H; exact H
                    clear H
                    have H := H1
                    clear H1
                    have H' := Aside0.mk H
                    clear H
                    obtain ⟨Ao52, co52, eo52⟩ := Kd.V_slice HO_9.out
                    subst eo52
                    go_wp2_with (first | ((with_reducible refine gate_callee (f := 19) rfl ?_); refine goesL_ (some 66) rfl rfl Try.func19 (by kernel_rfl) rfl #[.slice Ao52 t254.length co52, .int .i64 a2] rfl (by (try simp only [List.map_toArray, List.map_cons, List.map_nil]); first | done | rfl | (simp only [List.length_drop, List.length_take]; rfl)) ?_; (with_reducible refine (model_Without.calls kj21 (fun k_ => k_ ≠ gb249) _ _ t254 a2 t266 _ ?side1 A46.out).mono ?_); (case side1 => exact HO_9.out); rintro e w53 ⟨v267, rfl, ho0, hb⟩; refine ⟨_, rfl, ?_⟩; have n0_ := Aside0.mk (Kd.V_below (by (with_reducible repeat (first | apply Kd.V_alloc | apply Kd.V_drewN | apply Kd.V_drew)); exact HO_9.out) hb); have n1_ := Aside0.mk (Kd.V_below (by (with_reducible repeat (first | apply Kd.V_alloc | apply Kd.V_drewN | apply Kd.V_drew)); exact HO_10.out) hb); have n2_ := Aside0.mk (Kd.V_lower (Kd.V_mono (ok' := fun k_ => k_ ≠ gb249) ho0 (fun k_ hk_ => Or.elim hk_ (fun hs_ => hs_) (fun hn_ => (Kd.freshB (g := gb249) (o := .cells #[.int .u32 a0_0, .int .i64 a0_1, .slice A0_2 l0_2.length c0_2, .int .i64 a0_3, .int .i64 a0_4, .int .i64 a0_5, .int .i64 a0_6] 27 (0, 0)) (by (with_reducible repeat (first | refine blk_drewN ?_ _ | refine blk_drew ?_ | refine blk_alloc ?_ _)); exact BK249.out) k_ hn_)))) (below_size (by repeat (first | (with_reducible first | exact HB.out | apply below_alloc | apply pw_below_drewN | apply below_drew1 | refine below_set ?_ GE249.out) | exact HB.out)))); have n3_ := Aside0.mk (blk_below (g := gb249) (o := .cells #[.int .u32 a0_0, .int .i64 a0_1, .slice A0_2 l0_2.length c0_2, .int .i64 a0_3, .int .i64 a0_4, .int .i64 a0_5, .int .i64 a0_6] 27 (0, 0)) (by (with_reducible repeat (first | refine blk_drewN ?_ _ | refine blk_drew ?_ | refine blk_alloc ?_ _)); exact BK249.out) hb); have n4_ := Aside0.mk (below_step (by repeat (first | (with_reducible first | exact HB.out | apply below_alloc | apply pw_below_drewN | apply below_drew1 | refine below_set ?_ GE249.out) | exact HB.out)) hb); clear HO_9; clear HO_10; clear BK249; clear HB; have HO_9 := n0_; have HO_10 := n1_; have HO268 := n2_; have BK249 := n3_; have HB := n4_; clear n0_ n1_ n2_ n3_ n4_; (try clear hb); (try clear hb2); (try clear hk); (try clear hi); (try clear ho0); obtain ⟨Ao54, co54, eo54⟩ := Kd.V_slice HO268.out; subst eo54; obtain ⟨Ao55, co55, eo55⟩ := Kd.V_slice HO_10.out; subst eo55) | ((with_reducible refine gate_callee (f := 16) rfl ?_); refine goesL_ (some 68) rfl rfl Try.func16 (by kernel_rfl) rfl #[.slice Ao54 t266.length co54, .slice Ao55 t257.length co55] rfl (by (try simp only [List.map_toArray, List.map_cons, List.map_nil]); first | done | rfl | (simp only [List.length_drop, List.length_take]; rfl)) ?_; (with_reducible refine (lodgerref03_Ints.calls kj21 _ _ t266 _ _ t257 true _ ?side1 ?side2 ?side3 ?side4 A47.out).mono ?_); (case side1 => repeat (first | exact (Kd.V_reads' HO268.out).2.2 | (with_reducible refine Kd.C_alloc ?_ _) | (with_reducible refine Kd.C_drewN ?_ _) | (with_reducible refine Kd.C_drew ?_))); (case side2 => exact (Kd.V_reads' HO268.out).2.1); (case side3 => repeat (first | exact (Kd.V_reads' HO_10.out).2.2 | (with_reducible refine Kd.C_alloc ?_ _) | (with_reducible refine Kd.C_drewN ?_ _) | (with_reducible refine Kd.C_drew ?_))); (case side4 => exact (Kd.V_reads' HO_10.out).2.1); rintro e w' ⟨rfl, ⟨nd, rfl⟩⟩; refine ⟨_, rfl, ?_⟩) | (go_at_call 17; (with_reducible refine (model_With.calls kj21 (fun k_ => k_ ≠ gb249) _ _ t257 a2 t270 _ ?side1 A49.out).mono ?_); (case side1 => exact HO_10.out); rintro e w56 ⟨v271, rfl, ho0, hb⟩; have n0_ := Aside0.mk (Kd.V_below (by (with_reducible repeat (first | apply Kd.V_alloc | apply Kd.V_drewN | apply Kd.V_drew)); exact HO_9.out) hb); have n1_ := Aside0.mk (Kd.V_below (by (with_reducible repeat (first | apply Kd.V_alloc | apply Kd.V_drewN | apply Kd.V_drew)); exact HO_10.out) hb); have n2_ := Aside0.mk (Kd.V_below (by (with_reducible repeat (first | apply Kd.V_alloc | apply Kd.V_drewN | apply Kd.V_drew)); exact HO268.out) hb); have n3_ := Aside0.mk (Kd.V_lower (Kd.V_mono (ok' := fun k_ => k_ ≠ gb249) ho0 (fun k_ hk_ => Or.elim hk_ (fun hs_ => hs_) (fun hn_ => (Kd.freshB (g := gb249) (o := .cells #[.int .u32 a0_0, .int .i64 a0_1, .slice A0_2 l0_2.length c0_2, .int .i64 a0_3, .int .i64 a0_4, .int .i64 a0_5, .int .i64 a0_6] 27 (0, 0)) (by (with_reducible repeat (first | refine blk_drewN ?_ _ | refine blk_drew ?_ | refine blk_alloc ?_ _)); exact BK249.out) k_ hn_)))) (below_size (by repeat (first | (with_reducible first | exact HB.out | apply below_alloc | apply pw_below_drewN | apply below_drew1 | refine below_set ?_ GE249.out) | exact HB.out)))); have n4_ := Aside0.mk (blk_below (g := gb249) (o := .cells #[.int .u32 a0_0, .int .i64 a0_1, .slice A0_2 l0_2.length c0_2, .int .i64 a0_3, .int .i64 a0_4, .int .i64 a0_5, .int .i64 a0_6] 27 (0, 0)) (by (with_reducible repeat (first | refine blk_drewN ?_ _ | refine blk_drew ?_ | refine blk_alloc ?_ _)); exact BK249.out) hb); have n5_ := Aside0.mk (below_step (by repeat (first | (with_reducible first | exact HB.out | apply below_alloc | apply pw_below_drewN | apply below_drew1 | refine below_set ?_ GE249.out) | exact HB.out)) hb); clear HO_9; clear HO_10; clear HO268; clear BK249; clear HB; have HO_9 := n0_; have HO_10 := n1_; have HO268 := n2_; have HO272 := n3_; have BK249 := n4_; have HB := n5_; clear n0_ n1_ n2_ n3_ n4_ n5_; (try clear hb); (try clear hb2); (try clear hk); (try clear hi); (try clear ho0); obtain ⟨Ao57, co57, eo57⟩ := Kd.V_slice HO272.out; subst eo57) | (go_at_call 16; (with_reducible refine (lodgerref03_Ints.calls kj21 _ _ t270 _ _ t254 true _ ?side1 ?side2 ?side3 ?side4 A50.out).mono ?_); (case side1 => repeat (first | exact (Kd.V_reads' HO272.out).2.2 | (with_reducible refine Kd.C_alloc ?_ _) | (with_reducible refine Kd.C_drewN ?_ _) | (with_reducible refine Kd.C_drew ?_))); (case side2 => exact (Kd.V_reads' HO272.out).2.1); (case side3 => repeat (first | exact (Kd.V_reads' HO_9.out).2.2 | (with_reducible refine Kd.C_alloc ?_ _) | (with_reducible refine Kd.C_drewN ?_ _) | (with_reducible refine Kd.C_drew ?_))); (case side4 => exact (Kd.V_reads' HO_9.out).2.1); rintro e w' ⟨rfl, ⟨nd, rfl⟩⟩))
                    go_meet
                    case rel => exact ⟨_, (((t254.length : Int) != (wrap64 ((t257.length : Int) + 1)))), (by first | rfl | (simp; done) | (simp [*]; done)), H', ⟨by have := HJ4.out; have := HJ21.out; first | omega | exact Nat.le_refl _⟩, ⟨by (with_reducible repeat (first | refine blk_drewN ?_ _ | refine blk_drew ?_ | refine blk_alloc ?_ _)); exact BK249.out⟩, ⟨by repeat (first | (with_reducible first | exact HB.out | apply below_alloc | apply pw_below_drewN | apply below_drew1 | refine below_set ?_ GE249.out) | exact HB.out)⟩⟩
                  · replace c51 := Bool.eq_false_iff.mpr c51
                    subst c51
                    have H1 : (lodgerlaw09_ModelBack.j2 kj21 true a0_0 a0_1 l0_2 a0_3 a0_4 a0_5 a0_6) = some r := by rw [if_neg (show ¬ (false = true) by decide)] at H; exact H
                    clear H
                    have H := H1
                    clear H1
                    have H' := Aside0.mk H
                    clear H
                    obtain ⟨Ao58, co58, eo58⟩ := Kd.V_slice HO_9.out
                    subst eo58
                    go_wp2_with (first | ((with_reducible refine gate_callee (f := 19) rfl ?_); refine goesL_ (some 66) rfl rfl Try.func19 (by kernel_rfl) rfl #[.slice Ao58 t254.length co58, .int .i64 a2] rfl (by (try simp only [List.map_toArray, List.map_cons, List.map_nil]); first | done | rfl | (simp only [List.length_drop, List.length_take]; rfl)) ?_; (with_reducible refine (model_Without.calls kj21 (fun k_ => k_ ≠ gb249) _ _ t254 a2 t266 _ ?side1 A46.out).mono ?_); (case side1 => exact HO_9.out); rintro e w59 ⟨v267, rfl, ho0, hb⟩; refine ⟨_, rfl, ?_⟩; have n0_ := Aside0.mk (Kd.V_below (by (with_reducible repeat (first | apply Kd.V_alloc | apply Kd.V_drewN | apply Kd.V_drew)); exact HO_9.out) hb); have n1_ := Aside0.mk (Kd.V_below (by (with_reducible repeat (first | apply Kd.V_alloc | apply Kd.V_drewN | apply Kd.V_drew)); exact HO_10.out) hb); have n2_ := Aside0.mk (Kd.V_lower (Kd.V_mono (ok' := fun k_ => k_ ≠ gb249) ho0 (fun k_ hk_ => Or.elim hk_ (fun hs_ => hs_) (fun hn_ => (Kd.freshB (g := gb249) (o := .cells #[.int .u32 a0_0, .int .i64 a0_1, .slice A0_2 l0_2.length c0_2, .int .i64 a0_3, .int .i64 a0_4, .int .i64 a0_5, .int .i64 a0_6] 27 (0, 0)) (by (with_reducible repeat (first | refine blk_drewN ?_ _ | refine blk_drew ?_ | refine blk_alloc ?_ _)); exact BK249.out) k_ hn_)))) (below_size (by repeat (first | (with_reducible first | exact HB.out | apply below_alloc | apply pw_below_drewN | apply below_drew1 | refine below_set ?_ GE249.out) | exact HB.out)))); have n3_ := Aside0.mk (blk_below (g := gb249) (o := .cells #[.int .u32 a0_0, .int .i64 a0_1, .slice A0_2 l0_2.length c0_2, .int .i64 a0_3, .int .i64 a0_4, .int .i64 a0_5, .int .i64 a0_6] 27 (0, 0)) (by (with_reducible repeat (first | refine blk_drewN ?_ _ | refine blk_drew ?_ | refine blk_alloc ?_ _)); exact BK249.out) hb); have n4_ := Aside0.mk (below_step (by repeat (first | (with_reducible first | exact HB.out | apply below_alloc | apply pw_below_drewN | apply below_drew1 | refine below_set ?_ GE249.out) | exact HB.out)) hb); clear HO_9; clear HO_10; clear BK249; clear HB; have HO_9 := n0_; have HO_10 := n1_; have HO268 := n2_; have BK249 := n3_; have HB := n4_; clear n0_ n1_ n2_ n3_ n4_; (try clear hb); (try clear hb2); (try clear hk); (try clear hi); (try clear ho0); obtain ⟨Ao60, co60, eo60⟩ := Kd.V_slice HO268.out; subst eo60; obtain ⟨Ao61, co61, eo61⟩ := Kd.V_slice HO_10.out; subst eo61) | ((with_reducible refine gate_callee (f := 16) rfl ?_); refine goesL_ (some 68) rfl rfl Try.func16 (by kernel_rfl) rfl #[.slice Ao60 t266.length co60, .slice Ao61 t257.length co61] rfl (by (try simp only [List.map_toArray, List.map_cons, List.map_nil]); first | done | rfl | (simp only [List.length_drop, List.length_take]; rfl)) ?_; (with_reducible refine (lodgerref03_Ints.calls kj21 _ _ t266 _ _ t257 true _ ?side1 ?side2 ?side3 ?side4 A47.out).mono ?_); (case side1 => repeat (first | exact (Kd.V_reads' HO268.out).2.2 | (with_reducible refine Kd.C_alloc ?_ _) | (with_reducible refine Kd.C_drewN ?_ _) | (with_reducible refine Kd.C_drew ?_))); (case side2 => exact (Kd.V_reads' HO268.out).2.1); (case side3 => repeat (first | exact (Kd.V_reads' HO_10.out).2.2 | (with_reducible refine Kd.C_alloc ?_ _) | (with_reducible refine Kd.C_drewN ?_ _) | (with_reducible refine Kd.C_drew ?_))); (case side4 => exact (Kd.V_reads' HO_10.out).2.1); rintro e w' ⟨rfl, ⟨nd, rfl⟩⟩; refine ⟨_, rfl, ?_⟩) | (go_at_call 17; (with_reducible refine (model_With.calls kj21 (fun k_ => k_ ≠ gb249) _ _ t257 a2 t270 _ ?side1 A49.out).mono ?_); (case side1 => exact HO_10.out); rintro e w62 ⟨v271, rfl, ho0, hb⟩; have n0_ := Aside0.mk (Kd.V_below (by (with_reducible repeat (first | apply Kd.V_alloc | apply Kd.V_drewN | apply Kd.V_drew)); exact HO_9.out) hb); have n1_ := Aside0.mk (Kd.V_below (by (with_reducible repeat (first | apply Kd.V_alloc | apply Kd.V_drewN | apply Kd.V_drew)); exact HO_10.out) hb); have n2_ := Aside0.mk (Kd.V_below (by (with_reducible repeat (first | apply Kd.V_alloc | apply Kd.V_drewN | apply Kd.V_drew)); exact HO268.out) hb); have n3_ := Aside0.mk (Kd.V_lower (Kd.V_mono (ok' := fun k_ => k_ ≠ gb249) ho0 (fun k_ hk_ => Or.elim hk_ (fun hs_ => hs_) (fun hn_ => (Kd.freshB (g := gb249) (o := .cells #[.int .u32 a0_0, .int .i64 a0_1, .slice A0_2 l0_2.length c0_2, .int .i64 a0_3, .int .i64 a0_4, .int .i64 a0_5, .int .i64 a0_6] 27 (0, 0)) (by (with_reducible repeat (first | refine blk_drewN ?_ _ | refine blk_drew ?_ | refine blk_alloc ?_ _)); exact BK249.out) k_ hn_)))) (below_size (by repeat (first | (with_reducible first | exact HB.out | apply below_alloc | apply pw_below_drewN | apply below_drew1 | refine below_set ?_ GE249.out) | exact HB.out)))); have n4_ := Aside0.mk (blk_below (g := gb249) (o := .cells #[.int .u32 a0_0, .int .i64 a0_1, .slice A0_2 l0_2.length c0_2, .int .i64 a0_3, .int .i64 a0_4, .int .i64 a0_5, .int .i64 a0_6] 27 (0, 0)) (by (with_reducible repeat (first | refine blk_drewN ?_ _ | refine blk_drew ?_ | refine blk_alloc ?_ _)); exact BK249.out) hb); have n5_ := Aside0.mk (below_step (by repeat (first | (with_reducible first | exact HB.out | apply below_alloc | apply pw_below_drewN | apply below_drew1 | refine below_set ?_ GE249.out) | exact HB.out)) hb); clear HO_9; clear HO_10; clear HO268; clear BK249; clear HB; have HO_9 := n0_; have HO_10 := n1_; have HO268 := n2_; have HO272 := n3_; have BK249 := n4_; have HB := n5_; clear n0_ n1_ n2_ n3_ n4_ n5_; (try clear hb); (try clear hb2); (try clear hk); (try clear hi); (try clear ho0); obtain ⟨Ao63, co63, eo63⟩ := Kd.V_slice HO272.out; subst eo63) | (go_at_call 16; (with_reducible refine (lodgerref03_Ints.calls kj21 _ _ t270 _ _ t254 false _ ?side1 ?side2 ?side3 ?side4 A50.out).mono ?_); (case side1 => repeat (first | exact (Kd.V_reads' HO272.out).2.2 | (with_reducible refine Kd.C_alloc ?_ _) | (with_reducible refine Kd.C_drewN ?_ _) | (with_reducible refine Kd.C_drew ?_))); (case side2 => exact (Kd.V_reads' HO272.out).2.1); (case side3 => repeat (first | exact (Kd.V_reads' HO_9.out).2.2 | (with_reducible refine Kd.C_alloc ?_ _) | (with_reducible refine Kd.C_drewN ?_ _) | (with_reducible refine Kd.C_drew ?_))); (case side4 => exact (Kd.V_reads' HO_9.out).2.1); rintro e w' ⟨rfl, ⟨nd, rfl⟩⟩))
                    go_meet
                    case rel => exact ⟨_, (true), (by first | rfl | (simp; done) | (simp [*]; done)), H', ⟨by have := HJ4.out; have := HJ21.out; first | omega | exact Nat.le_refl _⟩, ⟨by (with_reducible repeat (first | refine blk_drewN ?_ _ | refine blk_drew ?_ | refine blk_alloc ?_ _)); exact BK249.out⟩, ⟨by repeat (first | (with_reducible first | exact HB.out | apply below_alloc | apply pw_below_drewN | apply below_drew1 | refine below_set ?_ GE249.out) | exact HB.out)⟩⟩
                · replace c48 := Bool.eq_false_iff.mpr c48
                  subst c48
                  have H1 : (lodgerlaw09_ModelBack.j2 kj21 true a0_0 a0_1 l0_2 a0_3 a0_4 a0_5 a0_6) = some r := by rw [if_neg (show ¬ (false = true) by decide)] at H; exact H
                  clear H
                  have H := H1
                  clear H1
                  have H' := Aside0.mk H
                  clear H
                  obtain ⟨Ao64, co64, eo64⟩ := Kd.V_slice HO_9.out
                  subst eo64
                  go_wp2_with (first | ((with_reducible refine gate_callee (f := 19) rfl ?_); refine goesL_ (some 66) rfl rfl Try.func19 (by kernel_rfl) rfl #[.slice Ao64 t254.length co64, .int .i64 a2] rfl (by (try simp only [List.map_toArray, List.map_cons, List.map_nil]); first | done | rfl | (simp only [List.length_drop, List.length_take]; rfl)) ?_; (with_reducible refine (model_Without.calls kj21 (fun k_ => k_ ≠ gb249) _ _ t254 a2 t266 _ ?side1 A46.out).mono ?_); (case side1 => exact HO_9.out); rintro e w65 ⟨v267, rfl, ho0, hb⟩; refine ⟨_, rfl, ?_⟩; have n0_ := Aside0.mk (Kd.V_below (by (with_reducible repeat (first | apply Kd.V_alloc | apply Kd.V_drewN | apply Kd.V_drew)); exact HO_9.out) hb); have n1_ := Aside0.mk (Kd.V_below (by (with_reducible repeat (first | apply Kd.V_alloc | apply Kd.V_drewN | apply Kd.V_drew)); exact HO_10.out) hb); have n2_ := Aside0.mk (Kd.V_lower (Kd.V_mono (ok' := fun k_ => k_ ≠ gb249) ho0 (fun k_ hk_ => Or.elim hk_ (fun hs_ => hs_) (fun hn_ => (Kd.freshB (g := gb249) (o := .cells #[.int .u32 a0_0, .int .i64 a0_1, .slice A0_2 l0_2.length c0_2, .int .i64 a0_3, .int .i64 a0_4, .int .i64 a0_5, .int .i64 a0_6] 27 (0, 0)) (by (with_reducible repeat (first | refine blk_drewN ?_ _ | refine blk_drew ?_ | refine blk_alloc ?_ _)); exact BK249.out) k_ hn_)))) (below_size (by repeat (first | (with_reducible first | exact HB.out | apply below_alloc | apply pw_below_drewN | apply below_drew1 | refine below_set ?_ GE249.out) | exact HB.out)))); have n3_ := Aside0.mk (blk_below (g := gb249) (o := .cells #[.int .u32 a0_0, .int .i64 a0_1, .slice A0_2 l0_2.length c0_2, .int .i64 a0_3, .int .i64 a0_4, .int .i64 a0_5, .int .i64 a0_6] 27 (0, 0)) (by (with_reducible repeat (first | refine blk_drewN ?_ _ | refine blk_drew ?_ | refine blk_alloc ?_ _)); exact BK249.out) hb); have n4_ := Aside0.mk (below_step (by repeat (first | (with_reducible first | exact HB.out | apply below_alloc | apply pw_below_drewN | apply below_drew1 | refine below_set ?_ GE249.out) | exact HB.out)) hb); clear HO_9; clear HO_10; clear BK249; clear HB; have HO_9 := n0_; have HO_10 := n1_; have HO268 := n2_; have BK249 := n3_; have HB := n4_; clear n0_ n1_ n2_ n3_ n4_; (try clear hb); (try clear hb2); (try clear hk); (try clear hi); (try clear ho0); obtain ⟨Ao66, co66, eo66⟩ := Kd.V_slice HO268.out; subst eo66; obtain ⟨Ao67, co67, eo67⟩ := Kd.V_slice HO_10.out; subst eo67) | ((with_reducible refine gate_callee (f := 16) rfl ?_); refine goesL_ (some 68) rfl rfl Try.func16 (by kernel_rfl) rfl #[.slice Ao66 t266.length co66, .slice Ao67 t257.length co67] rfl (by (try simp only [List.map_toArray, List.map_cons, List.map_nil]); first | done | rfl | (simp only [List.length_drop, List.length_take]; rfl)) ?_; (with_reducible refine (lodgerref03_Ints.calls kj21 _ _ t266 _ _ t257 false _ ?side1 ?side2 ?side3 ?side4 A47.out).mono ?_); (case side1 => repeat (first | exact (Kd.V_reads' HO268.out).2.2 | (with_reducible refine Kd.C_alloc ?_ _) | (with_reducible refine Kd.C_drewN ?_ _) | (with_reducible refine Kd.C_drew ?_))); (case side2 => exact (Kd.V_reads' HO268.out).2.1); (case side3 => repeat (first | exact (Kd.V_reads' HO_10.out).2.2 | (with_reducible refine Kd.C_alloc ?_ _) | (with_reducible refine Kd.C_drewN ?_ _) | (with_reducible refine Kd.C_drew ?_))); (case side4 => exact (Kd.V_reads' HO_10.out).2.1); rintro e w' ⟨rfl, ⟨nd, rfl⟩⟩; refine ⟨_, rfl, ?_⟩))
                  go_meet
                  case rel => exact ⟨_, (true), (by first | rfl | (simp; done) | (simp [*]; done)), H', ⟨by have := HJ4.out; have := HJ21.out; first | omega | exact Nat.le_refl _⟩, ⟨by (with_reducible repeat (first | refine blk_drewN ?_ _ | refine blk_drew ?_ | refine blk_alloc ?_ _)); exact BK249.out⟩, ⟨by repeat (first | (with_reducible first | exact HB.out | apply below_alloc | apply pw_below_drewN | apply below_drew1 | refine below_set ?_ GE249.out) | exact HB.out)⟩⟩
              case rest =>
                clear HC45
                try clear c1
                try clear c2
                try clear p2
                try clear c3
                try clear c4
                try clear c5
                try clear p6
                try clear c8
                try clear c9
                try clear c10
                try clear c14
                try clear c16
                try clear c17
                try clear c19
                try clear c26
                try clear c28
                try clear c31
                try clear c31b0
                try clear c31b1
                try clear c36
                try clear c36b0
                try clear c36b1
                try clear c36b2
                try clear c44
                try clear c48
                try clear c51
                try clear p64
                try clear hcz13_0
                try clear hcz13_1
                try clear hcz13_2
                try clear hcz13_3
                try clear hcz13_4
                try clear hcz13_5
                try clear hcz13_6
                try clear hfz13_0
                try clear hfz13_1
                try clear hfz13_2
                try clear hfz13_3
                try clear hfz13_4
                try clear hfz13_5
                try clear hfz13_6
                try clear p2
                obtain ⟨kq, x85_44, rfl, HA, HJ44, BK249, HB⟩ := hcut
                cases kq with
                | zero => exact absurd HA.out (by simp [lodgerlaw09_ModelBack.j2])
                | succ kj44 =>
                  have H := HA.out
                  clear HA
                  simp only [lodgerlaw09_ModelBack.j2] at H
                  by_cases c68 : x85_44 = true
                  · subst c68
                    have H1 : (some false) = some r := by rw [if_pos rfl] at H; exact H
                    rw [hr_.out] at H1
                    exact absurd (Option.some.inj H1) (by decide)
                  · replace c68 := Bool.eq_false_iff.mpr c68
                    subst c68
                    have H1 : ((lodgerref05_Many.f kj44 a0_0 a0_1).bind fun t274 => (if t274 > 256 then (some true) else ((lodgerref05_Many.f kj44 a0_0 a0_1).bind fun t275 => (lodgerlaw09_ModelBack.l0 kj44 ([] : List Int) (wrap64 (t275 - 1)) a0_0 a0_1 l0_2 a0_3 a0_4 a0_5 a0_6)))) = some r := by rw [if_neg (show ¬ (false = true) by decide)] at H; exact H
                    clear H
                    have H := H1
                    clear H1
                    replace H := Option.bind_eq_some_iff.mp H
                    obtain ⟨t274, A690, H⟩ := H
                    replace H : (if t274 > 256 then (some true) else ((lodgerref05_Many.f kj44 a0_0 a0_1).bind fun t275 => (lodgerlaw09_ModelBack.l0 kj44 ([] : List Int) (wrap64 (t275 - 1)) a0_0 a0_1 l0_2 a0_3 a0_4 a0_5 a0_6))) = some r := H
                    have A69 := Aside0.mk A690
                    clear A690
                    by_cases c70 : t274 > 256
                    · rw [if_pos c70] at H
                      have c70b0 : decide (256 < t274) = true := decide_eq_true c70
                      clear c70
                      first | (exfalso; rw [hr_.out] at H; exact absurd (Option.some.inj H) (by decide)) | (try clear hr_)
                      all_goals
                        obtain rfl := Option.some.inj H
                        have hcz71_0 : wc.cell? ⟨gb249, 0, none⟩ = some (.int .u32 a0_0) := (blk_cell BK249.out 0).trans rfl
                        have hcz71_1 : wc.cell? ⟨gb249, 1, none⟩ = some (.int .i64 a0_1) := (blk_cell BK249.out 1).trans rfl
                        have hcz71_2 : wc.cell? ⟨gb249, 2, none⟩ = some (.slice A0_2 l0_2.length c0_2) := (blk_cell BK249.out 2).trans rfl
                        have hcz71_3 : wc.cell? ⟨gb249, 3, none⟩ = some (.int .i64 a0_3) := (blk_cell BK249.out 3).trans rfl
                        have hcz71_4 : wc.cell? ⟨gb249, 4, none⟩ = some (.int .i64 a0_4) := (blk_cell BK249.out 4).trans rfl
                        have hcz71_5 : wc.cell? ⟨gb249, 5, none⟩ = some (.int .i64 a0_5) := (blk_cell BK249.out 5).trans rfl
                        have hcz71_6 : wc.cell? ⟨gb249, 6, none⟩ = some (.int .i64 a0_6) := (blk_cell BK249.out 6).trans rfl
                        have hfz71_0 := blk_frozen BK249.out 0
                        have hfz71_1 := blk_frozen BK249.out 1
                        have hfz71_2 := blk_frozen BK249.out 2
                        have hfz71_3 := blk_frozen BK249.out 3
                        have hfz71_4 := blk_frozen BK249.out 4
                        have hfz71_5 := blk_frozen BK249.out 5
                        have hfz71_6 := blk_frozen BK249.out 6
                        go_wp2_with (first | ((with_reducible refine gate_callee (f := 24) rfl ?_); refine goesL_ (some 88) rfl rfl Try.func24 (by kernel_rfl) rfl #[.agg #[.int .u32 a0_0, .int .i64 a0_1]] rfl (by (try simp only [List.map_toArray, List.map_cons, List.map_nil]); first | done | rfl | (simp only [List.length_drop, List.length_take]; rfl)) ?_; (with_reducible refine (lodgerref05_Many.calls kj44 a0_0 a0_1 t274 _ A69.out).mono ?_); rintro e w72 ⟨rfl, hb⟩; refine ⟨_, rfl, ?_⟩; have n0_ := Aside0.mk (blk_below (g := gb249) (o := .cells #[.int .u32 a0_0, .int .i64 a0_1, .slice A0_2 l0_2.length c0_2, .int .i64 a0_3, .int .i64 a0_4, .int .i64 a0_5, .int .i64 a0_6] 27 (0, 0)) (by (with_reducible repeat (first | refine blk_drewN ?_ _ | refine blk_drew ?_ | refine blk_alloc ?_ _)); exact BK249.out) hb); have n1_ := Aside0.mk (below_step (by repeat (first | (with_reducible first | exact HB.out | apply below_alloc | apply pw_below_drewN | apply below_drew1 | refine below_set ?_ GE249.out) | exact HB.out)) hb); clear BK249; clear HB; have BK249 := n0_; have HB := n1_; clear n0_ n1_; (try clear hb); (try clear hb2); (try clear hk); (try clear hi)))
                        go_ret
                        exact ⟨by first | rfl | (simp [errW_none, errW_some] <;> rfl) | (simp [*, errW_none, errW_some] <;> rfl), by repeat (first | (with_reducible first | exact HB.out | apply below_alloc | apply pw_below_drewN | apply below_drew1 | refine below_set ?_ GE249.out) | exact HB.out)⟩
                    · rw [if_neg c70] at H
                      have c70b0 : decide (256 < t274) = false := decide_eq_false c70
                      clear c70
                      replace H := Option.bind_eq_some_iff.mp H
                      obtain ⟨t275, A730, H⟩ := H
                      replace H : (lodgerlaw09_ModelBack.l0 kj44 ([] : List Int) (wrap64 (t275 - 1)) a0_0 a0_1 l0_2 a0_3 a0_4 a0_5 a0_6) = some r := H
                      have A73 := Aside0.mk A730
                      clear A730
                      have E_ := A69.out.symm.trans A73.out
                      replace E_ := Option.some.inj E_
                      subst E_
                      have H' := Aside0.mk H
                      clear H
                      have hcz74_0 : wc.cell? ⟨gb249, 0, none⟩ = some (.int .u32 a0_0) := (blk_cell BK249.out 0).trans rfl
                      have hcz74_1 : wc.cell? ⟨gb249, 1, none⟩ = some (.int .i64 a0_1) := (blk_cell BK249.out 1).trans rfl
                      have hcz74_2 : wc.cell? ⟨gb249, 2, none⟩ = some (.slice A0_2 l0_2.length c0_2) := (blk_cell BK249.out 2).trans rfl
                      have hcz74_3 : wc.cell? ⟨gb249, 3, none⟩ = some (.int .i64 a0_3) := (blk_cell BK249.out 3).trans rfl
                      have hcz74_4 : wc.cell? ⟨gb249, 4, none⟩ = some (.int .i64 a0_4) := (blk_cell BK249.out 4).trans rfl
                      have hcz74_5 : wc.cell? ⟨gb249, 5, none⟩ = some (.int .i64 a0_5) := (blk_cell BK249.out 5).trans rfl
                      have hcz74_6 : wc.cell? ⟨gb249, 6, none⟩ = some (.int .i64 a0_6) := (blk_cell BK249.out 6).trans rfl
                      have hfz74_0 := blk_frozen BK249.out 0
                      have hfz74_1 := blk_frozen BK249.out 1
                      have hfz74_2 := blk_frozen BK249.out 2
                      have hfz74_3 := blk_frozen BK249.out 3
                      have hfz74_4 := blk_frozen BK249.out 4
                      have hfz74_5 := blk_frozen BK249.out 5
                      have hfz74_6 := blk_frozen BK249.out 6
                      go_wp2_with (first | ((with_reducible refine gate_callee (f := 24) rfl ?_); refine goesL_ (some 88) rfl rfl Try.func24 (by kernel_rfl) rfl #[.agg #[.int .u32 a0_0, .int .i64 a0_1]] rfl (by (try simp only [List.map_toArray, List.map_cons, List.map_nil]); first | done | rfl | (simp only [List.length_drop, List.length_take]; rfl)) ?_; (with_reducible refine (lodgerref05_Many.calls kj44 a0_0 a0_1 t274 _ A69.out).mono ?_); rintro e w75 ⟨rfl, hb⟩; refine ⟨_, rfl, ?_⟩; have n0_ := Aside0.mk (blk_below (g := gb249) (o := .cells #[.int .u32 a0_0, .int .i64 a0_1, .slice A0_2 l0_2.length c0_2, .int .i64 a0_3, .int .i64 a0_4, .int .i64 a0_5, .int .i64 a0_6] 27 (0, 0)) (by (with_reducible repeat (first | refine blk_drewN ?_ _ | refine blk_drew ?_ | refine blk_alloc ?_ _)); exact BK249.out) hb); have n1_ := Aside0.mk (below_step (by repeat (first | (with_reducible first | exact HB.out | apply below_alloc | apply pw_below_drewN | apply below_drew1 | refine below_set ?_ GE249.out) | exact HB.out)) hb); clear BK249; clear HB; have BK249 := n0_; have HB := n1_; clear n0_ n1_; (try clear hb); (try clear hb2); (try clear hk); (try clear hi); have hcz76_0 : w75.cell? ⟨gb249, 0, none⟩ = some (.int .u32 a0_0) := (blk_cell BK249.out 0).trans rfl; have hcz76_1 : w75.cell? ⟨gb249, 1, none⟩ = some (.int .i64 a0_1) := (blk_cell BK249.out 1).trans rfl; have hcz76_2 : w75.cell? ⟨gb249, 2, none⟩ = some (.slice A0_2 l0_2.length c0_2) := (blk_cell BK249.out 2).trans rfl; have hcz76_3 : w75.cell? ⟨gb249, 3, none⟩ = some (.int .i64 a0_3) := (blk_cell BK249.out 3).trans rfl; have hcz76_4 : w75.cell? ⟨gb249, 4, none⟩ = some (.int .i64 a0_4) := (blk_cell BK249.out 4).trans rfl; have hcz76_5 : w75.cell? ⟨gb249, 5, none⟩ = some (.int .i64 a0_5) := (blk_cell BK249.out 5).trans rfl; have hcz76_6 : w75.cell? ⟨gb249, 6, none⟩ = some (.int .i64 a0_6) := (blk_cell BK249.out 6).trans rfl; have hfz76_0 := blk_frozen BK249.out 0; have hfz76_1 := blk_frozen BK249.out 1; have hfz76_2 := blk_frozen BK249.out 2; have hfz76_3 := blk_frozen BK249.out 3; have hfz76_4 := blk_frozen BK249.out 4; have hfz76_5 := blk_frozen BK249.out 5; have hfz76_6 := blk_frozen BK249.out 6) | ((with_reducible refine gate_callee (f := 24) rfl ?_); refine goesL_ (some 92) rfl rfl Try.func24 (by kernel_rfl) rfl #[.agg #[.int .u32 a0_0, .int .i64 a0_1]] rfl (by (try simp only [List.map_toArray, List.map_cons, List.map_nil]); first | done | rfl | (simp only [List.length_drop, List.length_take]; rfl)) ?_; (with_reducible refine (lodgerref05_Many.calls kj44 a0_0 a0_1 t274 _ A73.out).mono ?_); rintro e w77 ⟨rfl, hb⟩; refine ⟨_, rfl, ?_⟩; have n0_ := Aside0.mk (blk_below (g := gb249) (o := .cells #[.int .u32 a0_0, .int .i64 a0_1, .slice A0_2 l0_2.length c0_2, .int .i64 a0_3, .int .i64 a0_4, .int .i64 a0_5, .int .i64 a0_6] 27 (0, 0)) (by (with_reducible repeat (first | refine blk_drewN ?_ _ | refine blk_drew ?_ | refine blk_alloc ?_ _)); exact BK249.out) hb); have n1_ := Aside0.mk (below_step (by repeat (first | (with_reducible first | exact HB.out | apply below_alloc | apply pw_below_drewN | apply below_drew1 | refine below_set ?_ GE249.out) | exact HB.out)) hb); clear BK249; clear HB; have BK249 := n0_; have HB := n1_; clear n0_ n1_; (try clear hb); (try clear hb2); (try clear hk); (try clear hi)))
                      go_loopg [11, 12] kj44 (fun kq v11 v12 w' => ∃ (x11_4 : List Int) (x12_4 : Int), v12 = .int .i64 x12_4 ∧ Aside0 (lodgerlaw09_ModelBack.l0 kq x11_4 x12_4 a0_0 a0_1 l0_2 a0_3 a0_4 a0_5 a0_6 = some r) ∧ Aside0 (kq ≤ kj44) ∧ Aside0 (Kd.V (Kd.int .i64) 3 w' w.heap.size (fun k_ => k_ ≠ gb249) v11 x11_4) ∧ Aside0 (w'.heap[gb249]? = some (.cells #[.int .u32 a0_0, .int .i64 a0_1, (.slice A0_2 l0_2.length c0_2), .int .i64 a0_3, .int .i64 a0_4, .int .i64 a0_5, .int .i64 a0_6] 27 (0, 0))) ∧ Aside0 (Below w.heap.size w w'))
                      case atStart => exact ⟨(([] : List Int)), (wrap64 (t274 - 1)), (by first | rfl | (simp; done) | (simp [*]; done)), H', ⟨Nat.le_refl _⟩, ⟨Kd.R_V (base := 0) (by first | exact Kd.R_nil _ _ _ _ _ | exact Kd.N_nil _ _ _ _ _ | exact Kd.V_nil _ _ _ _ _ | exact Kd.Q_nil _ _ _ _ _ | exact Kd.S_nil _ _ _ _ _)⟩, ⟨by (with_reducible repeat (first | refine blk_drewN ?_ _ | refine blk_drew ?_ | refine blk_alloc ?_ _)); exact BK249.out⟩, ⟨by repeat (first | (with_reducible first | exact HB.out | apply below_alloc | apply pw_below_drewN | apply below_drew1 | refine below_set ?_ GE249.out) | exact HB.out)⟩⟩
                      case round =>
                        clear H'
                        try clear c1
                        try clear c2
                        try clear p2
                        try clear c3
                        try clear c4
                        try clear c5
                        try clear c6
                        try clear p6
                        try clear c7
                        try clear c8
                        try clear c9
                        try clear c10
                        try clear c14
                        try clear c16
                        try clear c17
                        try clear c19
                        try clear c24
                        try clear c26
                        try clear c28
                        try clear c31
                        try clear c31b0
                        try clear c31b1
                        try clear c36
                        try clear c36b0
                        try clear c36b1
                        try clear c36b2
                        try clear c44
                        try clear c48
                        try clear c51
                        try clear p64
                        try clear c68
                        try clear c70
                        try clear c70b0
                        try clear hcz13_0
                        try clear hcz13_1
                        try clear hcz13_2
                        try clear hcz13_3
                        try clear hcz13_4
                        try clear hcz13_5
                        try clear hcz13_6
                        try clear hcz71_0
                        try clear hcz71_1
                        try clear hcz71_2
                        try clear hcz71_3
                        try clear hcz71_4
                        try clear hcz71_5
                        try clear hcz71_6
                        try clear hcz74_0
                        try clear hcz74_1
                        try clear hcz74_2
                        try clear hcz74_3
                        try clear hcz74_4
                        try clear hcz74_5
                        try clear hcz74_6
                        try clear hcz76_0
                        try clear hcz76_1
                        try clear hcz76_2
                        try clear hcz76_3
                        try clear hcz76_4
                        try clear hcz76_5
                        try clear hcz76_6
                        try clear hfz13_0
                        try clear hfz13_1
                        try clear hfz13_2
                        try clear hfz13_3
                        try clear hfz13_4
                        try clear hfz13_5
                        try clear hfz13_6
                        try clear hfz71_0
                        try clear hfz71_1
                        try clear hfz71_2
                        try clear hfz71_3
                        try clear hfz71_4
                        try clear hfz71_5
                        try clear hfz71_6
                        try clear hfz74_0
                        try clear hfz74_1
                        try clear hfz74_2
                        try clear hfz74_3
                        try clear hfz74_4
                        try clear hfz74_5
                        try clear hfz74_6
                        try clear hfz76_0
                        try clear hfz76_1
                        try clear hfz76_2
                        try clear hfz76_3
                        try clear hfz76_4
                        try clear hfz76_5
                        try clear hfz76_6
                        try clear p2
                        try clear p6
                        try clear p64
                        obtain ⟨x11_4, x12_4, rfl, HA, HK4, HO_11, BK249, HB⟩ := hrel
                        cases gk with
                        | zero => exact absurd HA.out (by simp [lodgerlaw09_ModelBack.l0])
                        | succ k4 =>
                          have H := HA.out
                          clear HA
                          simp only [lodgerlaw09_ModelBack.l0] at H
                          by_cases c78 : x12_4 ≥ 0
                          · rw [if_pos c78] at H
                            have c78b0 : decide (0 ≤ x12_4) = true := decide_eq_true c78
                            clear c78
                            replace H := Option.bind_eq_some_iff.mp H
                            obtain ⟨t278, A790, H⟩ := H
                            replace H : (if t278 = true then (lodgerlaw09_ModelBack.l0 k4 x11_4 (wrap64 (x12_4 - 1)) a0_0 a0_1 l0_2 a0_3 a0_4 a0_5 a0_6) else ((model_Full.f a0_0 a0_1 l0_2 a0_3 a0_4 a0_5 a0_6 x11_4).bind fun t279 => (if t279 = true then (some false) else ((model_With.f k4 x11_4 x12_4).bind fun t280 => (lodgerlaw09_ModelBack.l0 k4 t280 (wrap64 (x12_4 - 1)) a0_0 a0_1 l0_2 a0_3 a0_4 a0_5 a0_6))))) = some r := H
                            have A79 := Aside0.mk A790
                            clear A790
                            by_cases c80 : t278 = true
                            · subst c80
                              have H1 : (lodgerlaw09_ModelBack.l0 k4 x11_4 (wrap64 (x12_4 - 1)) a0_0 a0_1 l0_2 a0_3 a0_4 a0_5 a0_6) = some r := by rw [if_pos rfl] at H; exact H
                              clear H
                              have H := H1
                              clear H1
                              have H' := Aside0.mk H
                              clear H
                              have hcz81_0 : wr.cell? ⟨gb249, 0, none⟩ = some (.int .u32 a0_0) := (blk_cell BK249.out 0).trans rfl
                              have hcz81_1 : wr.cell? ⟨gb249, 1, none⟩ = some (.int .i64 a0_1) := (blk_cell BK249.out 1).trans rfl
                              have hcz81_2 : wr.cell? ⟨gb249, 2, none⟩ = some (.slice A0_2 l0_2.length c0_2) := (blk_cell BK249.out 2).trans rfl
                              have hcz81_3 : wr.cell? ⟨gb249, 3, none⟩ = some (.int .i64 a0_3) := (blk_cell BK249.out 3).trans rfl
                              have hcz81_4 : wr.cell? ⟨gb249, 4, none⟩ = some (.int .i64 a0_4) := (blk_cell BK249.out 4).trans rfl
                              have hcz81_5 : wr.cell? ⟨gb249, 5, none⟩ = some (.int .i64 a0_5) := (blk_cell BK249.out 5).trans rfl
                              have hcz81_6 : wr.cell? ⟨gb249, 6, none⟩ = some (.int .i64 a0_6) := (blk_cell BK249.out 6).trans rfl
                              have hfz81_0 := blk_frozen BK249.out 0
                              have hfz81_1 := blk_frozen BK249.out 1
                              have hfz81_2 := blk_frozen BK249.out 2
                              have hfz81_3 := blk_frozen BK249.out 3
                              have hfz81_4 := blk_frozen BK249.out 4
                              have hfz81_5 := blk_frozen BK249.out 5
                              have hfz81_6 := blk_frozen BK249.out 6
                              go_wp2_with (first | ((with_reducible refine gate_callee (f := 30) rfl ?_); refine goesL_ (some 100) rfl rfl Try.func30 (by kernel_rfl) rfl #[.agg #[.int .u32 a0_0, .int .i64 a0_1, .slice A0_2 l0_2.length c0_2, .int .i64 a0_3, .int .i64 a0_4, .int .i64 a0_5, .int .i64 a0_6], .int .i64 x12_4] rfl (by (try simp only [List.map_toArray, List.map_cons, List.map_nil]); first | done | rfl | (simp only [List.length_drop, List.length_take]; rfl)) ?_; (with_reducible refine (lodgerref05_Held.calls k4 a0_0 a0_1 _ _ l0_2 a0_3 a0_4 a0_5 a0_6 x12_4 true _ ?side1 ?side2 A79.out).mono ?_); (case side1 => repeat (first | exact (Kd.C_below HR0_2.out HB.out) | (with_reducible refine Kd.C_alloc ?_ _) | (with_reducible refine Kd.C_drewN ?_ _) | (with_reducible refine Kd.C_drew ?_))); (case side2 => exact HC0_2.out); rintro e w82 ⟨rfl, hb⟩; refine ⟨_, rfl, ?_⟩; have n0_ := Aside0.mk (Kd.V_below (by (with_reducible repeat (first | apply Kd.V_alloc | apply Kd.V_drewN | apply Kd.V_drew)); exact HO_11.out) hb); have n1_ := Aside0.mk (blk_below (g := gb249) (o := .cells #[.int .u32 a0_0, .int .i64 a0_1, .slice A0_2 l0_2.length c0_2, .int .i64 a0_3, .int .i64 a0_4, .int .i64 a0_5, .int .i64 a0_6] 27 (0, 0)) (by (with_reducible repeat (first | refine blk_drewN ?_ _ | refine blk_drew ?_ | refine blk_alloc ?_ _)); exact BK249.out) hb); have n2_ := Aside0.mk (below_step (by repeat (first | (with_reducible first | exact HB.out | apply below_alloc | apply pw_below_drewN | apply below_drew1 | refine below_set ?_ GE249.out) | exact HB.out)) hb); clear HO_11; clear BK249; clear HB; have HO_11 := n0_; have BK249 := n1_; have HB := n2_; clear n0_ n1_ n2_; (try clear hb); (try clear hb2); (try clear hk); (try clear hi)))
                              go_roundg k4
                              case measure => have := HJ4.out; have := HJ21.out; have := HJ44.out; have := HK4.out; omega
                              case rel => exact ⟨(x11_4), (wrap64 (x12_4 - 1)), (by first | rfl | (simp; done) | (simp [*]; done)), H', ⟨by have := HJ4.out; have := HJ21.out; have := HJ44.out; have := HK4.out; omega⟩, ⟨by (with_reducible repeat (first | apply Kd.V_alloc | apply Kd.V_drewN | apply Kd.V_drew)); exact HO_11.out⟩, ⟨by (with_reducible repeat (first | refine blk_drewN ?_ _ | refine blk_drew ?_ | refine blk_alloc ?_ _)); exact BK249.out⟩, ⟨by repeat (first | (with_reducible first | exact HB.out | apply below_alloc | apply pw_below_drewN | apply below_drew1 | refine below_set ?_ GE249.out) | exact HB.out)⟩⟩
                            · replace c80 := Bool.eq_false_iff.mpr c80
                              subst c80
                              have H1 : ((model_Full.f a0_0 a0_1 l0_2 a0_3 a0_4 a0_5 a0_6 x11_4).bind fun t279 => (if t279 = true then (some false) else ((model_With.f k4 x11_4 x12_4).bind fun t280 => (lodgerlaw09_ModelBack.l0 k4 t280 (wrap64 (x12_4 - 1)) a0_0 a0_1 l0_2 a0_3 a0_4 a0_5 a0_6)))) = some r := by rw [if_neg (show ¬ (false = true) by decide)] at H; exact H
                              clear H
                              have H := H1
                              clear H1
                              replace H := Option.bind_eq_some_iff.mp H
                              obtain ⟨t279, A830, H⟩ := H
                              replace H : (if t279 = true then (some false) else ((model_With.f k4 x11_4 x12_4).bind fun t280 => (lodgerlaw09_ModelBack.l0 k4 t280 (wrap64 (x12_4 - 1)) a0_0 a0_1 l0_2 a0_3 a0_4 a0_5 a0_6))) = some r := H
                              have A83 := Aside0.mk A830
                              clear A830
                              by_cases c84 : t279 = true
                              · subst c84
                                have H1 : (some false) = some r := by rw [if_pos rfl] at H; exact H
                                rw [hr_.out] at H1
                                exact absurd (Option.some.inj H1) (by decide)
                              · replace c84 := Bool.eq_false_iff.mpr c84
                                subst c84
                                have H1 : ((model_With.f k4 x11_4 x12_4).bind fun t280 => (lodgerlaw09_ModelBack.l0 k4 t280 (wrap64 (x12_4 - 1)) a0_0 a0_1 l0_2 a0_3 a0_4 a0_5 a0_6)) = some r := by rw [if_neg (show ¬ (false = true) by decide)] at H; exact H
                                clear H
                                have H := H1
                                clear H1
                                replace H := Option.bind_eq_some_iff.mp H
                                obtain ⟨t280, A900, H⟩ := H
                                replace H : (lodgerlaw09_ModelBack.l0 k4 t280 (wrap64 (x12_4 - 1)) a0_0 a0_1 l0_2 a0_3 a0_4 a0_5 a0_6) = some r := H
                                have A90 := Aside0.mk A900
                                clear A900
                                have H' := Aside0.mk H
                                clear H
                                have hcz91_0 : wr.cell? ⟨gb249, 0, none⟩ = some (.int .u32 a0_0) := (blk_cell BK249.out 0).trans rfl
                                have hcz91_1 : wr.cell? ⟨gb249, 1, none⟩ = some (.int .i64 a0_1) := (blk_cell BK249.out 1).trans rfl
                                have hcz91_2 : wr.cell? ⟨gb249, 2, none⟩ = some (.slice A0_2 l0_2.length c0_2) := (blk_cell BK249.out 2).trans rfl
                                have hcz91_3 : wr.cell? ⟨gb249, 3, none⟩ = some (.int .i64 a0_3) := (blk_cell BK249.out 3).trans rfl
                                have hcz91_4 : wr.cell? ⟨gb249, 4, none⟩ = some (.int .i64 a0_4) := (blk_cell BK249.out 4).trans rfl
                                have hcz91_5 : wr.cell? ⟨gb249, 5, none⟩ = some (.int .i64 a0_5) := (blk_cell BK249.out 5).trans rfl
                                have hcz91_6 : wr.cell? ⟨gb249, 6, none⟩ = some (.int .i64 a0_6) := (blk_cell BK249.out 6).trans rfl
                                have hfz91_0 := blk_frozen BK249.out 0
                                have hfz91_1 := blk_frozen BK249.out 1
                                have hfz91_2 := blk_frozen BK249.out 2
                                have hfz91_3 := blk_frozen BK249.out 3
                                have hfz91_4 := blk_frozen BK249.out 4
                                have hfz91_5 := blk_frozen BK249.out 5
                                have hfz91_6 := blk_frozen BK249.out 6
                                go_wp2_with (first | ((with_reducible refine gate_callee (f := 30) rfl ?_); refine goesL_ (some 100) rfl rfl Try.func30 (by kernel_rfl) rfl #[.agg #[.int .u32 a0_0, .int .i64 a0_1, .slice A0_2 l0_2.length c0_2, .int .i64 a0_3, .int .i64 a0_4, .int .i64 a0_5, .int .i64 a0_6], .int .i64 x12_4] rfl (by (try simp only [List.map_toArray, List.map_cons, List.map_nil]); first | done | rfl | (simp only [List.length_drop, List.length_take]; rfl)) ?_; (with_reducible refine (lodgerref05_Held.calls k4 a0_0 a0_1 _ _ l0_2 a0_3 a0_4 a0_5 a0_6 x12_4 false _ ?side1 ?side2 A79.out).mono ?_); (case side1 => repeat (first | exact (Kd.C_below HR0_2.out HB.out) | (with_reducible refine Kd.C_alloc ?_ _) | (with_reducible refine Kd.C_drewN ?_ _) | (with_reducible refine Kd.C_drew ?_))); (case side2 => exact HC0_2.out); rintro e w92 ⟨rfl, hb⟩; refine ⟨_, rfl, ?_⟩; have n0_ := Aside0.mk (Kd.V_below (by (with_reducible repeat (first | apply Kd.V_alloc | apply Kd.V_drewN | apply Kd.V_drew)); exact HO_11.out) hb); have n1_ := Aside0.mk (blk_below (g := gb249) (o := .cells #[.int .u32 a0_0, .int .i64 a0_1, .slice A0_2 l0_2.length c0_2, .int .i64 a0_3, .int .i64 a0_4, .int .i64 a0_5, .int .i64 a0_6] 27 (0, 0)) (by (with_reducible repeat (first | refine blk_drewN ?_ _ | refine blk_drew ?_ | refine blk_alloc ?_ _)); exact BK249.out) hb); have n2_ := Aside0.mk (below_step (by repeat (first | (with_reducible first | exact HB.out | apply below_alloc | apply pw_below_drewN | apply below_drew1 | refine below_set ?_ GE249.out) | exact HB.out)) hb); clear HO_11; clear BK249; clear HB; have HO_11 := n0_; have BK249 := n1_; have HB := n2_; clear n0_ n1_ n2_; (try clear hb); (try clear hb2); (try clear hk); (try clear hi); have hcz93_0 : w92.cell? ⟨gb249, 0, none⟩ = some (.int .u32 a0_0) := (blk_cell BK249.out 0).trans rfl; have hcz93_1 : w92.cell? ⟨gb249, 1, none⟩ = some (.int .i64 a0_1) := (blk_cell BK249.out 1).trans rfl; have hcz93_2 : w92.cell? ⟨gb249, 2, none⟩ = some (.slice A0_2 l0_2.length c0_2) := (blk_cell BK249.out 2).trans rfl; have hcz93_3 : w92.cell? ⟨gb249, 3, none⟩ = some (.int .i64 a0_3) := (blk_cell BK249.out 3).trans rfl; have hcz93_4 : w92.cell? ⟨gb249, 4, none⟩ = some (.int .i64 a0_4) := (blk_cell BK249.out 4).trans rfl; have hcz93_5 : w92.cell? ⟨gb249, 5, none⟩ = some (.int .i64 a0_5) := (blk_cell BK249.out 5).trans rfl; have hcz93_6 : w92.cell? ⟨gb249, 6, none⟩ = some (.int .i64 a0_6) := (blk_cell BK249.out 6).trans rfl; have hfz93_0 := blk_frozen BK249.out 0; have hfz93_1 := blk_frozen BK249.out 1; have hfz93_2 := blk_frozen BK249.out 2; have hfz93_3 := blk_frozen BK249.out 3; have hfz93_4 := blk_frozen BK249.out 4; have hfz93_5 := blk_frozen BK249.out 5; have hfz93_6 := blk_frozen BK249.out 6; obtain ⟨Ao94, co94, eo94⟩ := Kd.V_slice HO_11.out; subst eo94) | ((with_reducible refine gate_callee (f := 25) rfl ?_); refine goesL_ (some 104) rfl rfl Try.func25 (by kernel_rfl) rfl #[.agg #[.int .u32 a0_0, .int .i64 a0_1, .slice A0_2 l0_2.length c0_2, .int .i64 a0_3, .int .i64 a0_4, .int .i64 a0_5, .int .i64 a0_6], .slice Ao94 x11_4.length co94] rfl (by (try simp only [List.map_toArray, List.map_cons, List.map_nil]); first | done | rfl | (simp only [List.length_drop, List.length_take]; rfl)) ?_; (with_reducible refine (model_Full.calls a0_0 a0_1 _ _ l0_2 a0_3 a0_4 a0_5 a0_6 _ _ x11_4 false _ ?side1 ?side2 ?side3 ?side4 A83.out).mono ?_); (case side1 => repeat (first | exact (Kd.C_below HR0_2.out HB.out) | (with_reducible refine Kd.C_alloc ?_ _) | (with_reducible refine Kd.C_drewN ?_ _) | (with_reducible refine Kd.C_drew ?_))); (case side2 => exact HC0_2.out); (case side3 => repeat (first | exact (Kd.V_reads' HO_11.out).2.2 | (with_reducible refine Kd.C_alloc ?_ _) | (with_reducible refine Kd.C_drewN ?_ _) | (with_reducible refine Kd.C_drew ?_))); (case side4 => exact (Kd.V_reads' HO_11.out).2.1); rintro e w95 ⟨rfl, hb⟩; refine ⟨_, rfl, ?_⟩; have n0_ := Aside0.mk (Kd.V_below (by (with_reducible repeat (first | apply Kd.V_alloc | apply Kd.V_drewN | apply Kd.V_drew)); exact HO_11.out) hb); have n1_ := Aside0.mk (blk_below (g := gb249) (o := .cells #[.int .u32 a0_0, .int .i64 a0_1, .slice A0_2 l0_2.length c0_2, .int .i64 a0_3, .int .i64 a0_4, .int .i64 a0_5, .int .i64 a0_6] 27 (0, 0)) (by (with_reducible repeat (first | refine blk_drewN ?_ _ | refine blk_drew ?_ | refine blk_alloc ?_ _)); exact BK249.out) hb); have n2_ := Aside0.mk (below_step (by repeat (first | (with_reducible first | exact HB.out | apply below_alloc | apply pw_below_drewN | apply below_drew1 | refine below_set ?_ GE249.out) | exact HB.out)) hb); clear HO_11; clear BK249; clear HB; have HO_11 := n0_; have BK249 := n1_; have HB := n2_; clear n0_ n1_ n2_; (try clear hb); (try clear hb2); (try clear hk); (try clear hi)) | ((with_reducible refine gate_callee (f := 17) rfl ?_); refine goesL_ (some 107) rfl rfl Try.func17 (by kernel_rfl) rfl #[.slice Ao94 x11_4.length co94, .int .i64 x12_4] rfl (by (try simp only [List.map_toArray, List.map_cons, List.map_nil]); first | done | rfl | (simp only [List.length_drop, List.length_take]; rfl)) ?_; (with_reducible refine (model_With.calls k4 (fun k_ => k_ ≠ gb249) _ _ x11_4 x12_4 t280 _ ?side1 A90.out).mono ?_); (case side1 => exact HO_11.out); rintro e w96 ⟨v281, rfl, ho0, hb⟩; refine ⟨_, rfl, ?_⟩; have n0_ := Aside0.mk (Kd.V_below (by (with_reducible repeat (first | apply Kd.V_alloc | apply Kd.V_drewN | apply Kd.V_drew)); exact HO_11.out) hb); have n1_ := Aside0.mk (Kd.V_lower (Kd.V_mono (ok' := fun k_ => k_ ≠ gb249) ho0 (fun k_ hk_ => Or.elim hk_ (fun hs_ => hs_) (fun hn_ => (Kd.freshB (g := gb249) (o := .cells #[.int .u32 a0_0, .int .i64 a0_1, .slice A0_2 l0_2.length c0_2, .int .i64 a0_3, .int .i64 a0_4, .int .i64 a0_5, .int .i64 a0_6] 27 (0, 0)) (by (with_reducible repeat (first | refine blk_drewN ?_ _ | refine blk_drew ?_ | refine blk_alloc ?_ _)); exact BK249.out) k_ hn_)))) (below_size (by repeat (first | (with_reducible first | exact HB.out | apply below_alloc | apply pw_below_drewN | apply below_drew1 | refine below_set ?_ GE249.out) | exact HB.out)))); have n2_ := Aside0.mk (blk_below (g := gb249) (o := .cells #[.int .u32 a0_0, .int .i64 a0_1, .slice A0_2 l0_2.length c0_2, .int .i64 a0_3, .int .i64 a0_4, .int .i64 a0_5, .int .i64 a0_6] 27 (0, 0)) (by (with_reducible repeat (first | refine blk_drewN ?_ _ | refine blk_drew ?_ | refine blk_alloc ?_ _)); exact BK249.out) hb); have n3_ := Aside0.mk (below_step (by repeat (first | (with_reducible first | exact HB.out | apply below_alloc | apply pw_below_drewN | apply below_drew1 | refine below_set ?_ GE249.out) | exact HB.out)) hb); clear HO_11; clear BK249; clear HB; have HO_11 := n0_; have HO282 := n1_; have BK249 := n2_; have HB := n3_; clear n0_ n1_ n2_ n3_; (try clear hb); (try clear hb2); (try clear hk); (try clear hi); (try clear ho0)))
                                go_roundg k4
                                case measure => have := HJ4.out; have := HJ21.out; have := HJ44.out; have := HK4.out; omega
                                case rel => exact ⟨(t280), (wrap64 (x12_4 - 1)), (by first | rfl | (simp; done) | (simp [*]; done)), H', ⟨by have := HJ4.out; have := HJ21.out; have := HJ44.out; have := HK4.out; omega⟩, ⟨by (with_reducible repeat (first | apply Kd.V_alloc | apply Kd.V_drewN | apply Kd.V_drew)); exact HO282.out⟩, ⟨by (with_reducible repeat (first | refine blk_drewN ?_ _ | refine blk_drew ?_ | refine blk_alloc ?_ _)); exact BK249.out⟩, ⟨by repeat (first | (with_reducible first | exact HB.out | apply below_alloc | apply pw_below_drewN | apply below_drew1 | refine below_set ?_ GE249.out) | exact HB.out)⟩⟩
                          · rw [if_neg c78] at H
                            have c78b0 : decide (0 ≤ x12_4) = false := decide_eq_false c78
                            clear c78
                            replace H := Option.bind_eq_some_iff.mp H
                            obtain ⟨t276, A970, H⟩ := H
                            replace H : (if t276 = true then ((model_May.f k4 a0_0 a0_1 l0_2 a0_3 a0_4 a0_5 a0_6 x11_4).bind fun t277 => (some t277)) else (some false)) = some r := H
                            have A97 := Aside0.mk A970
                            clear A970
                            by_cases c98 : t276 = true
                            · subst c98
                              have H1 : ((model_May.f k4 a0_0 a0_1 l0_2 a0_3 a0_4 a0_5 a0_6 x11_4).bind fun t277 => (some t277)) = some r := by rw [if_pos rfl] at H; exact H
                              clear H
                              have H := H1
                              clear H1
                              replace H := Option.bind_eq_some_iff.mp H
                              obtain ⟨t277, A990, H⟩ := H
                              replace H : (some t277) = some r := H
                              have A99 := Aside0.mk A990
                              clear A990
                              first | (exfalso; rw [hr_.out] at H; exact absurd (Option.some.inj H) (by decide)) | (try clear hr_)
                              all_goals
                                obtain rfl := Option.some.inj H
                                have hcz100_0 : wr.cell? ⟨gb249, 0, none⟩ = some (.int .u32 a0_0) := (blk_cell BK249.out 0).trans rfl
                                have hcz100_1 : wr.cell? ⟨gb249, 1, none⟩ = some (.int .i64 a0_1) := (blk_cell BK249.out 1).trans rfl
                                have hcz100_2 : wr.cell? ⟨gb249, 2, none⟩ = some (.slice A0_2 l0_2.length c0_2) := (blk_cell BK249.out 2).trans rfl
                                have hcz100_3 : wr.cell? ⟨gb249, 3, none⟩ = some (.int .i64 a0_3) := (blk_cell BK249.out 3).trans rfl
                                have hcz100_4 : wr.cell? ⟨gb249, 4, none⟩ = some (.int .i64 a0_4) := (blk_cell BK249.out 4).trans rfl
                                have hcz100_5 : wr.cell? ⟨gb249, 5, none⟩ = some (.int .i64 a0_5) := (blk_cell BK249.out 5).trans rfl
                                have hcz100_6 : wr.cell? ⟨gb249, 6, none⟩ = some (.int .i64 a0_6) := (blk_cell BK249.out 6).trans rfl
                                have hfz100_0 := blk_frozen BK249.out 0
                                have hfz100_1 := blk_frozen BK249.out 1
                                have hfz100_2 := blk_frozen BK249.out 2
                                have hfz100_3 := blk_frozen BK249.out 3
                                have hfz100_4 := blk_frozen BK249.out 4
                                have hfz100_5 := blk_frozen BK249.out 5
                                have hfz100_6 := blk_frozen BK249.out 6
                                obtain ⟨Ao101, co101, eo101⟩ := Kd.V_slice HO_11.out
                                subst eo101
                                go_wp2_with (first | ((with_reducible refine gate_callee (f := 25) rfl ?_); refine goesL_ (some 110) rfl rfl Try.func25 (by kernel_rfl) rfl #[.agg #[.int .u32 a0_0, .int .i64 a0_1, .slice A0_2 l0_2.length c0_2, .int .i64 a0_3, .int .i64 a0_4, .int .i64 a0_5, .int .i64 a0_6], .slice Ao101 x11_4.length co101] rfl (by (try simp only [List.map_toArray, List.map_cons, List.map_nil]); first | done | rfl | (simp only [List.length_drop, List.length_take]; rfl)) ?_; (with_reducible refine (model_Full.calls a0_0 a0_1 _ _ l0_2 a0_3 a0_4 a0_5 a0_6 _ _ x11_4 true _ ?side1 ?side2 ?side3 ?side4 A97.out).mono ?_); (case side1 => repeat (first | exact (Kd.C_below HR0_2.out HB.out) | (with_reducible refine Kd.C_alloc ?_ _) | (with_reducible refine Kd.C_drewN ?_ _) | (with_reducible refine Kd.C_drew ?_))); (case side2 => exact HC0_2.out); (case side3 => repeat (first | exact (Kd.V_reads' HO_11.out).2.2 | (with_reducible refine Kd.C_alloc ?_ _) | (with_reducible refine Kd.C_drewN ?_ _) | (with_reducible refine Kd.C_drew ?_))); (case side4 => exact (Kd.V_reads' HO_11.out).2.1); rintro e w102 ⟨rfl, hb⟩; refine ⟨_, rfl, ?_⟩; have n0_ := Aside0.mk (Kd.V_below (by (with_reducible repeat (first | apply Kd.V_alloc | apply Kd.V_drewN | apply Kd.V_drew)); exact HO_11.out) hb); have n1_ := Aside0.mk (blk_below (g := gb249) (o := .cells #[.int .u32 a0_0, .int .i64 a0_1, .slice A0_2 l0_2.length c0_2, .int .i64 a0_3, .int .i64 a0_4, .int .i64 a0_5, .int .i64 a0_6] 27 (0, 0)) (by (with_reducible repeat (first | refine blk_drewN ?_ _ | refine blk_drew ?_ | refine blk_alloc ?_ _)); exact BK249.out) hb); have n2_ := Aside0.mk (below_step (by repeat (first | (with_reducible first | exact HB.out | apply below_alloc | apply pw_below_drewN | apply below_drew1 | refine below_set ?_ GE249.out) | exact HB.out)) hb); clear HO_11; clear BK249; clear HB; have HO_11 := n0_; have BK249 := n1_; have HB := n2_; clear n0_ n1_ n2_; (try clear hb); (try clear hb2); (try clear hk); (try clear hi); have hcz103_0 : w102.cell? ⟨gb249, 0, none⟩ = some (.int .u32 a0_0) := (blk_cell BK249.out 0).trans rfl; have hcz103_1 : w102.cell? ⟨gb249, 1, none⟩ = some (.int .i64 a0_1) := (blk_cell BK249.out 1).trans rfl; have hcz103_2 : w102.cell? ⟨gb249, 2, none⟩ = some (.slice A0_2 l0_2.length c0_2) := (blk_cell BK249.out 2).trans rfl; have hcz103_3 : w102.cell? ⟨gb249, 3, none⟩ = some (.int .i64 a0_3) := (blk_cell BK249.out 3).trans rfl; have hcz103_4 : w102.cell? ⟨gb249, 4, none⟩ = some (.int .i64 a0_4) := (blk_cell BK249.out 4).trans rfl; have hcz103_5 : w102.cell? ⟨gb249, 5, none⟩ = some (.int .i64 a0_5) := (blk_cell BK249.out 5).trans rfl; have hcz103_6 : w102.cell? ⟨gb249, 6, none⟩ = some (.int .i64 a0_6) := (blk_cell BK249.out 6).trans rfl; have hfz103_0 := blk_frozen BK249.out 0; have hfz103_1 := blk_frozen BK249.out 1; have hfz103_2 := blk_frozen BK249.out 2; have hfz103_3 := blk_frozen BK249.out 3; have hfz103_4 := blk_frozen BK249.out 4; have hfz103_5 := blk_frozen BK249.out 5; have hfz103_6 := blk_frozen BK249.out 6) | (go_at_call 11; (with_reducible refine (model_May.calls k4 a0_0 a0_1 _ _ l0_2 a0_3 a0_4 a0_5 a0_6 _ _ x11_4 t277 _ ?side1 ?side2 ?side3 ?side4 A99.out).mono ?_); (case side1 => repeat (first | exact (Kd.C_below HR0_2.out HB.out) | (with_reducible refine Kd.C_alloc ?_ _) | (with_reducible refine Kd.C_drewN ?_ _) | (with_reducible refine Kd.C_drew ?_))); (case side2 => exact HC0_2.out); (case side3 => repeat (first | exact (Kd.V_reads' HO_11.out).2.2 | (with_reducible refine Kd.C_alloc ?_ _) | (with_reducible refine Kd.C_drewN ?_ _) | (with_reducible refine Kd.C_drew ?_))); (case side4 => exact (Kd.V_reads' HO_11.out).2.1); rintro e w104 ⟨rfl, hb⟩; have n0_ := Aside0.mk (Kd.V_below (by (with_reducible repeat (first | apply Kd.V_alloc | apply Kd.V_drewN | apply Kd.V_drew)); exact HO_11.out) hb); have n1_ := Aside0.mk (blk_below (g := gb249) (o := .cells #[.int .u32 a0_0, .int .i64 a0_1, .slice A0_2 l0_2.length c0_2, .int .i64 a0_3, .int .i64 a0_4, .int .i64 a0_5, .int .i64 a0_6] 27 (0, 0)) (by (with_reducible repeat (first | refine blk_drewN ?_ _ | refine blk_drew ?_ | refine blk_alloc ?_ _)); exact BK249.out) hb); have n2_ := Aside0.mk (below_step (by repeat (first | (with_reducible first | exact HB.out | apply below_alloc | apply pw_below_drewN | apply below_drew1 | refine below_set ?_ GE249.out) | exact HB.out)) hb); clear HO_11; clear BK249; clear HB; have HO_11 := n0_; have BK249 := n1_; have HB := n2_; clear n0_ n1_ n2_; (try clear hb); (try clear hb2); (try clear hk); (try clear hi)))
                                go_ret
                                exact ⟨by first | rfl | (simp [errW_none, errW_some] <;> rfl) | (simp [*, errW_none, errW_some] <;> rfl), by repeat (first | (with_reducible first | exact HB.out | apply below_alloc | apply pw_below_drewN | apply below_drew1 | refine below_set ?_ GE249.out) | exact HB.out)⟩
                            · replace c98 := Bool.eq_false_iff.mpr c98
                              subst c98
                              have H1 : (some false) = some r := by rw [if_neg (show ¬ (false = true) by decide)] at H; exact H
                              rw [hr_.out] at H1
                              exact absurd (Option.some.inj H1) (by decide)

/-- THE ONE PURE STATEMENT of lodgerlaw09_ModelBack: yours. -/
def lodgerlaw09_ModelBack.Pure : Prop := ∀ (a0_0 : Int) (a0_1 : Int) (l0_2 : List Int) (a0_3 : Int) (a0_4 : Int) (a0_5 : Int) (a0_6 : Int) (l1 : List Int) (a2 : Int) (a3 : Int), (Lit.int .u32 a0_0).wf = true → (Lit.int .i64 a0_1).wf = true → l0_2.length ≤ maxLen → (∀ x ∈ l0_2, (Lit.int .i64 x).wf = true) → (Lit.int .i64 a0_3).wf = true → (Lit.int .i64 a0_4).wf = true → (Lit.int .i64 a0_5).wf = true → (Lit.int .i64 a0_6).wf = true → l1.length ≤ maxLen → l1.length * 8 ≤ 140737488351232 → (∀ x ∈ l1, (Lit.int .i64 x).wf = true) → (Lit.int .i64 a2).wf = true → (Lit.int .i64 a3).wf = true → ∃ k, lodgerlaw09_ModelBack.f k a0_0 a0_1 l0_2 a0_3 a0_4 a0_5 a0_6 l1 a2 a3 = some true
theorem lodgerlaw09_ModelBack.walk (P : lodgerlaw09_ModelBack.Pure) (a0_0 : Int) (a0_1 : Int) (a0_2 : Option Addr) (len0_2 cap0_2 : Nat) (z0_2 : List Int) (a0_3 : Int) (a0_4 : Int) (a0_5 : Int) (a0_6 : Int) (a1 : Option Addr) (len1 cap1 : Nat) (z1 : List Int) (a2 : Int) (a3 : Int) (w : World) (w0_0 : (Lit.int .u32 a0_0).wf = true) (w0_1 : (Lit.int .i64 a0_1).wf = true) (w0_2 : (a0_2 = none ∧ len0_2 = 0 ∧ cap0_2 = 0 ∧ z0_2 = []) ∨ ∃ x, a0_2 = some x ∧ len0_2 ≤ cap0_2 ∧ cap0_2 ≤ maxLen ∧ z0_2.length = cap0_2 ∧ (∀ i, i < z0_2.length → w.cell? (x.add i) = some (.int .i64 (z0_2.getD i 0))) ∧ ∀ n ∈ z0_2, (Lit.int .i64 n).wf = true) (w0_3 : (Lit.int .i64 a0_3).wf = true) (w0_4 : (Lit.int .i64 a0_4).wf = true) (w0_5 : (Lit.int .i64 a0_5).wf = true) (w0_6 : (Lit.int .i64 a0_6).wf = true) (w1 : (a1 = none ∧ len1 = 0 ∧ cap1 = 0 ∧ z1 = []) ∨ ∃ x, a1 = some x ∧ len1 ≤ cap1 ∧ cap1 ≤ maxLen ∧ z1.length = cap1 ∧ (∀ i, i < z1.length → w.cell? (x.add i) = some (.int .i64 (z1.getD i 0))) ∧ ∀ n ∈ z1, (Lit.int .i64 n).wf = true) (y1 : len1 * 8 ≤ 140737488351232) (w2 : (Lit.int .i64 a2).wf = true) (w3 : (Lit.int .i64 a3).wf = true) :
    Calls Try.prog 5 #[.agg #[.int .u32 a0_0, .int .i64 a0_1, .slice a0_2 len0_2 cap0_2, .int .i64 a0_3, .int .i64 a0_4, .int .i64 a0_5, .int .i64 a0_6], .slice a1 len1 cap1, .int .i64 a2, .int .i64 a3] w fun e w' => e = .returned (.bool true) ∧ Below w.heap.size w w' := by
  obtain ⟨l0_2, rfl, hr0_2, hm0_2, hw0_2, hc0_2⟩ := ReadsInt.ofRowC w0_2
  obtain ⟨l1, rfl, hr1, hm1, hw1, hc1⟩ := ReadsInt.ofRowC w1
  obtain ⟨k, h⟩ := P a0_0 a0_1 l0_2 a0_3 a0_4 a0_5 a0_6 l1 a2 a3 w0_0 w0_1 hm0_2 hw0_2 w0_3 w0_4 w0_5 w0_6 hm1 y1 hw1 w2 w3
  refine (lodgerlaw09_ModelBack.calls k a0_0 a0_1 _ _ l0_2 a0_3 a0_4 a0_5 a0_6 _ _ l1 a2 a3 true w (Kd.C_of_reads (d := (0 : Int)) (h1 := fun _ => rfl) hr0_2) hc0_2 (Kd.C_of_reads (d := (0 : Int)) (h1 := fun _ => rfl) hr1) hc1 rfl h).mono ?_
  rintro e w' ⟨rfl, hd⟩
  exact ⟨rfl, hd⟩

end Go.Proofs.Ythfcgjmffjmplaa.PModelBack
