/- The walk of BlockOffsets, part of it: what the Go functions answer; no condition. -/
import Derived.Test.YtibfbbeippamaaaQBlockOffsetsx0
import Derived.Test.YtibfbbeippamaaaQBlockOffsetsx1
import Derived.Test.YtibfbbeippamaaaQBlockOffsetsx2
import Derived.Test.YtibfbbeippamaaaQBlockOffsetsx3
import Derived.Test.YtibfbbeippamaaaQBlockOffsetsx4
namespace Go.Proofs.Ytibfbbeippamaaa.PBlockOffsets
open Go.RowKit Go.Proofs.YtibfbbeippamaaaW.PrintWords Go.Proofs.YtibfbbeippamaaaW.PrintLast Go.Proofs.YtibfbbeippamaaaW.PrintMore
attribute [local go_sem] max2_int min2_int max_two min_two max_three min_three max_four min_four   -- for this text's walks alone
set_option linter.unusedVariables false
set_option linter.unusedSimpArgs false

/-! ### lodgerlaw05_BlockOffsets: function 9 -/
mutual
def lodgerlaw05_BlockOffsets.j0 : Nat → Int → Int → Int → Bool → Int → Int → List Int → Int → Int → Int → Int → Option (Bool)
  | 0, _, _, _, _, _, _, _, _, _, _, _ => none
  | k + 1, x1, x2, x3, x31, x163000, x163001, x163002, x163003, x163004, x163005, x163006 => if x31 = true then ((lodgerlaw05_awake.f k).bind fun t165 => (some t165)) else ((block_Many.f x163000 x163001).bind fun t166 => (if t166 = 0 then (none) else ((block_Address.f x163000 x163001 (Int.tmod (wrap64 (x2)) t166)).bind fun t167 => ((block_Offset.f x163000 x163001 t167).bind fun bt168 => (if bt168.2 = 0 then (if bt168.1 = (Int.tmod (wrap64 (x2)) t166) then ((block_Address.f x163000 x163001 (Int.tmod (wrap64 (x3)) t166)).bind fun t170 => (lodgerlaw05_BlockOffsets.j1 k x1 t166 ((t167 == t170) != ((Int.tmod (wrap64 (x2)) t166) == (Int.tmod (wrap64 (x3)) t166))) x163000 x163001 x163002 x163003 x163004 x163005 x163006)) else (lodgerlaw05_BlockOffsets.j1 k x1 t166 true x163000 x163001 x163002 x163003 x163004 x163005 x163006)) else (lodgerlaw05_BlockOffsets.j1 k x1 t166 true x163000 x163001 x163002 x163003 x163004 x163005 x163006))))))
def lodgerlaw05_BlockOffsets.j1 : Nat → Int → Int → Bool → Int → Int → List Int → Int → Int → Int → Int → Option (Bool)
  | 0, _, _, _, _, _, _, _, _, _, _ => none
  | k + 1, x1, x9, x73, x163000, x163001, x163002, x163003, x163004, x163005, x163006 => if x73 = true then (some false) else ((block_Offset.f x163000 x163001 ((x163000 - 1) % 4294967296)).bind fun bt171 => ((block_Offset.f x163000 x163001 ((x163000 + (x9)) % 4294967296)).bind fun bt173 => ((block_Offset.f x163000 x163001 x1).bind fun bt175 => (if bt171.2 = 3 then (if bt173.2 = 3 then (if bt175.2 = 0 then ((block_Address.f x163000 x163001 bt175.1).bind fun t177 => (lodgerlaw05_BlockOffsets.j2 k x1 bt175.1 bt175.2 (t177 != x1) x163000 x163001 x163002 x163003 x163004 x163005 x163006)) else (lodgerlaw05_BlockOffsets.j2 k x1 bt175.1 bt175.2 false x163000 x163001 x163002 x163003 x163004 x163005 x163006)) else (lodgerlaw05_BlockOffsets.j2 k x1 bt175.1 bt175.2 true x163000 x163001 x163002 x163003 x163004 x163005 x163006)) else (lodgerlaw05_BlockOffsets.j2 k x1 bt175.1 bt175.2 true x163000 x163001 x163002 x163003 x163004 x163005 x163006)))))
def lodgerlaw05_BlockOffsets.j2 : Nat → Int → Int → Int → Bool → Int → Int → List Int → Int → Int → Int → Int → Option (Bool)
  | 0, _, _, _, _, _, _, _, _, _, _, _ => none
  | k + 1, x1, x21, x22, x122, x163000, x163001, x163002, x163003, x163004, x163005, x163006 => if x122 = true then (some false) else ((block_Find.f k x163000 x163001 x163002 x163003 x163004 x163005 x163006 x1).bind fun bt178 => (if x22 = 0 then ((block_Held.f k x163000 x163001 x163002 x163003 x163004 x163005 x163006 x21).bind fun t180 => (if ((bt178.2 == 0) == (!t180)) = true then (if bt178.2 = 0 then (if bt178.1 = x21 then ((lodgerref04_May.f k x163000 x163001).bind fun t181 => (some t181)) else (some false)) else ((lodgerref04_May.f k x163000 x163001).bind fun t182 => (some t182))) else (some false))) else (if ((bt178.2 == 0) == false) = true then (if bt178.2 = 0 then (if bt178.1 = x21 then ((lodgerref04_May.f k x163000 x163001).bind fun t183 => (some t183)) else (some false)) else ((lodgerref04_May.f k x163000 x163001).bind fun t184 => (some t184))) else (some false))))
end
def lodgerlaw05_BlockOffsets.f (k : Nat) (a0_0 : Int) (a0_1 : Int) (l0_2 : List Int) (a0_3 : Int) (a0_4 : Int) (a0_5 : Int) (a0_6 : Int) (a1 : Int) (a2 : Int) (a3 : Int) : Option (Bool) := (lodgerlaw05_awake.f k).bind fun t163 => (if t163 = true then ((lodgerref05_May.f k a0_0 a0_1 l0_2 a0_3 a0_4 a0_5 a0_6).bind fun t164 => (lodgerlaw05_BlockOffsets.j0 k a1 a2 a3 (!t164) a0_0 a0_1 l0_2 a0_3 a0_4 a0_5 a0_6)) else (lodgerlaw05_BlockOffsets.j0 k a1 a2 a3 true a0_0 a0_1 l0_2 a0_3 a0_4 a0_5 a0_6))
theorem lodgerlaw05_BlockOffsets.mono_l : ∀ k, (∀ y0 y1 y2 y3 y4 y5 y6 y7 y8 y9 y10, LeO (lodgerlaw05_BlockOffsets.j0 k y0 y1 y2 y3 y4 y5 y6 y7 y8 y9 y10) (lodgerlaw05_BlockOffsets.j0 (k + 1) y0 y1 y2 y3 y4 y5 y6 y7 y8 y9 y10)) ∧ (∀ y0 y1 y2 y3 y4 y5 y6 y7 y8 y9, LeO (lodgerlaw05_BlockOffsets.j1 k y0 y1 y2 y3 y4 y5 y6 y7 y8 y9) (lodgerlaw05_BlockOffsets.j1 (k + 1) y0 y1 y2 y3 y4 y5 y6 y7 y8 y9)) ∧ (∀ y0 y1 y2 y3 y4 y5 y6 y7 y8 y9 y10, LeO (lodgerlaw05_BlockOffsets.j2 k y0 y1 y2 y3 y4 y5 y6 y7 y8 y9 y10) (lodgerlaw05_BlockOffsets.j2 (k + 1) y0 y1 y2 y3 y4 y5 y6 y7 y8 y9 y10))
  | 0 => ⟨fun _ _ _ _ _ _ _ _ _ _ _ r h => by simp [lodgerlaw05_BlockOffsets.j0] at h, fun _ _ _ _ _ _ _ _ _ _ r h => by simp [lodgerlaw05_BlockOffsets.j1] at h, fun _ _ _ _ _ _ _ _ _ _ _ r h => by simp [lodgerlaw05_BlockOffsets.j2] at h⟩
  | k + 1 => by
    obtain ⟨ih0, ih1, ih2⟩ := lodgerlaw05_BlockOffsets.mono_l k
    refine ⟨?_, ?_, ?_⟩
    · intro y0 y1 y2 y3 y4 y5 y6 y7 y8 y9 y10
      unfold lodgerlaw05_BlockOffsets.j0
      repeat' first
      | (with_reducible exact ih0 _ _ _ _ _ _ _ _ _ _ _)
      | (with_reducible exact ih1 _ _ _ _ _ _ _ _ _ _)
      | (with_reducible exact ih2 _ _ _ _ _ _ _ _ _ _ _)
      | (with_reducible exact block_Find.mono _ _ _ _ _ _ _ _ _)
      | (with_reducible exact block_Held.mono _ _ _ _ _ _ _ _ _)
      | (with_reducible exact lodgerlaw05_awake.mono _)
      | (with_reducible exact lodgerref04_May.mono _ _ _)
      | (with_reducible exact lodgerref05_May.mono _ _ _ _ _ _ _ _)
      | (with_reducible exact LeO.refl _)
      | (with_reducible exact LeO.none _)
      | (with_reducible refine LeO.ite ?_ ?_)
      | (with_reducible refine LeO.bind ?_ (fun _ => ?_))
      | exact ih0 _ _ _ _ _ _ _ _ _ _ _
      | exact ih1 _ _ _ _ _ _ _ _ _ _
      | exact ih2 _ _ _ _ _ _ _ _ _ _ _
      | exact block_Find.mono _ _ _ _ _ _ _ _ _
      | exact block_Held.mono _ _ _ _ _ _ _ _ _
      | exact lodgerlaw05_awake.mono _
      | exact lodgerref04_May.mono _ _ _
      | exact lodgerref05_May.mono _ _ _ _ _ _ _ _
      | exact LeO.none _
      | refine LeO.ite ?_ ?_
      | refine LeO.bind ?_ (fun _ => ?_)
    · intro y0 y1 y2 y3 y4 y5 y6 y7 y8 y9
      unfold lodgerlaw05_BlockOffsets.j1
      repeat' first
      | (with_reducible exact ih0 _ _ _ _ _ _ _ _ _ _ _)
      | (with_reducible exact ih1 _ _ _ _ _ _ _ _ _ _)
      | (with_reducible exact ih2 _ _ _ _ _ _ _ _ _ _ _)
      | (with_reducible exact block_Find.mono _ _ _ _ _ _ _ _ _)
      | (with_reducible exact block_Held.mono _ _ _ _ _ _ _ _ _)
      | (with_reducible exact lodgerlaw05_awake.mono _)
      | (with_reducible exact lodgerref04_May.mono _ _ _)
      | (with_reducible exact lodgerref05_May.mono _ _ _ _ _ _ _ _)
      | (with_reducible exact LeO.refl _)
      | (with_reducible exact LeO.none _)
      | (with_reducible refine LeO.ite ?_ ?_)
      | (with_reducible refine LeO.bind ?_ (fun _ => ?_))
      | exact ih0 _ _ _ _ _ _ _ _ _ _ _
      | exact ih1 _ _ _ _ _ _ _ _ _ _
      | exact ih2 _ _ _ _ _ _ _ _ _ _ _
      | exact block_Find.mono _ _ _ _ _ _ _ _ _
      | exact block_Held.mono _ _ _ _ _ _ _ _ _
      | exact lodgerlaw05_awake.mono _
      | exact lodgerref04_May.mono _ _ _
      | exact lodgerref05_May.mono _ _ _ _ _ _ _ _
      | exact LeO.none _
      | refine LeO.ite ?_ ?_
      | refine LeO.bind ?_ (fun _ => ?_)
    · intro y0 y1 y2 y3 y4 y5 y6 y7 y8 y9 y10
      unfold lodgerlaw05_BlockOffsets.j2
      repeat' first
      | (with_reducible exact ih0 _ _ _ _ _ _ _ _ _ _ _)
      | (with_reducible exact ih1 _ _ _ _ _ _ _ _ _ _)
      | (with_reducible exact ih2 _ _ _ _ _ _ _ _ _ _ _)
      | (with_reducible exact block_Find.mono _ _ _ _ _ _ _ _ _)
      | (with_reducible exact block_Held.mono _ _ _ _ _ _ _ _ _)
      | (with_reducible exact lodgerlaw05_awake.mono _)
      | (with_reducible exact lodgerref04_May.mono _ _ _)
      | (with_reducible exact lodgerref05_May.mono _ _ _ _ _ _ _ _)
      | (with_reducible exact LeO.refl _)
      | (with_reducible exact LeO.none _)
      | (with_reducible refine LeO.ite ?_ ?_)
      | (with_reducible refine LeO.bind ?_ (fun _ => ?_))
      | exact ih0 _ _ _ _ _ _ _ _ _ _ _
      | exact ih1 _ _ _ _ _ _ _ _ _ _
      | exact ih2 _ _ _ _ _ _ _ _ _ _ _
      | exact block_Find.mono _ _ _ _ _ _ _ _ _
      | exact block_Held.mono _ _ _ _ _ _ _ _ _
      | exact lodgerlaw05_awake.mono _
      | exact lodgerref04_May.mono _ _ _
      | exact lodgerref05_May.mono _ _ _ _ _ _ _ _
      | exact LeO.none _
      | refine LeO.ite ?_ ?_
      | refine LeO.bind ?_ (fun _ => ?_)
theorem lodgerlaw05_BlockOffsets.mono : ∀ a0 a1 a2 a3 a4 a5 a6 a7 a8 a9 k, LeO (lodgerlaw05_BlockOffsets.f k a0 a1 a2 a3 a4 a5 a6 a7 a8 a9) (lodgerlaw05_BlockOffsets.f (k + 1) a0 a1 a2 a3 a4 a5 a6 a7 a8 a9) := by
  intro a0 a1 a2 a3 a4 a5 a6 a7 a8 a9 k
  obtain ⟨ih0, ih1, ih2⟩ := lodgerlaw05_BlockOffsets.mono_l k
  unfold lodgerlaw05_BlockOffsets.f
  repeat' first
      | (with_reducible exact ih0 _ _ _ _ _ _ _ _ _ _ _)
      | (with_reducible exact ih1 _ _ _ _ _ _ _ _ _ _)
      | (with_reducible exact ih2 _ _ _ _ _ _ _ _ _ _ _)
      | (with_reducible exact block_Find.mono _ _ _ _ _ _ _ _ _)
      | (with_reducible exact block_Held.mono _ _ _ _ _ _ _ _ _)
      | (with_reducible exact lodgerlaw05_awake.mono _)
      | (with_reducible exact lodgerref04_May.mono _ _ _)
      | (with_reducible exact lodgerref05_May.mono _ _ _ _ _ _ _ _)
      | (with_reducible exact LeO.refl _)
      | (with_reducible exact LeO.none _)
      | (with_reducible refine LeO.ite ?_ ?_)
      | (with_reducible refine LeO.bind ?_ (fun _ => ?_))
      | exact ih0 _ _ _ _ _ _ _ _ _ _ _
      | exact ih1 _ _ _ _ _ _ _ _ _ _
      | exact ih2 _ _ _ _ _ _ _ _ _ _ _
      | exact block_Find.mono _ _ _ _ _ _ _ _ _
      | exact block_Held.mono _ _ _ _ _ _ _ _ _
      | exact lodgerlaw05_awake.mono _
      | exact lodgerref04_May.mono _ _ _
      | exact lodgerref05_May.mono _ _ _ _ _ _ _ _
      | exact LeO.none _
      | refine LeO.ite ?_ ?_
      | refine LeO.bind ?_ (fun _ => ?_)
set_option maxHeartbeats 8000000 in
set_option maxRecDepth 100000 in
theorem lodgerlaw05_BlockOffsets.calls (k : Nat) (a0_0 : Int) (a0_1 : Int) (A0_2 : Option Addr) (c0_2 : Nat) (l0_2 : List Int) (a0_3 : Int) (a0_4 : Int) (a0_5 : Int) (a0_6 : Int) (a1 : Int) (a2 : Int) (a3 : Int) (r : Bool) (w : World) (hr0_2 : Kd.C (Kd.int .i64) w A0_2 l0_2.length l0_2) (hc0_2 : l0_2.length ≤ c0_2) (hr_ : r = true) (h : lodgerlaw05_BlockOffsets.f k a0_0 a0_1 l0_2 a0_3 a0_4 a0_5 a0_6 a1 a2 a3 = some r) :
    Calls Try.prog 9 #[.agg #[.int .u32 a0_0, .int .i64 a0_1, .slice A0_2 l0_2.length c0_2, .int .i64 a0_3, .int .i64 a0_4, .int .i64 a0_5, .int .i64 a0_6], .int .u32 a1, .int .u16 a2, .int .u16 a3] w fun e w' => e = .returned (.bool r) ∧ Below w.heap.size w w' := by
  have hu27 := Try.underlying27
  have hu24 := Try.underlying24
  have HR0_2 := Aside0.mk hr0_2
  have HC0_2 := Aside0.mk hc0_2
  clear hr0_2 hc0_2
  have HB := Aside0.mk (Below.refl w.heap.size w)
  replace hr_ := Aside0.mk hr_
  have H : ((lodgerlaw05_awake.f k).bind fun t163 => (if t163 = true then ((lodgerref05_May.f k a0_0 a0_1 l0_2 a0_3 a0_4 a0_5 a0_6).bind fun t164 => (lodgerlaw05_BlockOffsets.j0 k a1 a2 a3 (!t164) a0_0 a0_1 l0_2 a0_3 a0_4 a0_5 a0_6)) else (lodgerlaw05_BlockOffsets.j0 k a1 a2 a3 true a0_0 a0_1 l0_2 a0_3 a0_4 a0_5 a0_6))) = some r := h
  clear h
  have HC5 := Aside0.mk H
  clear H
  go_enter Try.func9, Try.ntmps9
  go_upto_region 1 with (first | ((with_reducible refine gate_dst (N := 4) rfl ?_); refine box_event ?hg (N := 4) ?hd (cs := #[.int .u32 a0_0, .int .i64 a0_1, .slice A0_2 l0_2.length c0_2, .int .i64 a0_3, .int .i64 a0_4, .int .i64 a0_5, .int .i64 a0_6]) (t := 27) ?hr ?_; (case hd => rfl); (case hg => rfl); (case hr => first | (go_simp; done) | (go_simp; rfl)); intro gb162 hg w6 hbox hb; have n0_ := Aside0.mk (below_step (by repeat (first | (with_reducible first | exact HB.out | apply below_alloc | apply pw_below_drewN | apply below_drew1) | exact HB.out)) hb); have n1_ := Aside0.mk (hbox); have n2_ := Aside0.mk ((by rw [hg]; exact (below_size (by repeat (first | (with_reducible first | exact HB.out | apply below_alloc | apply pw_below_drewN | apply below_drew1) | exact HB.out))) : w.heap.size ≤ gb162)); have n3_ := Aside0.mk ((by rw [hg]; exact (below_size (by repeat (first | (with_reducible first | exact HB.out | apply below_alloc | apply pw_below_drewN | apply below_drew1) | exact HB.out))) : w.heap.size ≤ gb162)); clear HB; have HB := n0_; have BK162 := n1_; have GW162 := n2_; have GE162 := n3_; clear n0_ n1_ n2_ n3_; clear hb hbox hg))
  (try simp only [Act.put, List.setIfInBounds_toArray, List.set_cons_zero, List.set_cons_succ])
  go_cut [31] (fun v31 wc => ∃ (kq : Nat) (x31_4 : Bool), v31 = .bool x31_4 ∧ Aside0 (lodgerlaw05_BlockOffsets.j0 kq a1 a2 a3 x31_4 a0_0 a0_1 l0_2 a0_3 a0_4 a0_5 a0_6 = some r) ∧ Aside0 (kq ≤ k) ∧ Aside0 (wc.heap[gb162]? = some (.cells #[.int .u32 a0_0, .int .i64 a0_1, (.slice A0_2 l0_2.length c0_2), .int .i64 a0_3, .int .i64 a0_4, .int .i64 a0_5, .int .i64 a0_6] 27 (0, 0))) ∧ Aside0 (Below w.heap.size w wc))
  case first =>
    have H := HC5.out
    clear HC5
    replace H := Option.bind_eq_some_iff.mp H
    obtain ⟨t163, A70, H⟩ := H
    replace H : (if t163 = true then ((lodgerref05_May.f k a0_0 a0_1 l0_2 a0_3 a0_4 a0_5 a0_6).bind fun t164 => (lodgerlaw05_BlockOffsets.j0 k a1 a2 a3 (!t164) a0_0 a0_1 l0_2 a0_3 a0_4 a0_5 a0_6)) else (lodgerlaw05_BlockOffsets.j0 k a1 a2 a3 true a0_0 a0_1 l0_2 a0_3 a0_4 a0_5 a0_6)) = some r := H
    have A7 := Aside0.mk A70
    clear A70
    by_cases c8 : t163 = true
    · subst c8
      have H1 : ((lodgerref05_May.f k a0_0 a0_1 l0_2 a0_3 a0_4 a0_5 a0_6).bind fun t164 => (lodgerlaw05_BlockOffsets.j0 k a1 a2 a3 (!t164) a0_0 a0_1 l0_2 a0_3 a0_4 a0_5 a0_6)) = some r := by rw [if_pos rfl] at H; exact H
      clear H
      have H := H1
      clear H1
      replace H := Option.bind_eq_some_iff.mp H
      obtain ⟨t164, A90, H⟩ := H
      replace H : (lodgerlaw05_BlockOffsets.j0 k a1 a2 a3 (!t164) a0_0 a0_1 l0_2 a0_3 a0_4 a0_5 a0_6) = some r := H
      have A9 := Aside0.mk A90
      clear A90
      have H' := Aside0.mk H
      clear H
      go_wp2_with (first | ((with_reducible refine gate_callee (f := 24) rfl ?_); refine goesL_ (some 25) rfl rfl Try.func24 (by kernel_rfl) rfl #[] rfl (by (try simp only [List.map_toArray, List.map_cons, List.map_nil]); first | done | rfl | (simp only [List.length_drop, List.length_take]; rfl)) ?_; (with_reducible refine (lodgerlaw05_awake.calls k  true _ A7.out).mono ?_); rintro e w10 ⟨rfl, hb⟩; refine ⟨_, rfl, ?_⟩; have n0_ := Aside0.mk (blk_below (g := gb162) (o := .cells #[.int .u32 a0_0, .int .i64 a0_1, .slice A0_2 l0_2.length c0_2, .int .i64 a0_3, .int .i64 a0_4, .int .i64 a0_5, .int .i64 a0_6] 27 (0, 0)) (by (with_reducible repeat (first | refine blk_drewN ?_ _ | refine blk_drew ?_ | refine blk_alloc ?_ _)); exact BK162.out) hb); have n1_ := Aside0.mk (below_step (by repeat (first | (with_reducible first | exact HB.out | apply below_alloc | apply pw_below_drewN | apply below_drew1 | refine below_set ?_ GE162.out) | exact HB.out)) hb); clear BK162; clear HB; have BK162 := n0_; have HB := n1_; clear n0_ n1_; (try clear hb); (try clear hb2); (try clear hk); (try clear hi); have hcz11_0 : w10.cell? ⟨gb162, 0, none⟩ = some (.int .u32 a0_0) := (blk_cell BK162.out 0).trans rfl; have hcz11_1 : w10.cell? ⟨gb162, 1, none⟩ = some (.int .i64 a0_1) := (blk_cell BK162.out 1).trans rfl; have hcz11_2 : w10.cell? ⟨gb162, 2, none⟩ = some (.slice A0_2 l0_2.length c0_2) := (blk_cell BK162.out 2).trans rfl; have hcz11_3 : w10.cell? ⟨gb162, 3, none⟩ = some (.int .i64 a0_3) := (blk_cell BK162.out 3).trans rfl; have hcz11_4 : w10.cell? ⟨gb162, 4, none⟩ = some (.int .i64 a0_4) := (blk_cell BK162.out 4).trans rfl; have hcz11_5 : w10.cell? ⟨gb162, 5, none⟩ = some (.int .i64 a0_5) := (blk_cell BK162.out 5).trans rfl; have hcz11_6 : w10.cell? ⟨gb162, 6, none⟩ = some (.int .i64 a0_6) := (blk_cell BK162.out 6).trans rfl; have hfz11_0 := blk_frozen BK162.out 0; have hfz11_1 := blk_frozen BK162.out 1; have hfz11_2 := blk_frozen BK162.out 2; have hfz11_3 := blk_frozen BK162.out 3; have hfz11_4 := blk_frozen BK162.out 4; have hfz11_5 := blk_frozen BK162.out 5; have hfz11_6 := blk_frozen BK162.out 6) | (go_at_call 26; (with_reducible refine (lodgerref05_May.calls k a0_0 a0_1 _ _ l0_2 a0_3 a0_4 a0_5 a0_6 t164 _ ?side1 ?side2 A9.out).mono ?_); (case side1 => repeat (first | exact (Kd.C_below HR0_2.out HB.out) | (with_reducible refine Kd.C_alloc ?_ _) | (with_reducible refine Kd.C_drewN ?_ _) | (with_reducible refine Kd.C_drew ?_))); (case side2 => exact HC0_2.out); rintro e w12 ⟨rfl, hb⟩; have n0_ := Aside0.mk (blk_below (g := gb162) (o := .cells #[.int .u32 a0_0, .int .i64 a0_1, .slice A0_2 l0_2.length c0_2, .int .i64 a0_3, .int .i64 a0_4, .int .i64 a0_5, .int .i64 a0_6] 27 (0, 0)) (by (with_reducible repeat (first | refine blk_drewN ?_ _ | refine blk_drew ?_ | refine blk_alloc ?_ _)); exact BK162.out) hb); have n1_ := Aside0.mk (below_step (by repeat (first | (with_reducible first | exact HB.out | apply below_alloc | apply pw_below_drewN | apply below_drew1 | refine below_set ?_ GE162.out) | exact HB.out)) hb); clear BK162; clear HB; have BK162 := n0_; have HB := n1_; clear n0_ n1_; (try clear hb); (try clear hb2); (try clear hk); (try clear hi)))
      go_meet
      case rel => exact ⟨_, (!t164), (by first | rfl | (simp; done) | (simp [*]; done)), H', ⟨by first | omega | exact Nat.le_refl _⟩, ⟨by (with_reducible repeat (first | refine blk_drewN ?_ _ | refine blk_drew ?_ | refine blk_alloc ?_ _)); exact BK162.out⟩, ⟨by repeat (first | (with_reducible first | exact HB.out | apply below_alloc | apply pw_below_drewN | apply below_drew1 | refine below_set ?_ GE162.out) | exact HB.out)⟩⟩
    · replace c8 := Bool.eq_false_iff.mpr c8
      subst c8
      have H1 : (lodgerlaw05_BlockOffsets.j0 k a1 a2 a3 true a0_0 a0_1 l0_2 a0_3 a0_4 a0_5 a0_6) = some r := by rw [if_neg (show ¬ (false = true) by decide)] at H; exact H
      clear H
      have H := H1
      clear H1
      have H' := Aside0.mk H
      clear H
      go_wp2_with (first | ((with_reducible refine gate_callee (f := 24) rfl ?_); refine goesL_ (some 25) rfl rfl Try.func24 (by kernel_rfl) rfl #[] rfl (by (try simp only [List.map_toArray, List.map_cons, List.map_nil]); first | done | rfl | (simp only [List.length_drop, List.length_take]; rfl)) ?_; (with_reducible refine (lodgerlaw05_awake.calls k  false _ A7.out).mono ?_); rintro e w13 ⟨rfl, hb⟩; refine ⟨_, rfl, ?_⟩; have n0_ := Aside0.mk (blk_below (g := gb162) (o := .cells #[.int .u32 a0_0, .int .i64 a0_1, .slice A0_2 l0_2.length c0_2, .int .i64 a0_3, .int .i64 a0_4, .int .i64 a0_5, .int .i64 a0_6] 27 (0, 0)) (by (with_reducible repeat (first | refine blk_drewN ?_ _ | refine blk_drew ?_ | refine blk_alloc ?_ _)); exact BK162.out) hb); have n1_ := Aside0.mk (below_step (by repeat (first | (with_reducible first | exact HB.out | apply below_alloc | apply pw_below_drewN | apply below_drew1 | refine below_set ?_ GE162.out) | exact HB.out)) hb); clear BK162; clear HB; have BK162 := n0_; have HB := n1_; clear n0_ n1_; (try clear hb); (try clear hb2); (try clear hk); (try clear hi)))
      go_meet
      case rel => exact ⟨_, (true), (by first | rfl | (simp; done) | (simp [*]; done)), H', ⟨by first | omega | exact Nat.le_refl _⟩, ⟨by (with_reducible repeat (first | refine blk_drewN ?_ _ | refine blk_drew ?_ | refine blk_alloc ?_ _)); exact BK162.out⟩, ⟨by repeat (first | (with_reducible first | exact HB.out | apply below_alloc | apply pw_below_drewN | apply below_drew1 | refine below_set ?_ GE162.out) | exact HB.out)⟩⟩
  case rest =>
    clear HC5
    try clear c2
    try clear p2
    try clear c8
    try clear c9
    try clear hcz11_0
    try clear hcz11_1
    try clear hcz11_2
    try clear hcz11_3
    try clear hcz11_4
    try clear hcz11_5
    try clear hcz11_6
    try clear hfz11_0
    try clear hfz11_1
    try clear hfz11_2
    try clear hfz11_3
    try clear hfz11_4
    try clear hfz11_5
    try clear hfz11_6
    obtain ⟨kq, x31_4, rfl, HA, HJ4, BK162, HB⟩ := hcut
    cases kq with
    | zero => exact absurd HA.out (by simp [lodgerlaw05_BlockOffsets.j0])
    | succ kj4 =>
      have H := HA.out
      clear HA
      simp only [lodgerlaw05_BlockOffsets.j0] at H
      by_cases c14 : x31_4 = true
      · subst c14
        have H1 : ((lodgerlaw05_awake.f kj4).bind fun t165 => (some t165)) = some r := by rw [if_pos rfl] at H; exact H
        clear H
        have H := H1
        clear H1
        replace H := Option.bind_eq_some_iff.mp H
        obtain ⟨t165, A150, H⟩ := H
        replace H : (some t165) = some r := H
        have A15 := Aside0.mk A150
        clear A150
        first | (exfalso; rw [hr_.out] at H; exact absurd (Option.some.inj H) (by decide)) | (try clear hr_)
        all_goals
          obtain rfl := Option.some.inj H
          go_wp2_with (first | ((with_reducible refine gate_callee (f := 24) rfl ?_); refine goesL_ (some 32) rfl rfl Try.func24 (by kernel_rfl) rfl #[] rfl (by (try simp only [List.map_toArray, List.map_cons, List.map_nil]); first | done | rfl | (simp only [List.length_drop, List.length_take]; rfl)) ?_; (with_reducible refine (lodgerlaw05_awake.calls kj4  t165 _ A15.out).mono ?_); rintro e w16 ⟨rfl, hb⟩; refine ⟨_, rfl, ?_⟩; have n0_ := Aside0.mk (blk_below (g := gb162) (o := .cells #[.int .u32 a0_0, .int .i64 a0_1, .slice A0_2 l0_2.length c0_2, .int .i64 a0_3, .int .i64 a0_4, .int .i64 a0_5, .int .i64 a0_6] 27 (0, 0)) (by (with_reducible repeat (first | refine blk_drewN ?_ _ | refine blk_drew ?_ | refine blk_alloc ?_ _)); exact BK162.out) hb); have n1_ := Aside0.mk (below_step (by repeat (first | (with_reducible first | exact HB.out | apply below_alloc | apply pw_below_drewN | apply below_drew1 | refine below_set ?_ GE162.out) | exact HB.out)) hb); clear BK162; clear HB; have BK162 := n0_; have HB := n1_; clear n0_ n1_; (try clear hb); (try clear hb2); (try clear hk); (try clear hi)))
          go_ret
          exact ⟨by first | rfl | (simp [errW_none, errW_some] <;> rfl) | (simp [*, errW_none, errW_some] <;> rfl), by repeat (first | (with_reducible first | exact HB.out | apply below_alloc | apply pw_below_drewN | apply below_drew1 | refine below_set ?_ GE162.out) | exact HB.out)⟩
      · replace c14 := Bool.eq_false_iff.mpr c14
        subst c14
        have H1 : ((block_Many.f a0_0 a0_1).bind fun t166 => (if t166 = 0 then (none) else ((block_Address.f a0_0 a0_1 (Int.tmod (wrap64 (a2)) t166)).bind fun t167 => ((block_Offset.f a0_0 a0_1 t167).bind fun bt168 => (if bt168.2 = 0 then (if bt168.1 = (Int.tmod (wrap64 (a2)) t166) then ((block_Address.f a0_0 a0_1 (Int.tmod (wrap64 (a3)) t166)).bind fun t170 => (lodgerlaw05_BlockOffsets.j1 kj4 a1 t166 ((t167 == t170) != ((Int.tmod (wrap64 (a2)) t166) == (Int.tmod (wrap64 (a3)) t166))) a0_0 a0_1 l0_2 a0_3 a0_4 a0_5 a0_6)) else (lodgerlaw05_BlockOffsets.j1 kj4 a1 t166 true a0_0 a0_1 l0_2 a0_3 a0_4 a0_5 a0_6)) else (lodgerlaw05_BlockOffsets.j1 kj4 a1 t166 true a0_0 a0_1 l0_2 a0_3 a0_4 a0_5 a0_6)))))) = some r := by rw [if_neg (show ¬ (false = true) by decide)] at H; exact H
        clear H
        have H := H1
        clear H1
        replace H := Option.bind_eq_some_iff.mp H
        obtain ⟨t166, A170, H⟩ := H
        replace H : (if t166 = 0 then (none) else ((block_Address.f a0_0 a0_1 (Int.tmod (wrap64 (a2)) t166)).bind fun t167 => ((block_Offset.f a0_0 a0_1 t167).bind fun bt168 => (if bt168.2 = 0 then (if bt168.1 = (Int.tmod (wrap64 (a2)) t166) then ((block_Address.f a0_0 a0_1 (Int.tmod (wrap64 (a3)) t166)).bind fun t170 => (lodgerlaw05_BlockOffsets.j1 kj4 a1 t166 ((t167 == t170) != ((Int.tmod (wrap64 (a2)) t166) == (Int.tmod (wrap64 (a3)) t166))) a0_0 a0_1 l0_2 a0_3 a0_4 a0_5 a0_6)) else (lodgerlaw05_BlockOffsets.j1 kj4 a1 t166 true a0_0 a0_1 l0_2 a0_3 a0_4 a0_5 a0_6)) else (lodgerlaw05_BlockOffsets.j1 kj4 a1 t166 true a0_0 a0_1 l0_2 a0_3 a0_4 a0_5 a0_6))))) = some r := H
        have A17 := Aside0.mk A170
        clear A170
        by_cases c18 : t166 = 0
        · rw [if_pos c18] at H
          exact absurd H (by simp)
        · rw [if_neg c18] at H
          have c18b0 : (t166 == 0) = false := beq_eq_false_iff_ne.mpr c18
          have c18b1 : (t166 != 0) = true := bne_iff_ne.mpr c18
          replace H := Option.bind_eq_some_iff.mp H
          obtain ⟨t167, A190, H⟩ := H
          replace H : ((block_Offset.f a0_0 a0_1 t167).bind fun bt168 => (if bt168.2 = 0 then (if bt168.1 = (Int.tmod (wrap64 (a2)) t166) then ((block_Address.f a0_0 a0_1 (Int.tmod (wrap64 (a3)) t166)).bind fun t170 => (lodgerlaw05_BlockOffsets.j1 kj4 a1 t166 ((t167 == t170) != ((Int.tmod (wrap64 (a2)) t166) == (Int.tmod (wrap64 (a3)) t166))) a0_0 a0_1 l0_2 a0_3 a0_4 a0_5 a0_6)) else (lodgerlaw05_BlockOffsets.j1 kj4 a1 t166 true a0_0 a0_1 l0_2 a0_3 a0_4 a0_5 a0_6)) else (lodgerlaw05_BlockOffsets.j1 kj4 a1 t166 true a0_0 a0_1 l0_2 a0_3 a0_4 a0_5 a0_6))) = some r := H
          have A19 := Aside0.mk A190
          clear A190
          replace H := Option.bind_eq_some_iff.mp H
          obtain ⟨⟨t168, t169⟩, A200, H⟩ := H
          replace H : (if t169 = 0 then (if t168 = (Int.tmod (wrap64 (a2)) t166) then ((block_Address.f a0_0 a0_1 (Int.tmod (wrap64 (a3)) t166)).bind fun t170 => (lodgerlaw05_BlockOffsets.j1 kj4 a1 t166 ((t167 == t170) != ((Int.tmod (wrap64 (a2)) t166) == (Int.tmod (wrap64 (a3)) t166))) a0_0 a0_1 l0_2 a0_3 a0_4 a0_5 a0_6)) else (lodgerlaw05_BlockOffsets.j1 kj4 a1 t166 true a0_0 a0_1 l0_2 a0_3 a0_4 a0_5 a0_6)) else (lodgerlaw05_BlockOffsets.j1 kj4 a1 t166 true a0_0 a0_1 l0_2 a0_3 a0_4 a0_5 a0_6)) = some r := H
          have A20 := Aside0.mk A200
          clear A200
          have HC21 := Aside0.mk H
          clear H
          have hcz22_0 : wc.cell? ⟨gb162, 0, none⟩ = some (.int .u32 a0_0) := (blk_cell BK162.out 0).trans rfl
          have hcz22_1 : wc.cell? ⟨gb162, 1, none⟩ = some (.int .i64 a0_1) := (blk_cell BK162.out 1).trans rfl
          have hcz22_2 : wc.cell? ⟨gb162, 2, none⟩ = some (.slice A0_2 l0_2.length c0_2) := (blk_cell BK162.out 2).trans rfl
          have hcz22_3 : wc.cell? ⟨gb162, 3, none⟩ = some (.int .i64 a0_3) := (blk_cell BK162.out 3).trans rfl
          have hcz22_4 : wc.cell? ⟨gb162, 4, none⟩ = some (.int .i64 a0_4) := (blk_cell BK162.out 4).trans rfl
          have hcz22_5 : wc.cell? ⟨gb162, 5, none⟩ = some (.int .i64 a0_5) := (blk_cell BK162.out 5).trans rfl
          have hcz22_6 : wc.cell? ⟨gb162, 6, none⟩ = some (.int .i64 a0_6) := (blk_cell BK162.out 6).trans rfl
          have hfz22_0 := blk_frozen BK162.out 0
          have hfz22_1 := blk_frozen BK162.out 1
          have hfz22_2 := blk_frozen BK162.out 2
          have hfz22_3 := blk_frozen BK162.out 3
          have hfz22_4 := blk_frozen BK162.out 4
          have hfz22_5 := blk_frozen BK162.out 5
          have hfz22_6 := blk_frozen BK162.out 6
          go_upto_region 8 with (first | ((with_reducible refine gate_callee (f := 31) rfl ?_); refine goesL_ (some 35) rfl rfl Try.func31 (by kernel_rfl) rfl #[.agg #[.int .u32 a0_0, .int .i64 a0_1]] rfl (by (try simp only [List.map_toArray, List.map_cons, List.map_nil]); first | done | rfl | (simp only [List.length_drop, List.length_take]; rfl)) ?_; (with_reducible refine (block_Many.calls a0_0 a0_1 t166 _ A17.out).mono ?_); rintro e w23 ⟨rfl, hb⟩; refine ⟨_, rfl, ?_⟩; have n0_ := Aside0.mk (blk_below (g := gb162) (o := .cells #[.int .u32 a0_0, .int .i64 a0_1, .slice A0_2 l0_2.length c0_2, .int .i64 a0_3, .int .i64 a0_4, .int .i64 a0_5, .int .i64 a0_6] 27 (0, 0)) (by (with_reducible repeat (first | refine blk_drewN ?_ _ | refine blk_drew ?_ | refine blk_alloc ?_ _)); exact BK162.out) hb); have n1_ := Aside0.mk (below_step (by repeat (first | (with_reducible first | exact HB.out | apply below_alloc | apply pw_below_drewN | apply below_drew1 | refine below_set ?_ GE162.out) | exact HB.out)) hb); clear BK162; clear HB; have BK162 := n0_; have HB := n1_; clear n0_ n1_; (try clear hb); (try clear hb2); (try clear hk); (try clear hi); have hcz24_0 : w23.cell? ⟨gb162, 0, none⟩ = some (.int .u32 a0_0) := (blk_cell BK162.out 0).trans rfl; have hcz24_1 : w23.cell? ⟨gb162, 1, none⟩ = some (.int .i64 a0_1) := (blk_cell BK162.out 1).trans rfl; have hcz24_2 : w23.cell? ⟨gb162, 2, none⟩ = some (.slice A0_2 l0_2.length c0_2) := (blk_cell BK162.out 2).trans rfl; have hcz24_3 : w23.cell? ⟨gb162, 3, none⟩ = some (.int .i64 a0_3) := (blk_cell BK162.out 3).trans rfl; have hcz24_4 : w23.cell? ⟨gb162, 4, none⟩ = some (.int .i64 a0_4) := (blk_cell BK162.out 4).trans rfl; have hcz24_5 : w23.cell? ⟨gb162, 5, none⟩ = some (.int .i64 a0_5) := (blk_cell BK162.out 5).trans rfl; have hcz24_6 : w23.cell? ⟨gb162, 6, none⟩ = some (.int .i64 a0_6) := (blk_cell BK162.out 6).trans rfl; have hfz24_0 := blk_frozen BK162.out 0; have hfz24_1 := blk_frozen BK162.out 1; have hfz24_2 := blk_frozen BK162.out 2; have hfz24_3 := blk_frozen BK162.out 3; have hfz24_4 := blk_frozen BK162.out 4; have hfz24_5 := blk_frozen BK162.out 5; have hfz24_6 := blk_frozen BK162.out 6) | ((with_reducible refine gate_callee (f := 36) rfl ?_); refine goesL_ (some 47) rfl rfl Try.func36 (by kernel_rfl) rfl #[.agg #[.int .u32 a0_0, .int .i64 a0_1], .int .i64 (Int.tmod (wrap64 (a2)) t166)] rfl (by (try simp only [List.map_toArray, List.map_cons, List.map_nil]); first | done | rfl | (simp only [List.length_drop, List.length_take]; rfl)) ?_; (with_reducible refine (block_Address.calls a0_0 a0_1 (Int.tmod (wrap64 (a2)) t166) t167 _ A19.out).mono ?_); rintro e w25 ⟨rfl, hb⟩; refine ⟨_, rfl, ?_⟩; have n0_ := Aside0.mk (blk_below (g := gb162) (o := .cells #[.int .u32 a0_0, .int .i64 a0_1, .slice A0_2 l0_2.length c0_2, .int .i64 a0_3, .int .i64 a0_4, .int .i64 a0_5, .int .i64 a0_6] 27 (0, 0)) (by (with_reducible repeat (first | refine blk_drewN ?_ _ | refine blk_drew ?_ | refine blk_alloc ?_ _)); exact BK162.out) hb); have n1_ := Aside0.mk (below_step (by repeat (first | (with_reducible first | exact HB.out | apply below_alloc | apply pw_below_drewN | apply below_drew1 | refine below_set ?_ GE162.out) | exact HB.out)) hb); clear BK162; clear HB; have BK162 := n0_; have HB := n1_; clear n0_ n1_; (try clear hb); (try clear hb2); (try clear hk); (try clear hi); have hcz26_0 : w25.cell? ⟨gb162, 0, none⟩ = some (.int .u32 a0_0) := (blk_cell BK162.out 0).trans rfl; have hcz26_1 : w25.cell? ⟨gb162, 1, none⟩ = some (.int .i64 a0_1) := (blk_cell BK162.out 1).trans rfl; have hcz26_2 : w25.cell? ⟨gb162, 2, none⟩ = some (.slice A0_2 l0_2.length c0_2) := (blk_cell BK162.out 2).trans rfl; have hcz26_3 : w25.cell? ⟨gb162, 3, none⟩ = some (.int .i64 a0_3) := (blk_cell BK162.out 3).trans rfl; have hcz26_4 : w25.cell? ⟨gb162, 4, none⟩ = some (.int .i64 a0_4) := (blk_cell BK162.out 4).trans rfl; have hcz26_5 : w25.cell? ⟨gb162, 5, none⟩ = some (.int .i64 a0_5) := (blk_cell BK162.out 5).trans rfl; have hcz26_6 : w25.cell? ⟨gb162, 6, none⟩ = some (.int .i64 a0_6) := (blk_cell BK162.out 6).trans rfl; have hfz26_0 := blk_frozen BK162.out 0; have hfz26_1 := blk_frozen BK162.out 1; have hfz26_2 := blk_frozen BK162.out 2; have hfz26_3 := blk_frozen BK162.out 3; have hfz26_4 := blk_frozen BK162.out 4; have hfz26_5 := blk_frozen BK162.out 5; have hfz26_6 := blk_frozen BK162.out 6) | ((with_reducible refine gate_callee (f := 27) rfl ?_); refine goesL_ (some 52) rfl rfl Try.func27 (by kernel_rfl) rfl #[.agg #[.int .u32 a0_0, .int .i64 a0_1], .int .u32 t167] rfl (by (try simp only [List.map_toArray, List.map_cons, List.map_nil]); first | done | rfl | (simp only [List.length_drop, List.length_take]; rfl)) ?_; (with_reducible refine (block_Offset.calls a0_0 a0_1 t167 t168 t169 _ A20.out).mono ?_); rintro e w27 ⟨rfl, hb⟩; refine ⟨_, rfl, ?_⟩; have n0_ := Aside0.mk (blk_below (g := gb162) (o := .cells #[.int .u32 a0_0, .int .i64 a0_1, .slice A0_2 l0_2.length c0_2, .int .i64 a0_3, .int .i64 a0_4, .int .i64 a0_5, .int .i64 a0_6] 27 (0, 0)) (by (with_reducible repeat (first | refine blk_drewN ?_ _ | refine blk_drew ?_ | refine blk_alloc ?_ _)); exact BK162.out) hb); have n1_ := Aside0.mk (below_step (by repeat (first | (with_reducible first | exact HB.out | apply below_alloc | apply pw_below_drewN | apply below_drew1 | refine below_set ?_ GE162.out) | exact HB.out)) hb); clear BK162; clear HB; have BK162 := n0_; have HB := n1_; clear n0_ n1_; (try clear hb); (try clear hb2); (try clear hk); (try clear hi)))
          (try simp only [Act.put, List.setIfInBounds_toArray, List.set_cons_zero, List.set_cons_succ])
          go_cut [73] (fun v73 wc => ∃ (kq : Nat) (x73_20 : Bool), v73 = .bool x73_20 ∧ Aside0 (lodgerlaw05_BlockOffsets.j1 kq a1 t166 x73_20 a0_0 a0_1 l0_2 a0_3 a0_4 a0_5 a0_6 = some r) ∧ Aside0 (kq ≤ kj4) ∧ Aside0 (wc.heap[gb162]? = some (.cells #[.int .u32 a0_0, .int .i64 a0_1, (.slice A0_2 l0_2.length c0_2), .int .i64 a0_3, .int .i64 a0_4, .int .i64 a0_5, .int .i64 a0_6] 27 (0, 0))) ∧ Aside0 (Below w.heap.size w wc))
          case first =>
            have H := HC21.out
            clear HC21
            by_cases c28 : t169 = 0
            · rw [if_pos c28] at H
              have c28b0 : (t169 == 0) = true := beq_iff_eq.mpr c28
              have c28b1 : (t169 != 0) = false := bne_eq_false_iff_eq.mpr c28
              clear c28
              (first | rw [c28b0] | (simp only [i64_w, i32_w]; rw [c28b0]) | skip)
              by_cases c29 : t168 = (Int.tmod (wrap64 (a2)) t166)
              · rw [if_pos c29] at H
                have c29b0 : (t168 == (Int.tmod (wrap64 (a2)) t166)) = true := beq_iff_eq.mpr c29
                have c29b1 : (t168 != (Int.tmod (wrap64 (a2)) t166)) = false := bne_eq_false_iff_eq.mpr c29
                clear c29
                replace H := Option.bind_eq_some_iff.mp H
                obtain ⟨t170, A300, H⟩ := H
                replace H : (lodgerlaw05_BlockOffsets.j1 kj4 a1 t166 ((t167 == t170) != ((Int.tmod (wrap64 (a2)) t166) == (Int.tmod (wrap64 (a3)) t166))) a0_0 a0_1 l0_2 a0_3 a0_4 a0_5 a0_6) = some r := H
                have A30 := Aside0.mk A300
                clear A300
                have H' := Aside0.mk H
                clear H
                have hcz31_0 : w27.cell? ⟨gb162, 0, none⟩ = some (.int .u32 a0_0) := (blk_cell BK162.out 0).trans rfl
                have hcz31_1 : w27.cell? ⟨gb162, 1, none⟩ = some (.int .i64 a0_1) := (blk_cell BK162.out 1).trans rfl
                have hcz31_2 : w27.cell? ⟨gb162, 2, none⟩ = some (.slice A0_2 l0_2.length c0_2) := (blk_cell BK162.out 2).trans rfl
                have hcz31_3 : w27.cell? ⟨gb162, 3, none⟩ = some (.int .i64 a0_3) := (blk_cell BK162.out 3).trans rfl
                have hcz31_4 : w27.cell? ⟨gb162, 4, none⟩ = some (.int .i64 a0_4) := (blk_cell BK162.out 4).trans rfl
                have hcz31_5 : w27.cell? ⟨gb162, 5, none⟩ = some (.int .i64 a0_5) := (blk_cell BK162.out 5).trans rfl
                have hcz31_6 : w27.cell? ⟨gb162, 6, none⟩ = some (.int .i64 a0_6) := (blk_cell BK162.out 6).trans rfl
                have hfz31_0 := blk_frozen BK162.out 0
                have hfz31_1 := blk_frozen BK162.out 1
                have hfz31_2 := blk_frozen BK162.out 2
                have hfz31_3 := blk_frozen BK162.out 3
                have hfz31_4 := blk_frozen BK162.out 4
                have hfz31_5 := blk_frozen BK162.out 5
                have hfz31_6 := blk_frozen BK162.out 6
                go_wp2_with (first | (go_at_call 36; (with_reducible refine (block_Address.calls a0_0 a0_1 (Int.tmod (wrap64 (a3)) t166) t170 _ A30.out).mono ?_); rintro e w32 ⟨rfl, hb⟩; have n0_ := Aside0.mk (blk_below (g := gb162) (o := .cells #[.int .u32 a0_0, .int .i64 a0_1, .slice A0_2 l0_2.length c0_2, .int .i64 a0_3, .int .i64 a0_4, .int .i64 a0_5, .int .i64 a0_6] 27 (0, 0)) (by (with_reducible repeat (first | refine blk_drewN ?_ _ | refine blk_drew ?_ | refine blk_alloc ?_ _)); exact BK162.out) hb); have n1_ := Aside0.mk (below_step (by repeat (first | (with_reducible first | exact HB.out | apply below_alloc | apply pw_below_drewN | apply below_drew1 | refine below_set ?_ GE162.out) | exact HB.out)) hb); clear BK162; clear HB; have BK162 := n0_; have HB := n1_; clear n0_ n1_; (try clear hb); (try clear hb2); (try clear hk); (try clear hi)))
                go_meet
                case rel => exact ⟨_, (((t167 == t170) != ((Int.tmod (wrap64 (a2)) t166) == (Int.tmod (wrap64 (a3)) t166)))), (by first | rfl | (simp; done) | (simp [*]; done)), H', ⟨by have := HJ4.out; first | omega | exact Nat.le_refl _⟩, ⟨by (with_reducible repeat (first | refine blk_drewN ?_ _ | refine blk_drew ?_ | refine blk_alloc ?_ _)); exact BK162.out⟩, ⟨by repeat (first | (with_reducible first | exact HB.out | apply below_alloc | apply pw_below_drewN | apply below_drew1 | refine below_set ?_ GE162.out) | exact HB.out)⟩⟩
              · rw [if_neg c29] at H
                have c29b0 : (t168 == (Int.tmod (wrap64 (a2)) t166)) = false := beq_eq_false_iff_ne.mpr c29
                have c29b1 : (t168 != (Int.tmod (wrap64 (a2)) t166)) = true := bne_iff_ne.mpr c29
                have H' := Aside0.mk H
                clear H
                go_wp2
                go_meet
                case rel => exact ⟨_, (true), (by first | rfl | (simp; done) | (simp [*]; done)), H', ⟨by have := HJ4.out; first | omega | exact Nat.le_refl _⟩, ⟨by (with_reducible repeat (first | refine blk_drewN ?_ _ | refine blk_drew ?_ | refine blk_alloc ?_ _)); exact BK162.out⟩, ⟨by repeat (first | (with_reducible first | exact HB.out | apply below_alloc | apply pw_below_drewN | apply below_drew1 | refine below_set ?_ GE162.out) | exact HB.out)⟩⟩
            · rw [if_neg c28] at H
              have c28b0 : (t169 == 0) = false := beq_eq_false_iff_ne.mpr c28
              have c28b1 : (t169 != 0) = true := bne_iff_ne.mpr c28
              (first | rw [c28b0] | (simp only [i64_w, i32_w]; rw [c28b0]) | skip)
              have H' := Aside0.mk H
              clear H
              go_wp2
              go_meet
              case rel => exact ⟨_, (true), (by first | rfl | (simp; done) | (simp [*]; done)), H', ⟨by have := HJ4.out; first | omega | exact Nat.le_refl _⟩, ⟨by (with_reducible repeat (first | refine blk_drewN ?_ _ | refine blk_drew ?_ | refine blk_alloc ?_ _)); exact BK162.out⟩, ⟨by repeat (first | (with_reducible first | exact HB.out | apply below_alloc | apply pw_below_drewN | apply below_drew1 | refine below_set ?_ GE162.out) | exact HB.out)⟩⟩
          case rest =>
            clear HC21
            try clear c1
            try clear c2
            try clear p2
            try clear c3
            try clear p6
            try clear c8
            try clear c9
            try clear c14
            try clear c18
            try clear c18b0
            try clear c18b1
            try clear c24
            try clear c27
            try clear c28
            try clear c28b0
            try clear c28b1
            try clear c29
            try clear c29b0
            try clear c29b1
            try clear c31
            try clear hcz11_0
            try clear hcz11_1
            try clear hcz11_2
            try clear hcz11_3
            try clear hcz11_4
            try clear hcz11_5
            try clear hcz11_6
            try clear hcz22_0
            try clear hcz22_1
            try clear hcz22_2
            try clear hcz22_3
            try clear hcz22_4
            try clear hcz22_5
            try clear hcz22_6
            try clear hcz24_0
            try clear hcz24_1
            try clear hcz24_2
            try clear hcz24_3
            try clear hcz24_4
            try clear hcz24_5
            try clear hcz24_6
            try clear hcz26_0
            try clear hcz26_1
            try clear hcz26_2
            try clear hcz26_3
            try clear hcz26_4
            try clear hcz26_5
            try clear hcz26_6
            try clear hcz31_0
            try clear hcz31_1
            try clear hcz31_2
            try clear hcz31_3
            try clear hcz31_4
            try clear hcz31_5
            try clear hcz31_6
            try clear hfz11_0
            try clear hfz11_1
            try clear hfz11_2
            try clear hfz11_3
            try clear hfz11_4
            try clear hfz11_5
            try clear hfz11_6
            try clear hfz22_0
            try clear hfz22_1
            try clear hfz22_2
            try clear hfz22_3
            try clear hfz22_4
            try clear hfz22_5
            try clear hfz22_6
            try clear hfz24_0
            try clear hfz24_1
            try clear hfz24_2
            try clear hfz24_3
            try clear hfz24_4
            try clear hfz24_5
            try clear hfz24_6
            try clear hfz26_0
            try clear hfz26_1
            try clear hfz26_2
            try clear hfz26_3
            try clear hfz26_4
            try clear hfz26_5
            try clear hfz26_6
            try clear hfz31_0
            try clear hfz31_1
            try clear hfz31_2
            try clear hfz31_3
            try clear hfz31_4
            try clear hfz31_5
            try clear hfz31_6
            try clear p2
            obtain ⟨kq, x73_20, rfl, HA, HJ20, BK162, HB⟩ := hcut
            cases kq with
            | zero => exact absurd HA.out (by simp [lodgerlaw05_BlockOffsets.j1])
            | succ kj20 =>
              have H := HA.out
              clear HA
              simp only [lodgerlaw05_BlockOffsets.j1] at H
              by_cases c33 : x73_20 = true
              · subst c33
                have H1 : (some false) = some r := by rw [if_pos rfl] at H; exact H
                rw [hr_.out] at H1
                exact absurd (Option.some.inj H1) (by decide)
              · replace c33 := Bool.eq_false_iff.mpr c33
                subst c33
                have H1 : ((block_Offset.f a0_0 a0_1 ((a0_0 - 1) % 4294967296)).bind fun bt171 => ((block_Offset.f a0_0 a0_1 ((a0_0 + (t166)) % 4294967296)).bind fun bt173 => ((block_Offset.f a0_0 a0_1 a1).bind fun bt175 => (if bt171.2 = 3 then (if bt173.2 = 3 then (if bt175.2 = 0 then ((block_Address.f a0_0 a0_1 bt175.1).bind fun t177 => (lodgerlaw05_BlockOffsets.j2 kj20 a1 bt175.1 bt175.2 (t177 != a1) a0_0 a0_1 l0_2 a0_3 a0_4 a0_5 a0_6)) else (lodgerlaw05_BlockOffsets.j2 kj20 a1 bt175.1 bt175.2 false a0_0 a0_1 l0_2 a0_3 a0_4 a0_5 a0_6)) else (lodgerlaw05_BlockOffsets.j2 kj20 a1 bt175.1 bt175.2 true a0_0 a0_1 l0_2 a0_3 a0_4 a0_5 a0_6)) else (lodgerlaw05_BlockOffsets.j2 kj20 a1 bt175.1 bt175.2 true a0_0 a0_1 l0_2 a0_3 a0_4 a0_5 a0_6))))) = some r := by rw [if_neg (show ¬ (false = true) by decide)] at H; exact H
                clear H
                have H := H1
                clear H1
                replace H := Option.bind_eq_some_iff.mp H
                obtain ⟨⟨t171, t172⟩, A340, H⟩ := H
                replace H : ((block_Offset.f a0_0 a0_1 ((a0_0 + (t166)) % 4294967296)).bind fun bt173 => ((block_Offset.f a0_0 a0_1 a1).bind fun bt175 => (if t172 = 3 then (if bt173.2 = 3 then (if bt175.2 = 0 then ((block_Address.f a0_0 a0_1 bt175.1).bind fun t177 => (lodgerlaw05_BlockOffsets.j2 kj20 a1 bt175.1 bt175.2 (t177 != a1) a0_0 a0_1 l0_2 a0_3 a0_4 a0_5 a0_6)) else (lodgerlaw05_BlockOffsets.j2 kj20 a1 bt175.1 bt175.2 false a0_0 a0_1 l0_2 a0_3 a0_4 a0_5 a0_6)) else (lodgerlaw05_BlockOffsets.j2 kj20 a1 bt175.1 bt175.2 true a0_0 a0_1 l0_2 a0_3 a0_4 a0_5 a0_6)) else (lodgerlaw05_BlockOffsets.j2 kj20 a1 bt175.1 bt175.2 true a0_0 a0_1 l0_2 a0_3 a0_4 a0_5 a0_6)))) = some r := H
                have A34 := Aside0.mk A340
                clear A340
                replace H := Option.bind_eq_some_iff.mp H
                obtain ⟨⟨t173, t174⟩, A350, H⟩ := H
                replace H : ((block_Offset.f a0_0 a0_1 a1).bind fun bt175 => (if t172 = 3 then (if t174 = 3 then (if bt175.2 = 0 then ((block_Address.f a0_0 a0_1 bt175.1).bind fun t177 => (lodgerlaw05_BlockOffsets.j2 kj20 a1 bt175.1 bt175.2 (t177 != a1) a0_0 a0_1 l0_2 a0_3 a0_4 a0_5 a0_6)) else (lodgerlaw05_BlockOffsets.j2 kj20 a1 bt175.1 bt175.2 false a0_0 a0_1 l0_2 a0_3 a0_4 a0_5 a0_6)) else (lodgerlaw05_BlockOffsets.j2 kj20 a1 bt175.1 bt175.2 true a0_0 a0_1 l0_2 a0_3 a0_4 a0_5 a0_6)) else (lodgerlaw05_BlockOffsets.j2 kj20 a1 bt175.1 bt175.2 true a0_0 a0_1 l0_2 a0_3 a0_4 a0_5 a0_6))) = some r := H
                have A35 := Aside0.mk A350
                clear A350
                replace H := Option.bind_eq_some_iff.mp H
                obtain ⟨⟨t175, t176⟩, A360, H⟩ := H
                replace H : (if t172 = 3 then (if t174 = 3 then (if t176 = 0 then ((block_Address.f a0_0 a0_1 t175).bind fun t177 => (lodgerlaw05_BlockOffsets.j2 kj20 a1 t175 t176 (t177 != a1) a0_0 a0_1 l0_2 a0_3 a0_4 a0_5 a0_6)) else (lodgerlaw05_BlockOffsets.j2 kj20 a1 t175 t176 false a0_0 a0_1 l0_2 a0_3 a0_4 a0_5 a0_6)) else (lodgerlaw05_BlockOffsets.j2 kj20 a1 t175 t176 true a0_0 a0_1 l0_2 a0_3 a0_4 a0_5 a0_6)) else (lodgerlaw05_BlockOffsets.j2 kj20 a1 t175 t176 true a0_0 a0_1 l0_2 a0_3 a0_4 a0_5 a0_6)) = some r := H
                have A36 := Aside0.mk A360
                clear A360
                have HC37 := Aside0.mk H
                clear H
                have hcz38_0 : wc.cell? ⟨gb162, 0, none⟩ = some (.int .u32 a0_0) := (blk_cell BK162.out 0).trans rfl
                have hcz38_1 : wc.cell? ⟨gb162, 1, none⟩ = some (.int .i64 a0_1) := (blk_cell BK162.out 1).trans rfl
                have hcz38_2 : wc.cell? ⟨gb162, 2, none⟩ = some (.slice A0_2 l0_2.length c0_2) := (blk_cell BK162.out 2).trans rfl
                have hcz38_3 : wc.cell? ⟨gb162, 3, none⟩ = some (.int .i64 a0_3) := (blk_cell BK162.out 3).trans rfl
                have hcz38_4 : wc.cell? ⟨gb162, 4, none⟩ = some (.int .i64 a0_4) := (blk_cell BK162.out 4).trans rfl
                have hcz38_5 : wc.cell? ⟨gb162, 5, none⟩ = some (.int .i64 a0_5) := (blk_cell BK162.out 5).trans rfl
                have hcz38_6 : wc.cell? ⟨gb162, 6, none⟩ = some (.int .i64 a0_6) := (blk_cell BK162.out 6).trans rfl
                have hfz38_0 := blk_frozen BK162.out 0
                have hfz38_1 := blk_frozen BK162.out 1
                have hfz38_2 := blk_frozen BK162.out 2
                have hfz38_3 := blk_frozen BK162.out 3
                have hfz38_4 := blk_frozen BK162.out 4
                have hfz38_5 := blk_frozen BK162.out 5
                have hfz38_6 := blk_frozen BK162.out 6
                go_upto_region 15 with (first | ((with_reducible refine gate_callee (f := 27) rfl ?_); refine goesL_ (some 88) rfl rfl Try.func27 (by kernel_rfl) rfl #[.agg #[.int .u32 a0_0, .int .i64 a0_1], .int .u32 ((a0_0 - 1) % 4294967296)] rfl (by (try simp only [List.map_toArray, List.map_cons, List.map_nil]); first | done | rfl | (simp only [List.length_drop, List.length_take]; rfl)) ?_; (with_reducible refine (block_Offset.calls a0_0 a0_1 ((a0_0 - 1) % 4294967296) t171 t172 _ A34.out).mono ?_); rintro e w39 ⟨rfl, hb⟩; refine ⟨_, rfl, ?_⟩; have n0_ := Aside0.mk (blk_below (g := gb162) (o := .cells #[.int .u32 a0_0, .int .i64 a0_1, .slice A0_2 l0_2.length c0_2, .int .i64 a0_3, .int .i64 a0_4, .int .i64 a0_5, .int .i64 a0_6] 27 (0, 0)) (by (with_reducible repeat (first | refine blk_drewN ?_ _ | refine blk_drew ?_ | refine blk_alloc ?_ _)); exact BK162.out) hb); have n1_ := Aside0.mk (below_step (by repeat (first | (with_reducible first | exact HB.out | apply below_alloc | apply pw_below_drewN | apply below_drew1 | refine below_set ?_ GE162.out) | exact HB.out)) hb); clear BK162; clear HB; have BK162 := n0_; have HB := n1_; clear n0_ n1_; (try clear hb); (try clear hb2); (try clear hk); (try clear hi); have hcz40_0 : w39.cell? ⟨gb162, 0, none⟩ = some (.int .u32 a0_0) := (blk_cell BK162.out 0).trans rfl; have hcz40_1 : w39.cell? ⟨gb162, 1, none⟩ = some (.int .i64 a0_1) := (blk_cell BK162.out 1).trans rfl; have hcz40_2 : w39.cell? ⟨gb162, 2, none⟩ = some (.slice A0_2 l0_2.length c0_2) := (blk_cell BK162.out 2).trans rfl; have hcz40_3 : w39.cell? ⟨gb162, 3, none⟩ = some (.int .i64 a0_3) := (blk_cell BK162.out 3).trans rfl; have hcz40_4 : w39.cell? ⟨gb162, 4, none⟩ = some (.int .i64 a0_4) := (blk_cell BK162.out 4).trans rfl; have hcz40_5 : w39.cell? ⟨gb162, 5, none⟩ = some (.int .i64 a0_5) := (blk_cell BK162.out 5).trans rfl; have hcz40_6 : w39.cell? ⟨gb162, 6, none⟩ = some (.int .i64 a0_6) := (blk_cell BK162.out 6).trans rfl; have hfz40_0 := blk_frozen BK162.out 0; have hfz40_1 := blk_frozen BK162.out 1; have hfz40_2 := blk_frozen BK162.out 2; have hfz40_3 := blk_frozen BK162.out 3; have hfz40_4 := blk_frozen BK162.out 4; have hfz40_5 := blk_frozen BK162.out 5; have hfz40_6 := blk_frozen BK162.out 6) | ((with_reducible refine gate_callee (f := 27) rfl ?_); refine goesL_ (some 95) rfl rfl Try.func27 (by kernel_rfl) rfl #[.agg #[.int .u32 a0_0, .int .i64 a0_1], .int .u32 ((a0_0 + (t166)) % 4294967296)] rfl (by (try simp only [List.map_toArray, List.map_cons, List.map_nil]); first | done | rfl | (simp only [List.length_drop, List.length_take]; rfl)) ?_; (with_reducible refine (block_Offset.calls a0_0 a0_1 ((a0_0 + (t166)) % 4294967296) t173 t174 _ A35.out).mono ?_); rintro e w41 ⟨rfl, hb⟩; refine ⟨_, rfl, ?_⟩; have n0_ := Aside0.mk (blk_below (g := gb162) (o := .cells #[.int .u32 a0_0, .int .i64 a0_1, .slice A0_2 l0_2.length c0_2, .int .i64 a0_3, .int .i64 a0_4, .int .i64 a0_5, .int .i64 a0_6] 27 (0, 0)) (by (with_reducible repeat (first | refine blk_drewN ?_ _ | refine blk_drew ?_ | refine blk_alloc ?_ _)); exact BK162.out) hb); have n1_ := Aside0.mk (below_step (by repeat (first | (with_reducible first | exact HB.out | apply below_alloc | apply pw_below_drewN | apply below_drew1 | refine below_set ?_ GE162.out) | exact HB.out)) hb); clear BK162; clear HB; have BK162 := n0_; have HB := n1_; clear n0_ n1_; (try clear hb); (try clear hb2); (try clear hk); (try clear hi); have hcz42_0 : w41.cell? ⟨gb162, 0, none⟩ = some (.int .u32 a0_0) := (blk_cell BK162.out 0).trans rfl; have hcz42_1 : w41.cell? ⟨gb162, 1, none⟩ = some (.int .i64 a0_1) := (blk_cell BK162.out 1).trans rfl; have hcz42_2 : w41.cell? ⟨gb162, 2, none⟩ = some (.slice A0_2 l0_2.length c0_2) := (blk_cell BK162.out 2).trans rfl; have hcz42_3 : w41.cell? ⟨gb162, 3, none⟩ = some (.int .i64 a0_3) := (blk_cell BK162.out 3).trans rfl; have hcz42_4 : w41.cell? ⟨gb162, 4, none⟩ = some (.int .i64 a0_4) := (blk_cell BK162.out 4).trans rfl; have hcz42_5 : w41.cell? ⟨gb162, 5, none⟩ = some (.int .i64 a0_5) := (blk_cell BK162.out 5).trans rfl; have hcz42_6 : w41.cell? ⟨gb162, 6, none⟩ = some (.int .i64 a0_6) := (blk_cell BK162.out 6).trans rfl; have hfz42_0 := blk_frozen BK162.out 0; have hfz42_1 := blk_frozen BK162.out 1; have hfz42_2 := blk_frozen BK162.out 2; have hfz42_3 := blk_frozen BK162.out 3; have hfz42_4 := blk_frozen BK162.out 4; have hfz42_5 := blk_frozen BK162.out 5; have hfz42_6 := blk_frozen BK162.out 6) | ((with_reducible refine gate_callee (f := 27) rfl ?_); refine goesL_ (some 102) rfl rfl Try.func27 (by kernel_rfl) rfl #[.agg #[.int .u32 a0_0, .int .i64 a0_1], .int .u32 a1] rfl (by (try simp only [List.map_toArray, List.map_cons, List.map_nil]); first | done | rfl | (simp only [List.length_drop, List.length_take]; rfl)) ?_; (with_reducible refine (block_Offset.calls a0_0 a0_1 a1 t175 t176 _ A36.out).mono ?_); rintro e w43 ⟨rfl, hb⟩; refine ⟨_, rfl, ?_⟩; have n0_ := Aside0.mk (blk_below (g := gb162) (o := .cells #[.int .u32 a0_0, .int .i64 a0_1, .slice A0_2 l0_2.length c0_2, .int .i64 a0_3, .int .i64 a0_4, .int .i64 a0_5, .int .i64 a0_6] 27 (0, 0)) (by (with_reducible repeat (first | refine blk_drewN ?_ _ | refine blk_drew ?_ | refine blk_alloc ?_ _)); exact BK162.out) hb); have n1_ := Aside0.mk (below_step (by repeat (first | (with_reducible first | exact HB.out | apply below_alloc | apply pw_below_drewN | apply below_drew1 | refine below_set ?_ GE162.out) | exact HB.out)) hb); clear BK162; clear HB; have BK162 := n0_; have HB := n1_; clear n0_ n1_; (try clear hb); (try clear hb2); (try clear hk); (try clear hi)))
                (try simp only [Act.put, List.setIfInBounds_toArray, List.set_cons_zero, List.set_cons_succ])
                go_cut [122] (fun v122 wc => ∃ (kq : Nat) (x122_36 : Bool), v122 = .bool x122_36 ∧ Aside0 (lodgerlaw05_BlockOffsets.j2 kq a1 t175 t176 x122_36 a0_0 a0_1 l0_2 a0_3 a0_4 a0_5 a0_6 = some r) ∧ Aside0 (kq ≤ kj20) ∧ Aside0 (wc.heap[gb162]? = some (.cells #[.int .u32 a0_0, .int .i64 a0_1, (.slice A0_2 l0_2.length c0_2), .int .i64 a0_3, .int .i64 a0_4, .int .i64 a0_5, .int .i64 a0_6] 27 (0, 0))) ∧ Aside0 (Below w.heap.size w wc))
                case first =>
                  have H := HC37.out
                  clear HC37
                  by_cases c44 : t172 = 3
                  · rw [if_pos c44] at H
                    have c44b0 : (t172 == 3) = true := beq_iff_eq.mpr c44
                    have c44b1 : (t172 != 3) = false := bne_eq_false_iff_eq.mpr c44
                    clear c44
                    (first | rw [c44b0] | (simp only [i64_w, i32_w]; rw [c44b0]) | skip)
                    by_cases c45 : t174 = 3
                    · rw [if_pos c45] at H
                      have c45b0 : (t174 == 3) = true := beq_iff_eq.mpr c45
                      have c45b1 : (t174 != 3) = false := bne_eq_false_iff_eq.mpr c45
                      clear c45
                      by_cases c46 : t176 = 0
                      · rw [if_pos c46] at H
                        have c46b0 : (t176 == 0) = true := beq_iff_eq.mpr c46
                        have c46b1 : (t176 != 0) = false := bne_eq_false_iff_eq.mpr c46
                        clear c46
                        replace H := Option.bind_eq_some_iff.mp H
                        obtain ⟨t177, A470, H⟩ := H
                        replace H : (lodgerlaw05_BlockOffsets.j2 kj20 a1 t175 t176 (t177 != a1) a0_0 a0_1 l0_2 a0_3 a0_4 a0_5 a0_6) = some r := H
                        have A47 := Aside0.mk A470
                        clear A470
                        have H' := Aside0.mk H
                        clear H
                        have hcz48_0 : w43.cell? ⟨gb162, 0, none⟩ = some (.int .u32 a0_0) := (blk_cell BK162.out 0).trans rfl
                        have hcz48_1 : w43.cell? ⟨gb162, 1, none⟩ = some (.int .i64 a0_1) := (blk_cell BK162.out 1).trans rfl
                        have hcz48_2 : w43.cell? ⟨gb162, 2, none⟩ = some (.slice A0_2 l0_2.length c0_2) := (blk_cell BK162.out 2).trans rfl
                        have hcz48_3 : w43.cell? ⟨gb162, 3, none⟩ = some (.int .i64 a0_3) := (blk_cell BK162.out 3).trans rfl
                        have hcz48_4 : w43.cell? ⟨gb162, 4, none⟩ = some (.int .i64 a0_4) := (blk_cell BK162.out 4).trans rfl
                        have hcz48_5 : w43.cell? ⟨gb162, 5, none⟩ = some (.int .i64 a0_5) := (blk_cell BK162.out 5).trans rfl
                        have hcz48_6 : w43.cell? ⟨gb162, 6, none⟩ = some (.int .i64 a0_6) := (blk_cell BK162.out 6).trans rfl
                        have hfz48_0 := blk_frozen BK162.out 0
                        have hfz48_1 := blk_frozen BK162.out 1
                        have hfz48_2 := blk_frozen BK162.out 2
                        have hfz48_3 := blk_frozen BK162.out 3
                        have hfz48_4 := blk_frozen BK162.out 4
                        have hfz48_5 := blk_frozen BK162.out 5
                        have hfz48_6 := blk_frozen BK162.out 6
                        go_wp2_with (first | (go_at_call 36; (with_reducible refine (block_Address.calls a0_0 a0_1 t175 t177 _ A47.out).mono ?_); rintro e w49 ⟨rfl, hb⟩; have n0_ := Aside0.mk (blk_below (g := gb162) (o := .cells #[.int .u32 a0_0, .int .i64 a0_1, .slice A0_2 l0_2.length c0_2, .int .i64 a0_3, .int .i64 a0_4, .int .i64 a0_5, .int .i64 a0_6] 27 (0, 0)) (by (with_reducible repeat (first | refine blk_drewN ?_ _ | refine blk_drew ?_ | refine blk_alloc ?_ _)); exact BK162.out) hb); have n1_ := Aside0.mk (below_step (by repeat (first | (with_reducible first | exact HB.out | apply below_alloc | apply pw_below_drewN | apply below_drew1 | refine below_set ?_ GE162.out) | exact HB.out)) hb); clear BK162; clear HB; have BK162 := n0_; have HB := n1_; clear n0_ n1_; (try clear hb); (try clear hb2); (try clear hk); (try clear hi)))
                        go_meet
                        case rel => exact ⟨_, ((t177 != a1)), (by first | rfl | (simp; done) | (simp [*]; done)), H', ⟨by have := HJ4.out; have := HJ20.out; first | omega | exact Nat.le_refl _⟩, ⟨by (with_reducible repeat (first | refine blk_drewN ?_ _ | refine blk_drew ?_ | refine blk_alloc ?_ _)); exact BK162.out⟩, ⟨by repeat (first | (with_reducible first | exact HB.out | apply below_alloc | apply pw_below_drewN | apply below_drew1 | refine below_set ?_ GE162.out) | exact HB.out)⟩⟩
                      · rw [if_neg c46] at H
                        have c46b0 : (t176 == 0) = false := beq_eq_false_iff_ne.mpr c46
                        have c46b1 : (t176 != 0) = true := bne_iff_ne.mpr c46
                        have H' := Aside0.mk H
                        clear H
                        go_wp2
                        go_meet
                        case rel => exact ⟨_, (false), (by first | rfl | (simp; done) | (simp [*]; done)), H', ⟨by have := HJ4.out; have := HJ20.out; first | omega | exact Nat.le_refl _⟩, ⟨by (with_reducible repeat (first | refine blk_drewN ?_ _ | refine blk_drew ?_ | refine blk_alloc ?_ _)); exact BK162.out⟩, ⟨by repeat (first | (with_reducible first | exact HB.out | apply below_alloc | apply pw_below_drewN | apply below_drew1 | refine below_set ?_ GE162.out) | exact HB.out)⟩⟩
                    · rw [if_neg c45] at H
                      have c45b0 : (t174 == 3) = false := beq_eq_false_iff_ne.mpr c45
                      have c45b1 : (t174 != 3) = true := bne_iff_ne.mpr c45
                      have H' := Aside0.mk H
                      clear H
                      go_wp2
                      go_meet
                      case rel => exact ⟨_, (true), (by first | rfl | (simp; done) | (simp [*]; done)), H', ⟨by have := HJ4.out; have := HJ20.out; first | omega | exact Nat.le_refl _⟩, ⟨by (with_reducible repeat (first | refine blk_drewN ?_ _ | refine blk_drew ?_ | refine blk_alloc ?_ _)); exact BK162.out⟩, ⟨by repeat (first | (with_reducible first | exact HB.out | apply below_alloc | apply pw_below_drewN | apply below_drew1 | refine below_set ?_ GE162.out) | exact HB.out)⟩⟩
                  · rw [if_neg c44] at H
                    have c44b0 : (t172 == 3) = false := beq_eq_false_iff_ne.mpr c44
                    have c44b1 : (t172 != 3) = true := bne_iff_ne.mpr c44
                    (first | rw [c44b0] | (simp only [i64_w, i32_w]; rw [c44b0]) | skip)
                    have H' := Aside0.mk H
                    clear H
                    go_wp2
                    go_meet
                    case rel => exact ⟨_, (true), (by first | rfl | (simp; done) | (simp [*]; done)), H', ⟨by have := HJ4.out; have := HJ20.out; first | omega | exact Nat.le_refl _⟩, ⟨by (with_reducible repeat (first | refine blk_drewN ?_ _ | refine blk_drew ?_ | refine blk_alloc ?_ _)); exact BK162.out⟩, ⟨by repeat (first | (with_reducible first | exact HB.out | apply below_alloc | apply pw_below_drewN | apply below_drew1 | refine below_set ?_ GE162.out) | exact HB.out)⟩⟩
                case rest =>
                  clear HC37
                  try clear c1
                  try clear c2
                  try clear p2
                  try clear c3
                  try clear c4
                  try clear p6
                  try clear c8
                  try clear c9
                  try clear c14
                  try clear c18
                  try clear c18b0
                  try clear c18b1
                  try clear c24
                  try clear c27
                  try clear c28
                  try clear c28b0
                  try clear c28b1
                  try clear c29
                  try clear c29b0
                  try clear c29b1
                  try clear c31
                  try clear c33
                  try clear c36
                  try clear c44
                  try clear c44b0
                  try clear c44b1
                  try clear c45
                  try clear c45b0
                  try clear c45b1
                  try clear c46
                  try clear c46b0
                  try clear c46b1
                  try clear hcz11_0
                  try clear hcz11_1
                  try clear hcz11_2
                  try clear hcz11_3
                  try clear hcz11_4
                  try clear hcz11_5
                  try clear hcz11_6
                  try clear hcz22_0
                  try clear hcz22_1
                  try clear hcz22_2
                  try clear hcz22_3
                  try clear hcz22_4
                  try clear hcz22_5
                  try clear hcz22_6
                  try clear hcz24_0
                  try clear hcz24_1
                  try clear hcz24_2
                  try clear hcz24_3
                  try clear hcz24_4
                  try clear hcz24_5
                  try clear hcz24_6
                  try clear hcz26_0
                  try clear hcz26_1
                  try clear hcz26_2
                  try clear hcz26_3
                  try clear hcz26_4
                  try clear hcz26_5
                  try clear hcz26_6
                  try clear hcz31_0
                  try clear hcz31_1
                  try clear hcz31_2
                  try clear hcz31_3
                  try clear hcz31_4
                  try clear hcz31_5
                  try clear hcz31_6
                  try clear hcz38_0
                  try clear hcz38_1
                  try clear hcz38_2
                  try clear hcz38_3
                  try clear hcz38_4
                  try clear hcz38_5
                  try clear hcz38_6
                  try clear hcz40_0
                  try clear hcz40_1
                  try clear hcz40_2
                  try clear hcz40_3
                  try clear hcz40_4
                  try clear hcz40_5
                  try clear hcz40_6
                  try clear hcz42_0
                  try clear hcz42_1
                  try clear hcz42_2
                  try clear hcz42_3
                  try clear hcz42_4
                  try clear hcz42_5
                  try clear hcz42_6
                  try clear hcz48_0
                  try clear hcz48_1
                  try clear hcz48_2
                  try clear hcz48_3
                  try clear hcz48_4
                  try clear hcz48_5
                  try clear hcz48_6
                  try clear hfz11_0
                  try clear hfz11_1
                  try clear hfz11_2
                  try clear hfz11_3
                  try clear hfz11_4
                  try clear hfz11_5
                  try clear hfz11_6
                  try clear hfz22_0
                  try clear hfz22_1
                  try clear hfz22_2
                  try clear hfz22_3
                  try clear hfz22_4
                  try clear hfz22_5
                  try clear hfz22_6
                  try clear hfz24_0
                  try clear hfz24_1
                  try clear hfz24_2
                  try clear hfz24_3
                  try clear hfz24_4
                  try clear hfz24_5
                  try clear hfz24_6
                  try clear hfz26_0
                  try clear hfz26_1
                  try clear hfz26_2
                  try clear hfz26_3
                  try clear hfz26_4
                  try clear hfz26_5
                  try clear hfz26_6
                  try clear hfz31_0
                  try clear hfz31_1
                  try clear hfz31_2
                  try clear hfz31_3
                  try clear hfz31_4
                  try clear hfz31_5
                  try clear hfz31_6
                  try clear hfz38_0
                  try clear hfz38_1
                  try clear hfz38_2
                  try clear hfz38_3
                  try clear hfz38_4
                  try clear hfz38_5
                  try clear hfz38_6
                  try clear hfz40_0
                  try clear hfz40_1
                  try clear hfz40_2
                  try clear hfz40_3
                  try clear hfz40_4
                  try clear hfz40_5
                  try clear hfz40_6
                  try clear hfz42_0
                  try clear hfz42_1
                  try clear hfz42_2
                  try clear hfz42_3
                  try clear hfz42_4
                  try clear hfz42_5
                  try clear hfz42_6
                  try clear hfz48_0
                  try clear hfz48_1
                  try clear hfz48_2
                  try clear hfz48_3
                  try clear hfz48_4
                  try clear hfz48_5
                  try clear hfz48_6
                  try clear p2
                  try clear p6
                  obtain ⟨kq, x122_36, rfl, HA, HJ36, BK162, HB⟩ := hcut
                  cases kq with
                  | zero => exact absurd HA.out (by simp [lodgerlaw05_BlockOffsets.j2])
                  | succ kj36 =>
                    have H := HA.out
                    clear HA
                    simp only [lodgerlaw05_BlockOffsets.j2] at H
                    by_cases c50 : x122_36 = true
                    · subst c50
                      have H1 : (some false) = some r := by rw [if_pos rfl] at H; exact H
                      rw [hr_.out] at H1
                      exact absurd (Option.some.inj H1) (by decide)
                    · replace c50 := Bool.eq_false_iff.mpr c50
                      subst c50
                      have H1 : ((block_Find.f kj36 a0_0 a0_1 l0_2 a0_3 a0_4 a0_5 a0_6 a1).bind fun bt178 => (if t176 = 0 then ((block_Held.f kj36 a0_0 a0_1 l0_2 a0_3 a0_4 a0_5 a0_6 t175).bind fun t180 => (if ((bt178.2 == 0) == (!t180)) = true then (if bt178.2 = 0 then (if bt178.1 = t175 then ((lodgerref04_May.f kj36 a0_0 a0_1).bind fun t181 => (some t181)) else (some false)) else ((lodgerref04_May.f kj36 a0_0 a0_1).bind fun t182 => (some t182))) else (some false))) else (if ((bt178.2 == 0) == false) = true then (if bt178.2 = 0 then (if bt178.1 = t175 then ((lodgerref04_May.f kj36 a0_0 a0_1).bind fun t183 => (some t183)) else (some false)) else ((lodgerref04_May.f kj36 a0_0 a0_1).bind fun t184 => (some t184))) else (some false)))) = some r := by rw [if_neg (show ¬ (false = true) by decide)] at H; exact H
                      clear H
                      have H := H1
                      clear H1
                      replace H := Option.bind_eq_some_iff.mp H
                      obtain ⟨⟨t178, t179⟩, A510, H⟩ := H
                      replace H : (if t176 = 0 then ((block_Held.f kj36 a0_0 a0_1 l0_2 a0_3 a0_4 a0_5 a0_6 t175).bind fun t180 => (if ((t179 == 0) == (!t180)) = true then (if t179 = 0 then (if t178 = t175 then ((lodgerref04_May.f kj36 a0_0 a0_1).bind fun t181 => (some t181)) else (some false)) else ((lodgerref04_May.f kj36 a0_0 a0_1).bind fun t182 => (some t182))) else (some false))) else (if ((t179 == 0) == false) = true then (if t179 = 0 then (if t178 = t175 then ((lodgerref04_May.f kj36 a0_0 a0_1).bind fun t183 => (some t183)) else (some false)) else ((lodgerref04_May.f kj36 a0_0 a0_1).bind fun t184 => (some t184))) else (some false))) = some r := H
                      have A51 := Aside0.mk A510
                      clear A510
                      by_cases c52 : t176 = 0
                      · rw [if_pos c52] at H
                        have c52b0 : (t176 == 0) = true := beq_iff_eq.mpr c52
                        have c52b1 : (t176 != 0) = false := bne_eq_false_iff_eq.mpr c52
                        clear c52
                        replace H := Option.bind_eq_some_iff.mp H
                        obtain ⟨t180, A530, H⟩ := H
                        replace H : (if ((t179 == 0) == (!t180)) = true then (if t179 = 0 then (if t178 = t175 then ((lodgerref04_May.f kj36 a0_0 a0_1).bind fun t181 => (some t181)) else (some false)) else ((lodgerref04_May.f kj36 a0_0 a0_1).bind fun t182 => (some t182))) else (some false)) = some r := H
                        have A53 := Aside0.mk A530
                        clear A530
                        by_cases c54 : ((t179 == 0) == (!t180)) = true
                        · rw [if_pos c54] at H
                          have c54b0 : ((t179 == 0) == (!t180)) = true := c54
                          (try (have c54b1 : decide ((t179 == 0) = (!t180)) = true := by simpa using c54))
                          (try (have c54b2 : ((t179 == 0) == (!t180)) = true := by simpa using c54))
                          clear c54
                          by_cases c55 : t179 = 0
                          · rw [if_pos c55] at H
                            have c55b0 : (t179 == 0) = true := beq_iff_eq.mpr c55
                            have z_c54b0_c55b0 : t180 = false := by rw [c55b0] at c54b0; revert c54b0; generalize t180 = z_; cases z_ <;> decide
                            have c55b1 : (t179 != 0) = false := bne_eq_false_iff_eq.mpr c55
                            clear c55
                            by_cases c56 : t178 = t175
                            · rw [if_pos c56] at H
                              have c56b0 : (t178 == t175) = true := beq_iff_eq.mpr c56
                              have c56b1 : (t178 != t175) = false := bne_eq_false_iff_eq.mpr c56
                              clear c56
                              replace H := Option.bind_eq_some_iff.mp H
                              obtain ⟨t181, A570, H⟩ := H
                              replace H : (some t181) = some r := H
                              have A57 := Aside0.mk A570
                              clear A570
                              first | (exfalso; rw [hr_.out] at H; exact absurd (Option.some.inj H) (by decide)) | (try clear hr_)
                              all_goals
                                obtain rfl := Option.some.inj H
                                have hcz58_0 : wc.cell? ⟨gb162, 0, none⟩ = some (.int .u32 a0_0) := (blk_cell BK162.out 0).trans rfl
                                have hcz58_1 : wc.cell? ⟨gb162, 1, none⟩ = some (.int .i64 a0_1) := (blk_cell BK162.out 1).trans rfl
                                have hcz58_2 : wc.cell? ⟨gb162, 2, none⟩ = some (.slice A0_2 l0_2.length c0_2) := (blk_cell BK162.out 2).trans rfl
                                have hcz58_3 : wc.cell? ⟨gb162, 3, none⟩ = some (.int .i64 a0_3) := (blk_cell BK162.out 3).trans rfl
                                have hcz58_4 : wc.cell? ⟨gb162, 4, none⟩ = some (.int .i64 a0_4) := (blk_cell BK162.out 4).trans rfl
                                have hcz58_5 : wc.cell? ⟨gb162, 5, none⟩ = some (.int .i64 a0_5) := (blk_cell BK162.out 5).trans rfl
                                have hcz58_6 : wc.cell? ⟨gb162, 6, none⟩ = some (.int .i64 a0_6) := (blk_cell BK162.out 6).trans rfl
                                have hfz58_0 := blk_frozen BK162.out 0
                                have hfz58_1 := blk_frozen BK162.out 1
                                have hfz58_2 := blk_frozen BK162.out 2
                                have hfz58_3 := blk_frozen BK162.out 3
                                have hfz58_4 := blk_frozen BK162.out 4
                                have hfz58_5 := blk_frozen BK162.out 5
                                have hfz58_6 := blk_frozen BK162.out 6
                                go_wp2_with (first | ((with_reducible refine gate_callee (f := 29) rfl ?_); refine goesL_ (some 126) rfl rfl Try.func29 (by kernel_rfl) rfl #[.agg #[.int .u32 a0_0, .int .i64 a0_1, .slice A0_2 l0_2.length c0_2, .int .i64 a0_3, .int .i64 a0_4, .int .i64 a0_5, .int .i64 a0_6], .int .u32 a1] rfl (by (try simp only [List.map_toArray, List.map_cons, List.map_nil]); first | done | rfl | (simp only [List.length_drop, List.length_take]; rfl)) ?_; (with_reducible refine (block_Find.calls kj36 a0_0 a0_1 _ _ l0_2 a0_3 a0_4 a0_5 a0_6 a1 t178 t179 _ ?side1 ?side2 A51.out).mono ?_); (case side1 => repeat (first | exact (Kd.C_below HR0_2.out HB.out) | (with_reducible refine Kd.C_alloc ?_ _) | (with_reducible refine Kd.C_drewN ?_ _) | (with_reducible refine Kd.C_drew ?_))); (case side2 => exact HC0_2.out); rintro e w59 ⟨rfl, hb⟩; refine ⟨_, rfl, ?_⟩; have n0_ := Aside0.mk (blk_below (g := gb162) (o := .cells #[.int .u32 a0_0, .int .i64 a0_1, .slice A0_2 l0_2.length c0_2, .int .i64 a0_3, .int .i64 a0_4, .int .i64 a0_5, .int .i64 a0_6] 27 (0, 0)) (by (with_reducible repeat (first | refine blk_drewN ?_ _ | refine blk_drew ?_ | refine blk_alloc ?_ _)); exact BK162.out) hb); have n1_ := Aside0.mk (below_step (by repeat (first | (with_reducible first | exact HB.out | apply below_alloc | apply pw_below_drewN | apply below_drew1 | refine below_set ?_ GE162.out) | exact HB.out)) hb); clear BK162; clear HB; have BK162 := n0_; have HB := n1_; clear n0_ n1_; (try clear hb); (try clear hb2); (try clear hk); (try clear hi); have hcz60_0 : w59.cell? ⟨gb162, 0, none⟩ = some (.int .u32 a0_0) := (blk_cell BK162.out 0).trans rfl; have hcz60_1 : w59.cell? ⟨gb162, 1, none⟩ = some (.int .i64 a0_1) := (blk_cell BK162.out 1).trans rfl; have hcz60_2 : w59.cell? ⟨gb162, 2, none⟩ = some (.slice A0_2 l0_2.length c0_2) := (blk_cell BK162.out 2).trans rfl; have hcz60_3 : w59.cell? ⟨gb162, 3, none⟩ = some (.int .i64 a0_3) := (blk_cell BK162.out 3).trans rfl; have hcz60_4 : w59.cell? ⟨gb162, 4, none⟩ = some (.int .i64 a0_4) := (blk_cell BK162.out 4).trans rfl; have hcz60_5 : w59.cell? ⟨gb162, 5, none⟩ = some (.int .i64 a0_5) := (blk_cell BK162.out 5).trans rfl; have hcz60_6 : w59.cell? ⟨gb162, 6, none⟩ = some (.int .i64 a0_6) := (blk_cell BK162.out 6).trans rfl; have hfz60_0 := blk_frozen BK162.out 0; have hfz60_1 := blk_frozen BK162.out 1; have hfz60_2 := blk_frozen BK162.out 2; have hfz60_3 := blk_frozen BK162.out 3; have hfz60_4 := blk_frozen BK162.out 4; have hfz60_5 := blk_frozen BK162.out 5; have hfz60_6 := blk_frozen BK162.out 6) | (go_at_call 33; (with_reducible refine (block_Held.calls kj36 a0_0 a0_1 _ _ l0_2 a0_3 a0_4 a0_5 a0_6 t175 t180 _ ?side1 ?side2 A53.out).mono ?_); (case side1 => repeat (first | exact (Kd.C_below HR0_2.out HB.out) | (with_reducible refine Kd.C_alloc ?_ _) | (with_reducible refine Kd.C_drewN ?_ _) | (with_reducible refine Kd.C_drew ?_))); (case side2 => exact HC0_2.out); rintro e w61 ⟨rfl, hb⟩; have n0_ := Aside0.mk (blk_below (g := gb162) (o := .cells #[.int .u32 a0_0, .int .i64 a0_1, .slice A0_2 l0_2.length c0_2, .int .i64 a0_3, .int .i64 a0_4, .int .i64 a0_5, .int .i64 a0_6] 27 (0, 0)) (by (with_reducible repeat (first | refine blk_drewN ?_ _ | refine blk_drew ?_ | refine blk_alloc ?_ _)); exact BK162.out) hb); have n1_ := Aside0.mk (below_step (by repeat (first | (with_reducible first | exact HB.out | apply below_alloc | apply pw_below_drewN | apply below_drew1 | refine below_set ?_ GE162.out) | exact HB.out)) hb); clear BK162; clear HB; have BK162 := n0_; have HB := n1_; clear n0_ n1_; (try clear hb); (try clear hb2); (try clear hk); (try clear hi); have hcz62_0 : w61.cell? ⟨gb162, 0, none⟩ = some (.int .u32 a0_0) := (blk_cell BK162.out 0).trans rfl; have hcz62_1 : w61.cell? ⟨gb162, 1, none⟩ = some (.int .i64 a0_1) := (blk_cell BK162.out 1).trans rfl; have hcz62_2 : w61.cell? ⟨gb162, 2, none⟩ = some (.slice A0_2 l0_2.length c0_2) := (blk_cell BK162.out 2).trans rfl; have hcz62_3 : w61.cell? ⟨gb162, 3, none⟩ = some (.int .i64 a0_3) := (blk_cell BK162.out 3).trans rfl; have hcz62_4 : w61.cell? ⟨gb162, 4, none⟩ = some (.int .i64 a0_4) := (blk_cell BK162.out 4).trans rfl; have hcz62_5 : w61.cell? ⟨gb162, 5, none⟩ = some (.int .i64 a0_5) := (blk_cell BK162.out 5).trans rfl; have hcz62_6 : w61.cell? ⟨gb162, 6, none⟩ = some (.int .i64 a0_6) := (blk_cell BK162.out 6).trans rfl; have hfz62_0 := blk_frozen BK162.out 0; have hfz62_1 := blk_frozen BK162.out 1; have hfz62_2 := blk_frozen BK162.out 2; have hfz62_3 := blk_frozen BK162.out 3; have hfz62_4 := blk_frozen BK162.out 4; have hfz62_5 := blk_frozen BK162.out 5; have hfz62_6 := blk_frozen BK162.out 6) | (go_at_call 37; (with_reducible refine (lodgerref04_May.calls kj36 a0_0 a0_1 t181 _ A57.out).mono ?_); rintro e w63 ⟨rfl, hb⟩; have n0_ := Aside0.mk (blk_below (g := gb162) (o := .cells #[.int .u32 a0_0, .int .i64 a0_1, .slice A0_2 l0_2.length c0_2, .int .i64 a0_3, .int .i64 a0_4, .int .i64 a0_5, .int .i64 a0_6] 27 (0, 0)) (by (with_reducible repeat (first | refine blk_drewN ?_ _ | refine blk_drew ?_ | refine blk_alloc ?_ _)); exact BK162.out) hb); have n1_ := Aside0.mk (below_step (by repeat (first | (with_reducible first | exact HB.out | apply below_alloc | apply pw_below_drewN | apply below_drew1 | refine below_set ?_ GE162.out) | exact HB.out)) hb); clear BK162; clear HB; have BK162 := n0_; have HB := n1_; clear n0_ n1_; (try clear hb); (try clear hb2); (try clear hk); (try clear hi)))
                                go_ret
                                exact ⟨by first | rfl | (simp [errW_none, errW_some] <;> rfl) | (simp [*, errW_none, errW_some] <;> rfl), by repeat (first | (with_reducible first | exact HB.out | apply below_alloc | apply pw_below_drewN | apply below_drew1 | refine below_set ?_ GE162.out) | exact HB.out)⟩
                            · rw [if_neg c56] at H
                              rw [hr_.out] at H
                              exact absurd (Option.some.inj H) (by decide)
                          · rw [if_neg c55] at H
                            have c55b0 : (t179 == 0) = false := beq_eq_false_iff_ne.mpr c55
                            have z_c54b0_c55b0 : t180 = true := by rw [c55b0] at c54b0; revert c54b0; generalize t180 = z_; cases z_ <;> decide
                            have c55b1 : (t179 != 0) = true := bne_iff_ne.mpr c55
                            replace H := Option.bind_eq_some_iff.mp H
                            obtain ⟨t182, A680, H⟩ := H
                            replace H : (some t182) = some r := H
                            have A68 := Aside0.mk A680
                            clear A680
                            first | (exfalso; rw [hr_.out] at H; exact absurd (Option.some.inj H) (by decide)) | (try clear hr_)
                            all_goals
                              obtain rfl := Option.some.inj H
                              have hcz69_0 : wc.cell? ⟨gb162, 0, none⟩ = some (.int .u32 a0_0) := (blk_cell BK162.out 0).trans rfl
                              have hcz69_1 : wc.cell? ⟨gb162, 1, none⟩ = some (.int .i64 a0_1) := (blk_cell BK162.out 1).trans rfl
                              have hcz69_2 : wc.cell? ⟨gb162, 2, none⟩ = some (.slice A0_2 l0_2.length c0_2) := (blk_cell BK162.out 2).trans rfl
                              have hcz69_3 : wc.cell? ⟨gb162, 3, none⟩ = some (.int .i64 a0_3) := (blk_cell BK162.out 3).trans rfl
                              have hcz69_4 : wc.cell? ⟨gb162, 4, none⟩ = some (.int .i64 a0_4) := (blk_cell BK162.out 4).trans rfl
                              have hcz69_5 : wc.cell? ⟨gb162, 5, none⟩ = some (.int .i64 a0_5) := (blk_cell BK162.out 5).trans rfl
                              have hcz69_6 : wc.cell? ⟨gb162, 6, none⟩ = some (.int .i64 a0_6) := (blk_cell BK162.out 6).trans rfl
                              have hfz69_0 := blk_frozen BK162.out 0
                              have hfz69_1 := blk_frozen BK162.out 1
                              have hfz69_2 := blk_frozen BK162.out 2
                              have hfz69_3 := blk_frozen BK162.out 3
                              have hfz69_4 := blk_frozen BK162.out 4
                              have hfz69_5 := blk_frozen BK162.out 5
                              have hfz69_6 := blk_frozen BK162.out 6
                              go_wp2_with (first | ((with_reducible refine gate_callee (f := 29) rfl ?_); refine goesL_ (some 126) rfl rfl Try.func29 (by kernel_rfl) rfl #[.agg #[.int .u32 a0_0, .int .i64 a0_1, .slice A0_2 l0_2.length c0_2, .int .i64 a0_3, .int .i64 a0_4, .int .i64 a0_5, .int .i64 a0_6], .int .u32 a1] rfl (by (try simp only [List.map_toArray, List.map_cons, List.map_nil]); first | done | rfl | (simp only [List.length_drop, List.length_take]; rfl)) ?_; (with_reducible refine (block_Find.calls kj36 a0_0 a0_1 _ _ l0_2 a0_3 a0_4 a0_5 a0_6 a1 t178 t179 _ ?side1 ?side2 A51.out).mono ?_); (case side1 => repeat (first | exact (Kd.C_below HR0_2.out HB.out) | (with_reducible refine Kd.C_alloc ?_ _) | (with_reducible refine Kd.C_drewN ?_ _) | (with_reducible refine Kd.C_drew ?_))); (case side2 => exact HC0_2.out); rintro e w70 ⟨rfl, hb⟩; refine ⟨_, rfl, ?_⟩; have n0_ := Aside0.mk (blk_below (g := gb162) (o := .cells #[.int .u32 a0_0, .int .i64 a0_1, .slice A0_2 l0_2.length c0_2, .int .i64 a0_3, .int .i64 a0_4, .int .i64 a0_5, .int .i64 a0_6] 27 (0, 0)) (by (with_reducible repeat (first | refine blk_drewN ?_ _ | refine blk_drew ?_ | refine blk_alloc ?_ _)); exact BK162.out) hb); have n1_ := Aside0.mk (below_step (by repeat (first | (with_reducible first | exact HB.out | apply below_alloc | apply pw_below_drewN | apply below_drew1 | refine below_set ?_ GE162.out) | exact HB.out)) hb); clear BK162; clear HB; have BK162 := n0_; have HB := n1_; clear n0_ n1_; (try clear hb); (try clear hb2); (try clear hk); (try clear hi); have hcz71_0 : w70.cell? ⟨gb162, 0, none⟩ = some (.int .u32 a0_0) := (blk_cell BK162.out 0).trans rfl; have hcz71_1 : w70.cell? ⟨gb162, 1, none⟩ = some (.int .i64 a0_1) := (blk_cell BK162.out 1).trans rfl; have hcz71_2 : w70.cell? ⟨gb162, 2, none⟩ = some (.slice A0_2 l0_2.length c0_2) := (blk_cell BK162.out 2).trans rfl; have hcz71_3 : w70.cell? ⟨gb162, 3, none⟩ = some (.int .i64 a0_3) := (blk_cell BK162.out 3).trans rfl; have hcz71_4 : w70.cell? ⟨gb162, 4, none⟩ = some (.int .i64 a0_4) := (blk_cell BK162.out 4).trans rfl; have hcz71_5 : w70.cell? ⟨gb162, 5, none⟩ = some (.int .i64 a0_5) := (blk_cell BK162.out 5).trans rfl; have hcz71_6 : w70.cell? ⟨gb162, 6, none⟩ = some (.int .i64 a0_6) := (blk_cell BK162.out 6).trans rfl; have hfz71_0 := blk_frozen BK162.out 0; have hfz71_1 := blk_frozen BK162.out 1; have hfz71_2 := blk_frozen BK162.out 2; have hfz71_3 := blk_frozen BK162.out 3; have hfz71_4 := blk_frozen BK162.out 4; have hfz71_5 := blk_frozen BK162.out 5; have hfz71_6 := blk_frozen BK162.out 6) | (go_at_call 33; (with_reducible refine (block_Held.calls kj36 a0_0 a0_1 _ _ l0_2 a0_3 a0_4 a0_5 a0_6 t175 t180 _ ?side1 ?side2 A53.out).mono ?_); (case side1 => repeat (first | exact (Kd.C_below HR0_2.out HB.out) | (with_reducible refine Kd.C_alloc ?_ _) | (with_reducible refine Kd.C_drewN ?_ _) | (with_reducible refine Kd.C_drew ?_))); (case side2 => exact HC0_2.out); rintro e w72 ⟨rfl, hb⟩; have n0_ := Aside0.mk (blk_below (g := gb162) (o := .cells #[.int .u32 a0_0, .int .i64 a0_1, .slice A0_2 l0_2.length c0_2, .int .i64 a0_3, .int .i64 a0_4, .int .i64 a0_5, .int .i64 a0_6] 27 (0, 0)) (by (with_reducible repeat (first | refine blk_drewN ?_ _ | refine blk_drew ?_ | refine blk_alloc ?_ _)); exact BK162.out) hb); have n1_ := Aside0.mk (below_step (by repeat (first | (with_reducible first | exact HB.out | apply below_alloc | apply pw_below_drewN | apply below_drew1 | refine below_set ?_ GE162.out) | exact HB.out)) hb); clear BK162; clear HB; have BK162 := n0_; have HB := n1_; clear n0_ n1_; (try clear hb); (try clear hb2); (try clear hk); (try clear hi); have hcz73_0 : w72.cell? ⟨gb162, 0, none⟩ = some (.int .u32 a0_0) := (blk_cell BK162.out 0).trans rfl; have hcz73_1 : w72.cell? ⟨gb162, 1, none⟩ = some (.int .i64 a0_1) := (blk_cell BK162.out 1).trans rfl; have hcz73_2 : w72.cell? ⟨gb162, 2, none⟩ = some (.slice A0_2 l0_2.length c0_2) := (blk_cell BK162.out 2).trans rfl; have hcz73_3 : w72.cell? ⟨gb162, 3, none⟩ = some (.int .i64 a0_3) := (blk_cell BK162.out 3).trans rfl; have hcz73_4 : w72.cell? ⟨gb162, 4, none⟩ = some (.int .i64 a0_4) := (blk_cell BK162.out 4).trans rfl; have hcz73_5 : w72.cell? ⟨gb162, 5, none⟩ = some (.int .i64 a0_5) := (blk_cell BK162.out 5).trans rfl; have hcz73_6 : w72.cell? ⟨gb162, 6, none⟩ = some (.int .i64 a0_6) := (blk_cell BK162.out 6).trans rfl; have hfz73_0 := blk_frozen BK162.out 0; have hfz73_1 := blk_frozen BK162.out 1; have hfz73_2 := blk_frozen BK162.out 2; have hfz73_3 := blk_frozen BK162.out 3; have hfz73_4 := blk_frozen BK162.out 4; have hfz73_5 := blk_frozen BK162.out 5; have hfz73_6 := blk_frozen BK162.out 6) | (go_at_call 37; (with_reducible refine (lodgerref04_May.calls kj36 a0_0 a0_1 t182 _ A68.out).mono ?_); rintro e w74 ⟨rfl, hb⟩; have n0_ := Aside0.mk (blk_below (g := gb162) (o := .cells #[.int .u32 a0_0, .int .i64 a0_1, .slice A0_2 l0_2.length c0_2, .int .i64 a0_3, .int .i64 a0_4, .int .i64 a0_5, .int .i64 a0_6] 27 (0, 0)) (by (with_reducible repeat (first | refine blk_drewN ?_ _ | refine blk_drew ?_ | refine blk_alloc ?_ _)); exact BK162.out) hb); have n1_ := Aside0.mk (below_step (by repeat (first | (with_reducible first | exact HB.out | apply below_alloc | apply pw_below_drewN | apply below_drew1 | refine below_set ?_ GE162.out) | exact HB.out)) hb); clear BK162; clear HB; have BK162 := n0_; have HB := n1_; clear n0_ n1_; (try clear hb); (try clear hb2); (try clear hk); (try clear hi)))
                              go_ret
                              exact ⟨by first | rfl | (simp [errW_none, errW_some] <;> rfl) | (simp [*, errW_none, errW_some] <;> rfl), by repeat (first | (with_reducible first | exact HB.out | apply below_alloc | apply pw_below_drewN | apply below_drew1 | refine below_set ?_ GE162.out) | exact HB.out)⟩
                        · rw [if_neg c54] at H
                          rw [hr_.out] at H
                          exact absurd (Option.some.inj H) (by decide)
                      · rw [if_neg c52] at H
                        have c52b0 : (t176 == 0) = false := beq_eq_false_iff_ne.mpr c52
                        have c52b1 : (t176 != 0) = true := bne_iff_ne.mpr c52
                        by_cases c79 : ((t179 == 0) == false) = true
                        · rw [if_pos c79] at H
                          have c79b0 : ((t179 == 0) == false) = true := c79
                          have z_c79b0 : (t179 == 0) = false := by revert c79b0; generalize (t179 == 0) = z_; cases z_ <;> decide
                          (try (have c79b1 : decide ((t179 == 0) = false) = true := by simpa using c79))
                          (try (have c79b2 : ((t179 == 0) == false) = true := by simpa using c79))
                          clear c79
                          by_cases c80 : t179 = 0
                          · rw [if_pos c80] at H
                            have c80b0 : (t179 == 0) = true := beq_iff_eq.mpr c80
                            exfalso
                            exact absurd (z_c79b0.symm.trans c80b0) (by decide)
                          · rw [if_neg c80] at H
                            have c80b0 : (t179 == 0) = false := beq_eq_false_iff_ne.mpr c80
                            have c80b1 : (t179 != 0) = true := bne_iff_ne.mpr c80
                            replace H := Option.bind_eq_some_iff.mp H
                            obtain ⟨t184, A890, H⟩ := H
                            replace H : (some t184) = some r := H
                            have A89 := Aside0.mk A890
                            clear A890
                            first | (exfalso; rw [hr_.out] at H; exact absurd (Option.some.inj H) (by decide)) | (try clear hr_)
                            all_goals
                              obtain rfl := Option.some.inj H
                              have hcz90_0 : wc.cell? ⟨gb162, 0, none⟩ = some (.int .u32 a0_0) := (blk_cell BK162.out 0).trans rfl
                              have hcz90_1 : wc.cell? ⟨gb162, 1, none⟩ = some (.int .i64 a0_1) := (blk_cell BK162.out 1).trans rfl
                              have hcz90_2 : wc.cell? ⟨gb162, 2, none⟩ = some (.slice A0_2 l0_2.length c0_2) := (blk_cell BK162.out 2).trans rfl
                              have hcz90_3 : wc.cell? ⟨gb162, 3, none⟩ = some (.int .i64 a0_3) := (blk_cell BK162.out 3).trans rfl
                              have hcz90_4 : wc.cell? ⟨gb162, 4, none⟩ = some (.int .i64 a0_4) := (blk_cell BK162.out 4).trans rfl
                              have hcz90_5 : wc.cell? ⟨gb162, 5, none⟩ = some (.int .i64 a0_5) := (blk_cell BK162.out 5).trans rfl
                              have hcz90_6 : wc.cell? ⟨gb162, 6, none⟩ = some (.int .i64 a0_6) := (blk_cell BK162.out 6).trans rfl
                              have hfz90_0 := blk_frozen BK162.out 0
                              have hfz90_1 := blk_frozen BK162.out 1
                              have hfz90_2 := blk_frozen BK162.out 2
                              have hfz90_3 := blk_frozen BK162.out 3
                              have hfz90_4 := blk_frozen BK162.out 4
                              have hfz90_5 := blk_frozen BK162.out 5
                              have hfz90_6 := blk_frozen BK162.out 6
                              go_wp2_with (first | ((with_reducible refine gate_callee (f := 29) rfl ?_); refine goesL_ (some 126) rfl rfl Try.func29 (by kernel_rfl) rfl #[.agg #[.int .u32 a0_0, .int .i64 a0_1, .slice A0_2 l0_2.length c0_2, .int .i64 a0_3, .int .i64 a0_4, .int .i64 a0_5, .int .i64 a0_6], .int .u32 a1] rfl (by (try simp only [List.map_toArray, List.map_cons, List.map_nil]); first | done | rfl | (simp only [List.length_drop, List.length_take]; rfl)) ?_; (with_reducible refine (block_Find.calls kj36 a0_0 a0_1 _ _ l0_2 a0_3 a0_4 a0_5 a0_6 a1 t178 t179 _ ?side1 ?side2 A51.out).mono ?_); (case side1 => repeat (first | exact (Kd.C_below HR0_2.out HB.out) | (with_reducible refine Kd.C_alloc ?_ _) | (with_reducible refine Kd.C_drewN ?_ _) | (with_reducible refine Kd.C_drew ?_))); (case side2 => exact HC0_2.out); rintro e w91 ⟨rfl, hb⟩; refine ⟨_, rfl, ?_⟩; have n0_ := Aside0.mk (blk_below (g := gb162) (o := .cells #[.int .u32 a0_0, .int .i64 a0_1, .slice A0_2 l0_2.length c0_2, .int .i64 a0_3, .int .i64 a0_4, .int .i64 a0_5, .int .i64 a0_6] 27 (0, 0)) (by (with_reducible repeat (first | refine blk_drewN ?_ _ | refine blk_drew ?_ | refine blk_alloc ?_ _)); exact BK162.out) hb); have n1_ := Aside0.mk (below_step (by repeat (first | (with_reducible first | exact HB.out | apply below_alloc | apply pw_below_drewN | apply below_drew1 | refine below_set ?_ GE162.out) | exact HB.out)) hb); clear BK162; clear HB; have BK162 := n0_; have HB := n1_; clear n0_ n1_; (try clear hb); (try clear hb2); (try clear hk); (try clear hi); have hcz92_0 : w91.cell? ⟨gb162, 0, none⟩ = some (.int .u32 a0_0) := (blk_cell BK162.out 0).trans rfl; have hcz92_1 : w91.cell? ⟨gb162, 1, none⟩ = some (.int .i64 a0_1) := (blk_cell BK162.out 1).trans rfl; have hcz92_2 : w91.cell? ⟨gb162, 2, none⟩ = some (.slice A0_2 l0_2.length c0_2) := (blk_cell BK162.out 2).trans rfl; have hcz92_3 : w91.cell? ⟨gb162, 3, none⟩ = some (.int .i64 a0_3) := (blk_cell BK162.out 3).trans rfl; have hcz92_4 : w91.cell? ⟨gb162, 4, none⟩ = some (.int .i64 a0_4) := (blk_cell BK162.out 4).trans rfl; have hcz92_5 : w91.cell? ⟨gb162, 5, none⟩ = some (.int .i64 a0_5) := (blk_cell BK162.out 5).trans rfl; have hcz92_6 : w91.cell? ⟨gb162, 6, none⟩ = some (.int .i64 a0_6) := (blk_cell BK162.out 6).trans rfl; have hfz92_0 := blk_frozen BK162.out 0; have hfz92_1 := blk_frozen BK162.out 1; have hfz92_2 := blk_frozen BK162.out 2; have hfz92_3 := blk_frozen BK162.out 3; have hfz92_4 := blk_frozen BK162.out 4; have hfz92_5 := blk_frozen BK162.out 5; have hfz92_6 := blk_frozen BK162.out 6) | (go_at_call 37; (with_reducible refine (lodgerref04_May.calls kj36 a0_0 a0_1 t184 _ A89.out).mono ?_); rintro e w93 ⟨rfl, hb⟩; have n0_ := Aside0.mk (blk_below (g := gb162) (o := .cells #[.int .u32 a0_0, .int .i64 a0_1, .slice A0_2 l0_2.length c0_2, .int .i64 a0_3, .int .i64 a0_4, .int .i64 a0_5, .int .i64 a0_6] 27 (0, 0)) (by (with_reducible repeat (first | refine blk_drewN ?_ _ | refine blk_drew ?_ | refine blk_alloc ?_ _)); exact BK162.out) hb); have n1_ := Aside0.mk (below_step (by repeat (first | (with_reducible first | exact HB.out | apply below_alloc | apply pw_below_drewN | apply below_drew1 | refine below_set ?_ GE162.out) | exact HB.out)) hb); clear BK162; clear HB; have BK162 := n0_; have HB := n1_; clear n0_ n1_; (try clear hb); (try clear hb2); (try clear hk); (try clear hi)))
                              go_ret
                              exact ⟨by first | rfl | (simp [errW_none, errW_some] <;> rfl) | (simp [*, errW_none, errW_some] <;> rfl), by repeat (first | (with_reducible first | exact HB.out | apply below_alloc | apply pw_below_drewN | apply below_drew1 | refine below_set ?_ GE162.out) | exact HB.out)⟩
                        · rw [if_neg c79] at H
                          rw [hr_.out] at H
                          exact absurd (Option.some.inj H) (by decide)

/-- THE ONE PURE STATEMENT of lodgerlaw05_BlockOffsets: yours. -/
def lodgerlaw05_BlockOffsets.Pure : Prop := ∀ (a0_0 : Int) (a0_1 : Int) (l0_2 : List Int) (a0_3 : Int) (a0_4 : Int) (a0_5 : Int) (a0_6 : Int) (a1 : Int) (a2 : Int) (a3 : Int), (Lit.int .u32 a0_0).wf = true → (Lit.int .i64 a0_1).wf = true → l0_2.length ≤ maxLen → (∀ x ∈ l0_2, (Lit.int .i64 x).wf = true) → (Lit.int .i64 a0_3).wf = true → (Lit.int .i64 a0_4).wf = true → (Lit.int .i64 a0_5).wf = true → (Lit.int .i64 a0_6).wf = true → (Lit.int .u32 a1).wf = true → (Lit.int .u16 a2).wf = true → (Lit.int .u16 a3).wf = true → ∃ k, lodgerlaw05_BlockOffsets.f k a0_0 a0_1 l0_2 a0_3 a0_4 a0_5 a0_6 a1 a2 a3 = some true
theorem lodgerlaw05_BlockOffsets.walk (P : lodgerlaw05_BlockOffsets.Pure) (a0_0 : Int) (a0_1 : Int) (a0_2 : Option Addr) (len0_2 cap0_2 : Nat) (z0_2 : List Int) (a0_3 : Int) (a0_4 : Int) (a0_5 : Int) (a0_6 : Int) (a1 : Int) (a2 : Int) (a3 : Int) (w : World) (w0_0 : (Lit.int .u32 a0_0).wf = true) (w0_1 : (Lit.int .i64 a0_1).wf = true) (w0_2 : (a0_2 = none ∧ len0_2 = 0 ∧ cap0_2 = 0 ∧ z0_2 = []) ∨ ∃ x, a0_2 = some x ∧ len0_2 ≤ cap0_2 ∧ cap0_2 ≤ maxLen ∧ z0_2.length = cap0_2 ∧ (∀ i, i < z0_2.length → w.cell? (x.add i) = some (.int .i64 (z0_2.getD i 0))) ∧ ∀ n ∈ z0_2, (Lit.int .i64 n).wf = true) (w0_3 : (Lit.int .i64 a0_3).wf = true) (w0_4 : (Lit.int .i64 a0_4).wf = true) (w0_5 : (Lit.int .i64 a0_5).wf = true) (w0_6 : (Lit.int .i64 a0_6).wf = true) (w1 : (Lit.int .u32 a1).wf = true) (w2 : (Lit.int .u16 a2).wf = true) (w3 : (Lit.int .u16 a3).wf = true) :
    Calls Try.prog 9 #[.agg #[.int .u32 a0_0, .int .i64 a0_1, .slice a0_2 len0_2 cap0_2, .int .i64 a0_3, .int .i64 a0_4, .int .i64 a0_5, .int .i64 a0_6], .int .u32 a1, .int .u16 a2, .int .u16 a3] w fun e w' => e = .returned (.bool true) ∧ Below w.heap.size w w' := by
  obtain ⟨l0_2, rfl, hr0_2, hm0_2, hw0_2, hc0_2⟩ := ReadsInt.ofRowC w0_2
  obtain ⟨k, h⟩ := P a0_0 a0_1 l0_2 a0_3 a0_4 a0_5 a0_6 a1 a2 a3 w0_0 w0_1 hm0_2 hw0_2 w0_3 w0_4 w0_5 w0_6 w1 w2 w3
  refine (lodgerlaw05_BlockOffsets.calls k a0_0 a0_1 _ _ l0_2 a0_3 a0_4 a0_5 a0_6 a1 a2 a3 true w (Kd.C_of_reads (d := (0 : Int)) (h1 := fun _ => rfl) hr0_2) hc0_2 rfl h).mono ?_
  rintro e w' ⟨rfl, hd⟩
  exact ⟨rfl, hd⟩

end Go.Proofs.Ytibfbbeippamaaa.PBlockOffsets
