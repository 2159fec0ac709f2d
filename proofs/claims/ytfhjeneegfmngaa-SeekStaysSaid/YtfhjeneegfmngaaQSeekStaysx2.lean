/- The walk of SeekStays, part of it: what the Go functions answer; no condition. -/
import Derived.Test.YtfhjeneegfmngaaQSeekStaysxf
import Derived.Test.YtfhjeneegfmngaaQSeekStaysx0
import Derived.Test.YtfhjeneegfmngaaQSeekStaysx1
namespace Go.Proofs.Ytfhjeneegfmngaa.PSeekStays
open Go.RowKit Go.Proofs.YtfhjeneegfmngaaW.PrintWords Go.Proofs.YtfhjeneegfmngaaW.PrintLast Go.Proofs.YtfhjeneegfmngaaW.PrintMore
attribute [local go_sem] max2_int min2_int max_two min_two max_three min_three max_four min_four   -- for this text's walks alone
set_option linter.unusedVariables false
set_option linter.unusedSimpArgs false

variable {tb_ : Int → Option Addr × Nat × Nat}

/-! ### hint_Find: function 32 -/
def hint_Find.l0 : Nat → Int → Int → Int → Option (Int × Bool)
 | 0, _, _, _ => none
 | k + 1, x0, x2, x8 => if x8 < x2 then ((bits_Has.f x0 x8).bind fun t122 => (if t122 = true then (hint_Find.l0 k x0 x2 (wrap64 (x8 + 1))) else (some (x8, true)))) else (some (0, false))
def hint_Find.f (k : Nat) (a0 a1 a2 : Int) : Option (Int × Bool) := hint_Find.l0 k a0 a2 a1
theorem hint_Find.mono_l : ∀ k, (∀ y0 y1 y2, LeO (hint_Find.l0 k y0 y1 y2) (hint_Find.l0 (k + 1) y0 y1 y2))
 | 0 => fun _ _ _ r h => by simp [hint_Find.l0] at h
 | k + 1 => by
  have ih0 := hint_Find.mono_l k
  ·intro y0 y1 y2
   unfold hint_Find.l0
   repeat' (with_reducible first | apply ih0 | exact LeO.refl _ | exact LeO.none _ | refine LeO.ite ?_ ?_ | refine LeO.bind ?_ (fun _ => ?_))
theorem hint_Find.mono : ∀ a0 a1 a2 k, LeO (hint_Find.f k a0 a1 a2) (hint_Find.f (k + 1) a0 a1 a2) := by
 intro a0 a1 a2 k
 have ih0 := hint_Find.mono_l k
 unfold hint_Find.f
 repeat' (with_reducible first | apply ih0 | exact LeO.refl _ | exact LeO.none _ | refine LeO.ite ?_ ?_ | refine LeO.bind ?_ (fun _ => ?_))
set_option maxHeartbeats 8000000 in
set_option maxRecDepth 100000 in
theorem hint_Find.calls (k : Nat) (a0 a1 : Int) (a2 r1 : Int) (r2 : Bool) (w : World) (h : hint_Find.f k a0 a1 a2 = some (r1, r2)) :
  Calls Try.prog 32 #[.int .u64 a0, .int .i64 a1, .int .i64 a2] w fun e w' => e = .returned (.tuple #[.int .i64 r1, .bool r2]) ∧ Drawn0 w w' := by
 have H : (hint_Find.l0 k a0 a2 a1) = some (r1, r2) := h
 clear h
 have H' := Aside0.mk H
 clear H
 go_enter Try.func32, Try.ntmps32
 go_wp2
 go_loopg [8] k (fun kq v8 w' => ∃ (aa : Int), v8 = .int .i64 aa ∧ Aside0 (hint_Find.l0 kq a0 a2 aa = some (r1, r2)) ∧ Aside0 (kq ≤ k) ∧ Drawn0 w w')
 case atStart => exact ⟨(a1), rs_, H', ⟨Nat.le_refl _⟩, dn_⟩
 case round =>
  clear H'
  try clear p2
  try clear c3
  obtain ⟨aa, rfl, HA, HK1, ⟨m1, rfl⟩⟩ := hrel
  cases gk with
  | zero => exact absurd HA.out (by simp [hint_Find.l0])
  | succ k1 =>
   have H := HA.out; clear HA; simp only [hint_Find.l0] at H
   by_cases c4 : aa < a2
   ·rw [if_pos c4] at H
    have ac : decide (aa < a2) = true := decide_eq_true c4
    clear c4; replace H := bi_ H; obtain ⟨ab, A50, H⟩ := H
    replace H : (if ab = true then (hint_Find.l0 k1 a0 a2 (wrap64 (aa + 1))) else (some (aa, true))) = some (r1, r2) := H
    have A5 := Aside0.mk A50; clear A50
    by_cases c6 : ab = true
    ·subst c6
     have H1 : (hint_Find.l0 k1 a0 a2 (wrap64 (aa + 1))) = some (r1, r2) := pf_ rfl H
     clear H; have H := H1; clear H1
     have H' := Aside0.mk H
     clear H
     go_wp2_with (first | ((with_reducible refine gate_callee (f := 43) rfl ?_); refine goesL_ (some 17) rfl rfl Try.func43 (by kernel_rfl) rfl #[.int .u64 a0, .int .i64 aa] rfl am_ ?_; (with_reducible refine (bits_Has.calls a0 aa true _ A5.out).mono ?_); rintro e w' ⟨rfl, ⟨nd, rfl⟩⟩; refine ⟨_, rfl, ?_⟩) | (go_at_call 43; (with_reducible refine (bits_Has.calls a0 aa true _ A5.out).mono ?_); rintro e w' ⟨rfl, ⟨nd, rfl⟩⟩))
     go_roundg k1
     case measure => have := HK1.out; omega
     case rel => exact ⟨(wrap64 (aa + 1)), rs_, H', ⟨om_ HK1⟩, dn_⟩
    ·replace c6 := Bool.eq_false_iff.mpr c6
     subst c6
     have H1 : (some (aa, true)) = some (r1, r2) := nf_ H
     clear H; have H := H1; clear H1; simp only [Option.some.injEq, Prod.mk.injEq] at H; obtain ⟨rfl, rfl⟩ := H
     go_wp2_with (first | ((with_reducible refine gate_callee (f := 43) rfl ?_); refine goesL_ (some 17) rfl rfl Try.func43 (by kernel_rfl) rfl #[.int .u64 a0, .int .i64 aa] rfl am_ ?_; (with_reducible refine (bits_Has.calls a0 aa false _ A5.out).mono ?_); rintro e w' ⟨rfl, ⟨nd, rfl⟩⟩; refine ⟨_, rfl, ?_⟩) | (go_at_call 43; (with_reducible refine (bits_Has.calls a0 aa false _ A5.out).mono ?_); rintro e w' ⟨rfl, ⟨nd, rfl⟩⟩))
     go_ret2
     exact ⟨rs_, dn_⟩
   ·rw [if_neg c4] at H
    have ac : decide (aa < a2) = false := decide_eq_false c4
    clear c4; simp only [Option.some.injEq, Prod.mk.injEq] at H; obtain ⟨rfl, rfl⟩ := H
    go_wp2
    go_ret2
    exact ⟨rs_, dn_⟩

/-! ### seek_Step: function 11 -/
def seek_Step.f (k : Nat) (a0_0 a0_1 : Int) (l0_2 : List Int) (a0_3 a0_4 : Int) (a0_5 a0_6 : Int) (l1 : List Int) (a2_0 a2_1 : Int) (a2_2 a2_3 a2_4 : Int) (a2_5 : Bool) (a2_6 a2_7 : Int) (a2_8 a2_9 : Int) (a2_10 a2_11 : Int) (a2_12 a2_13 : Int) (a2_14 : Bool) (a2_15 a2_16 : Int) (a2_17 a2_18 a2_19 : Int) : Option (Int × Int × Int × Int × Int × Bool × Int × Int × Int × Int × Int × Int × Int × Int × Bool × Int × Int × Int × Int × Int) := (block_Many.f a0_0 a0_1).bind fun t126 => (if a2_16 = 0 then ((place_Cells.f t126).bind fun t127 => ((cells_Load.f l1 (wrap64 (t127 - 1))).bind fun t128 => ((seek_further.f k a0_0 a0_1 l0_2 a0_3 a0_4 a0_5 a0_6 a2_0 a2_1 a2_2 a2_3 a2_4 a2_5 a2_6 a2_7 a2_8 a2_9 a2_10 a2_11 a2_12 t128 a2_14 a2_15 a2_16 a2_17 a2_18 a2_19 0).bind fun bt129 => (some (bt129.1, bt129.2.1, bt129.2.2.1, bt129.2.2.2.1, bt129.2.2.2.2.1, bt129.2.2.2.2.2.1, bt129.2.2.2.2.2.2.1, bt129.2.2.2.2.2.2.2.1, bt129.2.2.2.2.2.2.2.2.1, bt129.2.2.2.2.2.2.2.2.2.1, bt129.2.2.2.2.2.2.2.2.2.2.1, bt129.2.2.2.2.2.2.2.2.2.2.2.1, bt129.2.2.2.2.2.2.2.2.2.2.2.2.1, bt129.2.2.2.2.2.2.2.2.2.2.2.2.2.1, bt129.2.2.2.2.2.2.2.2.2.2.2.2.2.2.1, bt129.2.2.2.2.2.2.2.2.2.2.2.2.2.2.2.1, bt129.2.2.2.2.2.2.2.2.2.2.2.2.2.2.2.2.1, bt129.2.2.2.2.2.2.2.2.2.2.2.2.2.2.2.2.2.1, bt129.2.2.2.2.2.2.2.2.2.2.2.2.2.2.2.2.2.2.1, bt129.2.2.2.2.2.2.2.2.2.2.2.2.2.2.2.2.2.2.2))))) else ((seek_leaves.f a0_0 a0_1 l0_2 a0_3 a0_4 a0_5 a0_6 a2_0 a2_1 a2_2 a2_3 a2_4 a2_5 a2_6 a2_7 a2_8 a2_9 a2_10 a2_11 a2_12 a2_13 a2_14 a2_15 a2_16 a2_17 a2_18 a2_19).bind fun bt149 => ((place_Leaves.f t126).bind fun t151 => ((cells_Load.f l1 (wrap64 (t151 + (wrap64 (a2_16 - 1))))).bind fun t152 => ((hint_Find.f k t152 (wrap64 ((mx bt149.1 (wrap64 ((wrap64 (a2_16 - 1)) * 64))) - (wrap64 ((wrap64 (a2_16 - 1)) * 64)))) (wrap64 ((mn bt149.2 (wrap64 ((wrap64 ((wrap64 (a2_16 - 1)) + 1)) * 64))) - (wrap64 ((wrap64 (a2_16 - 1)) * 64))))).bind fun bt153 => (if bt153.2 = true then (some (a2_0, a2_1, a2_2, a2_3, a2_4, a2_5, a2_6, a2_7, 2, a2_9, a2_10, wrap64 ((wrap64 ((wrap64 (a2_16 - 1)) * 64)) + bt153.1), a2_12, 0, a2_14, a2_15, 0, a2_17, a2_18, a2_19)) else ((seek_further.f k a0_0 a0_1 l0_2 a0_3 a0_4 a0_5 a0_6 a2_0 a2_1 a2_2 a2_3 a2_4 a2_5 a2_6 a2_7 a2_8 a2_9 a2_10 a2_11 a2_12 a2_13 a2_14 a2_15 a2_16 a2_17 a2_18 a2_19 (wrap64 ((wrap64 (a2_16 - 1)) + 1))).bind fun bt155 => (some (bt155.1, bt155.2.1, bt155.2.2.1, bt155.2.2.2.1, bt155.2.2.2.2.1, bt155.2.2.2.2.2.1, bt155.2.2.2.2.2.2.1, bt155.2.2.2.2.2.2.2.1, bt155.2.2.2.2.2.2.2.2.1, bt155.2.2.2.2.2.2.2.2.2.1, bt155.2.2.2.2.2.2.2.2.2.2.1, bt155.2.2.2.2.2.2.2.2.2.2.2.1, bt155.2.2.2.2.2.2.2.2.2.2.2.2.1, bt155.2.2.2.2.2.2.2.2.2.2.2.2.2.1, bt155.2.2.2.2.2.2.2.2.2.2.2.2.2.2.1, bt155.2.2.2.2.2.2.2.2.2.2.2.2.2.2.2.1, bt155.2.2.2.2.2.2.2.2.2.2.2.2.2.2.2.2.1, bt155.2.2.2.2.2.2.2.2.2.2.2.2.2.2.2.2.2.1, bt155.2.2.2.2.2.2.2.2.2.2.2.2.2.2.2.2.2.2.1, bt155.2.2.2.2.2.2.2.2.2.2.2.2.2.2.2.2.2.2.2)))))))))
theorem seek_Step.mono : ∀ a0 a1 a2 a3 a4 a5 a6 a7 a8 a9 a10 a11 a12 a13 a14 a15 a16 a17 a18 a19 a20 a21 a22 a23 a24 a25 a26 a27 k, LeO (seek_Step.f k a0 a1 a2 a3 a4 a5 a6 a7 a8 a9 a10 a11 a12 a13 a14 a15 a16 a17 a18 a19 a20 a21 a22 a23 a24 a25 a26 a27) (seek_Step.f (k + 1) a0 a1 a2 a3 a4 a5 a6 a7 a8 a9 a10 a11 a12 a13 a14 a15 a16 a17 a18 a19 a20 a21 a22 a23 a24 a25 a26 a27) := by
 intro a0 a1 a2 a3 a4 a5 a6 a7 a8 a9 a10 a11 a12 a13 a14 a15 a16 a17 a18 a19 a20 a21 a22 a23 a24 a25 a26 a27 k
 unfold seek_Step.f
 repeat' (with_reducible first | apply hint_Find.mono | apply seek_further.mono | exact LeO.refl _ | exact LeO.none _ | refine LeO.ite ?_ ?_ | refine LeO.bind ?_ (fun _ => ?_))
set_option maxHeartbeats 8000000 in
set_option maxRecDepth 100000 in
theorem seek_Step.calls (k : Nat) (a0_0 a0_1 : Int) (A0_2 : Option Addr) (c0_2 : Nat) (l0_2 : List Int) (a0_3 a0_4 a0_5 a0_6 : Int) (A1 : Option Addr) (c1 : Nat) (l1 : List Int) (a2_0 a2_1 a2_2 a2_3 a2_4 : Int) (a2_5 : Bool) (a2_6 a2_7 a2_8 a2_9 a2_10 a2_11 a2_12 a2_13 : Int) (a2_14 : Bool) (a2_15 a2_16 a2_17 a2_18 a2_19 : Int) (r1 r2 r3 r4 r5 : Int) (r6 : Bool) (r7 r8 r9 r10 r11 r12 r13 r14 : Int) (r15 : Bool) (r16 r17 r18 r19 r20 : Int) (w : World) (hr0_2 : Kd.C (Kd.int .i64) w A0_2 l0_2.length l0_2) (hc0_2 : l0_2.length ≤ c0_2) (hr1 : Kd.C (Kd.int .u64) w A1 l1.length l1) (hc1 : l1.length ≤ c1) (h : seek_Step.f k a0_0 a0_1 l0_2 a0_3 a0_4 a0_5 a0_6 l1 a2_0 a2_1 a2_2 a2_3 a2_4 a2_5 a2_6 a2_7 a2_8 a2_9 a2_10 a2_11 a2_12 a2_13 a2_14 a2_15 a2_16 a2_17 a2_18 a2_19 = some (r1, r2, r3, r4, r5, r6, r7, r8, r9, r10, r11, r12, r13, r14, r15, r16, r17, r18, r19, r20)) :
  Calls Try.prog 11 #[.agg #[.int .u32 a0_0, .int .i64 a0_1, .slice A0_2 l0_2.length c0_2, .int .i64 a0_3, .int .i64 a0_4, .int .i64 a0_5, .int .i64 a0_6], .slice A1 l1.length c1, .agg #[.int .i64 a2_0, .int .u32 a2_1, rho_ tb_ a2_2, .int .i64 a2_3, .int .u32 a2_4, .bool a2_5, rho_ tb_ a2_6, rho_ tb_ a2_7, .int .i64 a2_8, .int .i64 a2_9, .int .i64 a2_10, .int .i64 a2_11, .int .i64 a2_12, .int .u64 a2_13, .bool a2_14, rho_ tb_ a2_15, .int .i64 a2_16, .int .i64 a2_17, .int .i64 a2_18, .int .i64 a2_19]] w fun e w' => e = .returned (.agg #[.int .i64 r1, .int .u32 r2, rho_ tb_ r3, .int .i64 r4, .int .u32 r5, .bool r6, rho_ tb_ r7, rho_ tb_ r8, .int .i64 r9, .int .i64 r10, .int .i64 r11, .int .i64 r12, .int .i64 r13, .int .u64 r14, .bool r15, rho_ tb_ r16, .int .i64 r17, .int .i64 r18, .int .i64 r19, .int .i64 r20]) ∧ Below w.heap.size w w' := by
  have hu27 := Try.underlying27
  have hu41 := Try.underlying41
  have hu24 := Try.underlying24
  have HR0_2 := Aside0.mk hr0_2
  have HC0_2 := Aside0.mk hc0_2
  have HR1 := Aside0.mk hr1
  have HC1 := Aside0.mk hc1
  clear hr0_2 hc0_2 hr1 hc1
  have HB := Aside0.mk (Below.refl w.heap.size w)
  unfold seek_Step.f at h
  obtain ⟨t126, A4, h⟩ := Option.bind_eq_some_iff.mp h
  by_cases c5 : a2_16 = 0
  · rw [if_pos c5] at h
    have c5b : (a2_16 == 0) = true := beq_iff_eq.mpr c5
    obtain ⟨t127, A6, h⟩ := Option.bind_eq_some_iff.mp h
    obtain ⟨t128, A7, h⟩ := Option.bind_eq_some_iff.mp h
    obtain ⟨⟨u1, u2, u3, u4, u5, u6, u7, u8, u9, u10, u11, u12, u13, u14, u15, u16, u17, u18, u19, u20⟩, A8, h⟩ := Option.bind_eq_some_iff.mp h
    simp only [Option.some.injEq, Prod.mk.injEq] at h
    obtain ⟨rfl, rfl, rfl, rfl, rfl, rfl, rfl, rfl, rfl, rfl, rfl, rfl, rfl, rfl, rfl, rfl, rfl, rfl, rfl, rfl⟩ := h
    go_enter Try.func11, Try.ntmps11
    go_wp2_with (first
    | ((with_reducible refine gd_ 3 ?_); refine bx_ (N := 3) (cs := #[.int .u32 a0_0, .int .i64 a0_1, .slice A0_2 l0_2.length c0_2, .int .i64 a0_3, .int .i64 a0_4, .int .i64 a0_5, .int .i64 a0_6]) (t := 27) ?_; intro g3 hg w3 B3 hb; have G3 := gG_ hg HB; replace HB := hS_ HB hb; clear hb hg)
    | ((with_reducible refine gd_ 5 ?_); refine bx_ (N := 5) (cs := #[.int .i64 a2_0, .int .u32 a2_1, rho_ tb_ a2_2, .int .i64 a2_3, .int .u32 a2_4, .bool a2_5, rho_ tb_ a2_6, rho_ tb_ a2_7, .int .i64 a2_8, .int .i64 a2_9, .int .i64 a2_10, .int .i64 a2_11, .int .i64 a2_12, .int .u64 a2_13, .bool a2_14, rho_ tb_ a2_15, .int .i64 a2_16, .int .i64 a2_17, .int .i64 a2_18, .int .i64 a2_19]) (t := 41) ?_; intro g5 hg w5 B5 hb; have G5 := gG_ hg HB; have N35 := nL_ hg B3; replace B3 := bB_ B3 hb; replace HB := hS_ HB hb; clear hb hg)
    | ((with_reducible refine gd_ 6 ?_); refine bx_ (N := 6) (cs := #[.int .i64 0, .int .u32 0, rho_ tb_ 0, .int .i64 0, .int .u32 0, .bool false, rho_ tb_ 0, rho_ tb_ 0, .int .i64 0, .int .i64 0, .int .i64 0, .int .i64 0, .int .i64 0, .int .u64 0, .bool false, rho_ tb_ 0, .int .i64 0, .int .i64 0, .int .i64 0, .int .i64 0]) (t := 41) ?_; intro g6 hg w6 B6 hb; have G6 := gG_ hg HB; have N36 := nL_ hg B3; have N56 := nL_ hg B5; replace B3 := bB_ B3 hb; replace B5 := bB_ B5 hb; replace HB := hS_ HB hb; clear hb hg; have z0 : w6.cell? ⟨g3, 0, none⟩ = some (.int .u32 a0_0) := (blk_cell B3.out 0).trans rfl; have z1 : w6.cell? ⟨g3, 1, none⟩ = some (.int .i64 a0_1) := (blk_cell B3.out 1).trans rfl)
    | ((with_reducible refine gate_callee (f := 26) rfl ?_); refine gM_ (some 18) Try.func26 (block_Many.calls a0_0 a0_1 t126 _ A4) ?_; rintro e w7 ⟨rfl, hb⟩; refine ⟨_, rfl, ?_⟩; replace B3 := bB_ B3 hb; replace B5 := bB_ B5 hb; replace B6 := bB_ B6 hb; replace HB := hS_ HB hb; have x16 : w7.cell? ⟨g5, 16, none⟩ = some (.int .i64 a2_16) := (blk_cell B5.out 16).trans rfl; have y16 := blk_frozen B5.out 16; clear hb)
    | ((with_reducible refine gate_callee (f := 28) rfl ?_); refine gM_ (some 24) Try.func28 (place_Cells.calls t126 t127 _ A6) ?_; rintro e w8 ⟨rfl, hd⟩; refine ⟨_, rfl, ?_⟩; have hb := hd.below; clear hd; replace B3 := bB_ B3 hb; replace B5 := bB_ B5 hb; replace B6 := bB_ B6 hb; replace HB := hS_ HB hb; clear hb)
    | ((with_reducible refine gate_callee (f := 27) rfl ?_); refine gM_ (some 26) Try.func27 (cells_Load.calls A1 c1 l1 (wrap64 (t127 - 1)) t128 _ (cC_ HR1 HB) HC1.out A7) ?_; rintro e w9 ⟨rfl, hd⟩; refine ⟨_, rfl, ?_⟩; have hb := hd.below; clear hd; replace B3 := bB_ B3 hb; replace B5 := bB_ B5 hb; replace B6 := bB_ B6 hb; replace HB := hS_ HB hb; have x13 : w9.cell? ⟨g5, 13, none⟩ = some (.int .u64 a2_13) := (blk_cell B5.out 13).trans rfl; have y13 := blk_frozen B5.out 13; have D5 := Aside0.mk (blk_put (cs := #[.int .i64 a2_0, .int .u32 a2_1, rho_ tb_ a2_2, .int .i64 a2_3, .int .u32 a2_4, .bool a2_5, rho_ tb_ a2_6, rho_ tb_ a2_7, .int .i64 a2_8, .int .i64 a2_9, .int .i64 a2_10, .int .i64 a2_11, .int .i64 a2_12, .int .u64 a2_13, .bool a2_14, rho_ tb_ a2_15, .int .i64 a2_16, .int .i64 a2_17, .int .i64 a2_18, .int .i64 a2_19]) (cs' := #[.int .i64 a2_0, .int .u32 a2_1, rho_ tb_ a2_2, .int .i64 a2_3, .int .u32 a2_4, .bool a2_5, rho_ tb_ a2_6, rho_ tb_ a2_7, .int .i64 a2_8, .int .i64 a2_9, .int .i64 a2_10, .int .i64 a2_11, .int .i64 a2_12, .int .u64 t128, .bool a2_14, rho_ tb_ a2_15, .int .i64 a2_16, .int .i64 a2_17, .int .i64 a2_18, .int .i64 a2_19]) B5.out 13 (.int .u64 t128) rfl); have D3 := Aside0.mk (blk_far (p := ⟨g5, 13, none⟩) B3.out N35.out (.int .u64 t128)); have D6 := Aside0.mk (blk_far (p := ⟨g5, 13, none⟩) B6.out N56.out.symm (.int .u64 t128)); have DB := Aside0.mk (below_set (j := 13) (v := .int .u64 t128) HB.out G5.out); clear hb)
    | ((with_reducible refine gd_ 28 ?_); refine wpList_load_row rfl 27 _ rfl g3 rfl 27 _ (0, 0) _ D3.out hu27 rfl (by kernel_rfl) ?_)
    | ((with_reducible refine gd_ 29 ?_); refine wpList_load_row rfl 41 _ rfl g5 rfl 41 _ (0, 0) _ D5.out hu41 rfl (by kernel_rfl) ?_)
    | ((with_reducible refine gate_callee (f := 29) rfl ?_); refine gM_ (some 30) Try.func29 (seek_further.calls (tb_ := tb_) k a0_0 a0_1 A0_2 c0_2 l0_2 a0_3 a0_4 a0_5 a0_6 a2_0 a2_1 a2_2 a2_3 a2_4 a2_5 a2_6 a2_7 a2_8 a2_9 a2_10 a2_11 a2_12 t128 a2_14 a2_15 a2_16 a2_17 a2_18 a2_19 0 u1 u2 u3 u4 u5 u6 u7 u8 u9 u10 u11 u12 u13 u14 u15 u16 u17 u18 u19 u20 _ (cC_ HR0_2 DB) HC0_2.out A8) ?_; rintro e w10 ⟨rfl, hb⟩; refine ⟨_, rfl, ?_⟩; replace D6 := bB_ D6 hb; replace DB := hS_ DB hb; clear hb)
    | ((with_reducible refine gs_ (ty := 41) rfl ?_); refine st_ D6 ?_))
    refine bodyPost_ret (results_cell_row (p := 6) (ty := 41) rfl _ _ g6 41 _ (0, 0) _ rfl (setRow_heap _ _ _ _ _ _ D6.out) hu41 rfl (by kernel_rfl)) rfl ?_
    exact ⟨rfl, below_setRow DB.out G6.out _⟩
  · rw [if_neg c5] at h
    have c5b : (a2_16 == 0) = false := beq_eq_false_iff_ne.mpr c5
    obtain ⟨⟨t149, t150⟩, A21, h⟩ := Option.bind_eq_some_iff.mp h
    obtain ⟨t151, A22, h⟩ := Option.bind_eq_some_iff.mp h
    obtain ⟨t152, A23, h⟩ := Option.bind_eq_some_iff.mp h
    obtain ⟨⟨t153, t154⟩, A26, h⟩ := Option.bind_eq_some_iff.mp h
    cases t154 with
    | true =>
      replace h := pf_ rfl h
      simp only [Option.some.injEq, Prod.mk.injEq] at h
      obtain ⟨e1, e2, e3, e4, e5, e6, e7, e8, e9, e10, e11, e12, e13, e14, e15, e16, e17, e18, e19, e20⟩ := h; subst r1 r2 r3 r4 r5 r6 r7 r8 r9 r10 r11 r12 r13 r14 r15 r16 r17 r18 r19 r20
      go_enter Try.func11, Try.ntmps11
      go_wp2_with (first
    | ((with_reducible refine gd_ 3 ?_); refine bx_ (N := 3) (cs := #[.int .u32 a0_0, .int .i64 a0_1, .slice A0_2 l0_2.length c0_2, .int .i64 a0_3, .int .i64 a0_4, .int .i64 a0_5, .int .i64 a0_6]) (t := 27) ?_; intro g3 hg w3 B3 hb; have G3 := gG_ hg HB; replace HB := hS_ HB hb; clear hb hg)
    | ((with_reducible refine gd_ 5 ?_); refine bx_ (N := 5) (cs := #[.int .i64 a2_0, .int .u32 a2_1, rho_ tb_ a2_2, .int .i64 a2_3, .int .u32 a2_4, .bool a2_5, rho_ tb_ a2_6, rho_ tb_ a2_7, .int .i64 a2_8, .int .i64 a2_9, .int .i64 a2_10, .int .i64 a2_11, .int .i64 a2_12, .int .u64 a2_13, .bool a2_14, rho_ tb_ a2_15, .int .i64 a2_16, .int .i64 a2_17, .int .i64 a2_18, .int .i64 a2_19]) (t := 41) ?_; intro g5 hg w5 B5 hb; have G5 := gG_ hg HB; have N35 := nL_ hg B3; replace B3 := bB_ B3 hb; replace HB := hS_ HB hb; clear hb hg)
    | ((with_reducible refine gd_ 6 ?_); refine bx_ (N := 6) (cs := #[.int .i64 0, .int .u32 0, rho_ tb_ 0, .int .i64 0, .int .u32 0, .bool false, rho_ tb_ 0, rho_ tb_ 0, .int .i64 0, .int .i64 0, .int .i64 0, .int .i64 0, .int .i64 0, .int .u64 0, .bool false, rho_ tb_ 0, .int .i64 0, .int .i64 0, .int .i64 0, .int .i64 0]) (t := 41) ?_; intro g6 hg w6 B6 hb; have G6 := gG_ hg HB; have N36 := nL_ hg B3; have N56 := nL_ hg B5; replace B3 := bB_ B3 hb; replace B5 := bB_ B5 hb; replace HB := hS_ HB hb; clear hb hg; have z0 : w6.cell? ⟨g3, 0, none⟩ = some (.int .u32 a0_0) := (blk_cell B3.out 0).trans rfl; have z1 : w6.cell? ⟨g3, 1, none⟩ = some (.int .i64 a0_1) := (blk_cell B3.out 1).trans rfl)
    | ((with_reducible refine gate_callee (f := 26) rfl ?_); refine gM_ (some 18) Try.func26 (block_Many.calls a0_0 a0_1 t126 _ A4) ?_; rintro e w7 ⟨rfl, hb⟩; refine ⟨_, rfl, ?_⟩; replace B3 := bB_ B3 hb; replace B5 := bB_ B5 hb; replace B6 := bB_ B6 hb; replace HB := hS_ HB hb; have x16 : w7.cell? ⟨g5, 16, none⟩ = some (.int .i64 a2_16) := (blk_cell B5.out 16).trans rfl; have y16 := blk_frozen B5.out 16; clear hb)
    | ((with_reducible refine gd_ 35 ?_); refine ld_ B3 hu27 ?_)
    | ((with_reducible refine gd_ 36 ?_); refine ld_ B5 hu41 ?_)
    | ((with_reducible refine gate_callee (f := 30) rfl ?_); refine gM_ (some 37) Try.func30 (seek_leaves.calls (tb_ := tb_) a0_0 a0_1 A0_2 c0_2 l0_2 a0_3 a0_4 a0_5 a0_6 a2_0 a2_1 a2_2 a2_3 a2_4 a2_5 a2_6 a2_7 a2_8 a2_9 a2_10 a2_11 a2_12 a2_13 a2_14 a2_15 a2_16 a2_17 a2_18 a2_19 t149 t150 _ (cC_ HR0_2 HB) HC0_2.out A21) ?_; rintro e w8 ⟨rfl, hb⟩; refine ⟨_, rfl, ?_⟩; replace B3 := bB_ B3 hb; replace B5 := bB_ B5 hb; replace B6 := bB_ B6 hb; replace HB := hS_ HB hb; clear hb)
    | ((with_reducible refine gate_callee (f := 31) rfl ?_); refine gM_ (some 42) Try.func31 (place_Leaves.calls t126 t151 _ A22) ?_; rintro e w9 ⟨rfl, hd⟩; refine ⟨_, rfl, ?_⟩; have hb := hd.below; clear hd; replace B3 := bB_ B3 hb; replace B5 := bB_ B5 hb; replace B6 := bB_ B6 hb; replace HB := hS_ HB hb; clear hb)
    | ((with_reducible refine gate_callee (f := 27) rfl ?_); refine gM_ (some 45) Try.func27 (cells_Load.calls A1 c1 l1 (wrap64 (t151 + wrap64 (a2_16 - 1))) t152 _ (cC_ HR1 HB) HC1.out A23) ?_; rintro e w10 ⟨rfl, hd⟩; refine ⟨_, rfl, ?_⟩; have hb := hd.below; clear hd; replace B3 := bB_ B3 hb; replace B5 := bB_ B5 hb; replace B6 := bB_ B6 hb; replace HB := hS_ HB hb; clear hb)
    | ((with_reducible refine gate_callee (f := 32) rfl ?_); refine gM_ (some 63) Try.func32 (hint_Find.calls k t152 (wrap64 (mx t149 (wrap64 (wrap64 (a2_16 - 1) * 64)) - (wrap64 (wrap64 (a2_16 - 1) * 64)))) (wrap64 (mn t150 (wrap64 (wrap64 (wrap64 (a2_16 - 1) + 1) * 64)) - (wrap64 (wrap64 (a2_16 - 1) * 64)))) t153 true _ A26) ?_; rintro e w11 ⟨rfl, hd⟩; refine ⟨_, rfl, ?_⟩; have hb := hd.below; clear hd; replace B3 := bB_ B3 hb; replace B5 := bB_ B5 hb; replace B6 := bB_ B6 hb; replace HB := hS_ HB hb; have x8 : w11.cell? ⟨g5, 8, none⟩ = some (.int .i64 a2_8) := (blk_cell B5.out 8).trans rfl; have y8 := blk_frozen B5.out 8; have x11 : w11.cell? ⟨g5, 11, none⟩ = some (.int .i64 a2_11) := (blk_cell B5.out 11).trans rfl; have y11 := blk_frozen B5.out 11; have x13 : w11.cell? ⟨g5, 13, none⟩ = some (.int .u64 a2_13) := (blk_cell B5.out 13).trans rfl; have y13 := blk_frozen B5.out 13; have x16 : w11.cell? ⟨g5, 16, none⟩ = some (.int .i64 a2_16) := (blk_cell B5.out 16).trans rfl; have y16 := blk_frozen B5.out 16; have D5 := Aside0.mk (blk_put (cs := #[.int .i64 a2_0, .int .u32 a2_1, rho_ tb_ a2_2, .int .i64 a2_3, .int .u32 a2_4, .bool a2_5, rho_ tb_ a2_6, rho_ tb_ a2_7, .int .i64 2, .int .i64 a2_9, .int .i64 a2_10, .int .i64 (wrap64 ((wrap64 (wrap64 (a2_16 - 1) * 64)) + t153)), .int .i64 a2_12, .int .u64 0, .bool a2_14, rho_ tb_ a2_15, .int .i64 a2_16, .int .i64 a2_17, .int .i64 a2_18, .int .i64 a2_19]) (cs' := #[.int .i64 a2_0, .int .u32 a2_1, rho_ tb_ a2_2, .int .i64 a2_3, .int .u32 a2_4, .bool a2_5, rho_ tb_ a2_6, rho_ tb_ a2_7, .int .i64 2, .int .i64 a2_9, .int .i64 a2_10, .int .i64 (wrap64 ((wrap64 (wrap64 (a2_16 - 1) * 64)) + t153)), .int .i64 a2_12, .int .u64 0, .bool a2_14, rho_ tb_ a2_15, .int .i64 0, .int .i64 a2_17, .int .i64 a2_18, .int .i64 a2_19]) (blk_put (cs := #[.int .i64 a2_0, .int .u32 a2_1, rho_ tb_ a2_2, .int .i64 a2_3, .int .u32 a2_4, .bool a2_5, rho_ tb_ a2_6, rho_ tb_ a2_7, .int .i64 2, .int .i64 a2_9, .int .i64 a2_10, .int .i64 (wrap64 ((wrap64 (wrap64 (a2_16 - 1) * 64)) + t153)), .int .i64 a2_12, .int .u64 a2_13, .bool a2_14, rho_ tb_ a2_15, .int .i64 a2_16, .int .i64 a2_17, .int .i64 a2_18, .int .i64 a2_19]) (cs' := #[.int .i64 a2_0, .int .u32 a2_1, rho_ tb_ a2_2, .int .i64 a2_3, .int .u32 a2_4, .bool a2_5, rho_ tb_ a2_6, rho_ tb_ a2_7, .int .i64 2, .int .i64 a2_9, .int .i64 a2_10, .int .i64 (wrap64 ((wrap64 (wrap64 (a2_16 - 1) * 64)) + t153)), .int .i64 a2_12, .int .u64 0, .bool a2_14, rho_ tb_ a2_15, .int .i64 a2_16, .int .i64 a2_17, .int .i64 a2_18, .int .i64 a2_19]) (blk_put (cs := #[.int .i64 a2_0, .int .u32 a2_1, rho_ tb_ a2_2, .int .i64 a2_3, .int .u32 a2_4, .bool a2_5, rho_ tb_ a2_6, rho_ tb_ a2_7, .int .i64 a2_8, .int .i64 a2_9, .int .i64 a2_10, .int .i64 (wrap64 ((wrap64 (wrap64 (a2_16 - 1) * 64)) + t153)), .int .i64 a2_12, .int .u64 a2_13, .bool a2_14, rho_ tb_ a2_15, .int .i64 a2_16, .int .i64 a2_17, .int .i64 a2_18, .int .i64 a2_19]) (cs' := #[.int .i64 a2_0, .int .u32 a2_1, rho_ tb_ a2_2, .int .i64 a2_3, .int .u32 a2_4, .bool a2_5, rho_ tb_ a2_6, rho_ tb_ a2_7, .int .i64 2, .int .i64 a2_9, .int .i64 a2_10, .int .i64 (wrap64 ((wrap64 (wrap64 (a2_16 - 1) * 64)) + t153)), .int .i64 a2_12, .int .u64 a2_13, .bool a2_14, rho_ tb_ a2_15, .int .i64 a2_16, .int .i64 a2_17, .int .i64 a2_18, .int .i64 a2_19]) (blk_put (cs := #[.int .i64 a2_0, .int .u32 a2_1, rho_ tb_ a2_2, .int .i64 a2_3, .int .u32 a2_4, .bool a2_5, rho_ tb_ a2_6, rho_ tb_ a2_7, .int .i64 a2_8, .int .i64 a2_9, .int .i64 a2_10, .int .i64 a2_11, .int .i64 a2_12, .int .u64 a2_13, .bool a2_14, rho_ tb_ a2_15, .int .i64 a2_16, .int .i64 a2_17, .int .i64 a2_18, .int .i64 a2_19]) (cs' := #[.int .i64 a2_0, .int .u32 a2_1, rho_ tb_ a2_2, .int .i64 a2_3, .int .u32 a2_4, .bool a2_5, rho_ tb_ a2_6, rho_ tb_ a2_7, .int .i64 a2_8, .int .i64 a2_9, .int .i64 a2_10, .int .i64 (wrap64 ((wrap64 (wrap64 (a2_16 - 1) * 64)) + t153)), .int .i64 a2_12, .int .u64 a2_13, .bool a2_14, rho_ tb_ a2_15, .int .i64 a2_16, .int .i64 a2_17, .int .i64 a2_18, .int .i64 a2_19]) B5.out 11 (.int .i64 (wrap64 ((wrap64 (wrap64 (a2_16 - 1) * 64)) + t153))) rfl) 8 (.int .i64 2) rfl) 13 (.int .u64 0) rfl) 16 (.int .i64 0) rfl); have D6 := Aside0.mk (blk_far (p := ⟨g5, 16, none⟩) (blk_far (p := ⟨g5, 13, none⟩) (blk_far (p := ⟨g5, 8, none⟩) (blk_far (p := ⟨g5, 11, none⟩) B6.out N56.out.symm (.int .i64 (wrap64 ((wrap64 (wrap64 (a2_16 - 1) * 64)) + t153)))) N56.out.symm (.int .i64 2)) N56.out.symm (.int .u64 0)) N56.out.symm (.int .i64 0)); have DB := Aside0.mk (below_set (j := 16) (v := .int .i64 0) (below_set (j := 13) (v := .int .u64 0) (below_set (j := 8) (v := .int .i64 2) (below_set (j := 11) (v := .int .i64 (wrap64 ((wrap64 (wrap64 (a2_16 - 1) * 64)) + t153))) HB.out G5.out) G5.out) G5.out) G5.out); clear hb)
    | ((with_reducible refine gd_ 74 ?_); refine wpList_load_row rfl 41 _ rfl g5 rfl 41 _ (0, 0) _ D5.out hu41 rfl (by kernel_rfl) ?_)
    | ((with_reducible refine gs_ (ty := 41) rfl ?_); refine st_ D6 ?_))
      all_goals refine bodyPost_ret (results_cell_row (p := 6) (ty := 41) rfl _ _ g6 41 _ (0, 0) _ rfl (setRow_heap _ _ _ _ _ _ D6.out) hu41 rfl (by kernel_rfl)) rfl ?_
      all_goals exact ⟨rfl, below_setRow DB.out G6.out _⟩
    | false =>
      replace h := nf_ h
      obtain ⟨⟨u1, u2, u3, u4, u5, u6, u7, u8, u9, u10, u11, u12, u13, u14, u15, u16, u17, u18, u19, u20⟩, A8, h⟩ := Option.bind_eq_some_iff.mp h
      simp only [Option.some.injEq, Prod.mk.injEq] at h
      obtain ⟨rfl, rfl, rfl, rfl, rfl, rfl, rfl, rfl, rfl, rfl, rfl, rfl, rfl, rfl, rfl, rfl, rfl, rfl, rfl, rfl⟩ := h
      go_enter Try.func11, Try.ntmps11
      go_wp2_with (first
    | ((with_reducible refine gd_ 3 ?_); refine bx_ (N := 3) (cs := #[.int .u32 a0_0, .int .i64 a0_1, .slice A0_2 l0_2.length c0_2, .int .i64 a0_3, .int .i64 a0_4, .int .i64 a0_5, .int .i64 a0_6]) (t := 27) ?_; intro g3 hg w3 B3 hb; have G3 := gG_ hg HB; replace HB := hS_ HB hb; clear hb hg)
    | ((with_reducible refine gd_ 5 ?_); refine bx_ (N := 5) (cs := #[.int .i64 a2_0, .int .u32 a2_1, rho_ tb_ a2_2, .int .i64 a2_3, .int .u32 a2_4, .bool a2_5, rho_ tb_ a2_6, rho_ tb_ a2_7, .int .i64 a2_8, .int .i64 a2_9, .int .i64 a2_10, .int .i64 a2_11, .int .i64 a2_12, .int .u64 a2_13, .bool a2_14, rho_ tb_ a2_15, .int .i64 a2_16, .int .i64 a2_17, .int .i64 a2_18, .int .i64 a2_19]) (t := 41) ?_; intro g5 hg w5 B5 hb; have G5 := gG_ hg HB; have N35 := nL_ hg B3; replace B3 := bB_ B3 hb; replace HB := hS_ HB hb; clear hb hg)
    | ((with_reducible refine gd_ 6 ?_); refine bx_ (N := 6) (cs := #[.int .i64 0, .int .u32 0, rho_ tb_ 0, .int .i64 0, .int .u32 0, .bool false, rho_ tb_ 0, rho_ tb_ 0, .int .i64 0, .int .i64 0, .int .i64 0, .int .i64 0, .int .i64 0, .int .u64 0, .bool false, rho_ tb_ 0, .int .i64 0, .int .i64 0, .int .i64 0, .int .i64 0]) (t := 41) ?_; intro g6 hg w6 B6 hb; have G6 := gG_ hg HB; have N36 := nL_ hg B3; have N56 := nL_ hg B5; replace B3 := bB_ B3 hb; replace B5 := bB_ B5 hb; replace HB := hS_ HB hb; clear hb hg; have z0 : w6.cell? ⟨g3, 0, none⟩ = some (.int .u32 a0_0) := (blk_cell B3.out 0).trans rfl; have z1 : w6.cell? ⟨g3, 1, none⟩ = some (.int .i64 a0_1) := (blk_cell B3.out 1).trans rfl)
    | ((with_reducible refine gate_callee (f := 26) rfl ?_); refine gM_ (some 18) Try.func26 (block_Many.calls a0_0 a0_1 t126 _ A4) ?_; rintro e w7 ⟨rfl, hb⟩; refine ⟨_, rfl, ?_⟩; replace B3 := bB_ B3 hb; replace B5 := bB_ B5 hb; replace B6 := bB_ B6 hb; replace HB := hS_ HB hb; have x16 : w7.cell? ⟨g5, 16, none⟩ = some (.int .i64 a2_16) := (blk_cell B5.out 16).trans rfl; have y16 := blk_frozen B5.out 16; clear hb)
    | ((with_reducible refine gd_ 35 ?_); refine ld_ B3 hu27 ?_)
    | ((with_reducible refine gd_ 36 ?_); refine ld_ B5 hu41 ?_)
    | ((with_reducible refine gate_callee (f := 30) rfl ?_); refine gM_ (some 37) Try.func30 (seek_leaves.calls (tb_ := tb_) a0_0 a0_1 A0_2 c0_2 l0_2 a0_3 a0_4 a0_5 a0_6 a2_0 a2_1 a2_2 a2_3 a2_4 a2_5 a2_6 a2_7 a2_8 a2_9 a2_10 a2_11 a2_12 a2_13 a2_14 a2_15 a2_16 a2_17 a2_18 a2_19 t149 t150 _ (cC_ HR0_2 HB) HC0_2.out A21) ?_; rintro e w8 ⟨rfl, hb⟩; refine ⟨_, rfl, ?_⟩; replace B3 := bB_ B3 hb; replace B5 := bB_ B5 hb; replace B6 := bB_ B6 hb; replace HB := hS_ HB hb; clear hb)
    | ((with_reducible refine gate_callee (f := 31) rfl ?_); refine gM_ (some 42) Try.func31 (place_Leaves.calls t126 t151 _ A22) ?_; rintro e w9 ⟨rfl, hd⟩; refine ⟨_, rfl, ?_⟩; have hb := hd.below; clear hd; replace B3 := bB_ B3 hb; replace B5 := bB_ B5 hb; replace B6 := bB_ B6 hb; replace HB := hS_ HB hb; clear hb)
    | ((with_reducible refine gate_callee (f := 27) rfl ?_); refine gM_ (some 45) Try.func27 (cells_Load.calls A1 c1 l1 (wrap64 (t151 + wrap64 (a2_16 - 1))) t152 _ (cC_ HR1 HB) HC1.out A23) ?_; rintro e w10 ⟨rfl, hd⟩; refine ⟨_, rfl, ?_⟩; have hb := hd.below; clear hd; replace B3 := bB_ B3 hb; replace B5 := bB_ B5 hb; replace B6 := bB_ B6 hb; replace HB := hS_ HB hb; clear hb)
    | ((with_reducible refine gate_callee (f := 32) rfl ?_); refine gM_ (some 63) Try.func32 (hint_Find.calls k t152 (wrap64 (mx t149 (wrap64 (wrap64 (a2_16 - 1) * 64)) - (wrap64 (wrap64 (a2_16 - 1) * 64)))) (wrap64 (mn t150 (wrap64 (wrap64 (wrap64 (a2_16 - 1) + 1) * 64)) - (wrap64 (wrap64 (a2_16 - 1) * 64)))) t153 false _ A26) ?_; rintro e w11 ⟨rfl, hd⟩; refine ⟨_, rfl, ?_⟩; have hb := hd.below; clear hd; replace B3 := bB_ B3 hb; replace B5 := bB_ B5 hb; replace B6 := bB_ B6 hb; replace HB := hS_ HB hb; clear hb)
    | ((with_reducible refine gd_ 75 ?_); refine ld_ B3 hu27 ?_)
    | ((with_reducible refine gd_ 76 ?_); refine ld_ B5 hu41 ?_)
    | ((with_reducible refine gate_callee (f := 29) rfl ?_); refine gM_ (some 79) Try.func29 (seek_further.calls (tb_ := tb_) k a0_0 a0_1 A0_2 c0_2 l0_2 a0_3 a0_4 a0_5 a0_6 a2_0 a2_1 a2_2 a2_3 a2_4 a2_5 a2_6 a2_7 a2_8 a2_9 a2_10 a2_11 a2_12 a2_13 a2_14 a2_15 a2_16 a2_17 a2_18 a2_19 (wrap64 (wrap64 (a2_16 - 1) + 1)) u1 u2 u3 u4 u5 u6 u7 u8 u9 u10 u11 u12 u13 u14 u15 u16 u17 u18 u19 u20 _ (cC_ HR0_2 HB) HC0_2.out A8) ?_; rintro e w12 ⟨rfl, hb⟩; refine ⟨_, rfl, ?_⟩; replace B6 := bB_ B6 hb; replace HB := hS_ HB hb; clear hb)
    | ((with_reducible refine gs_ (ty := 41) rfl ?_); refine st_ B6 ?_))
      all_goals refine bodyPost_ret (results_cell_row (p := 6) (ty := 41) rfl _ _ g6 41 _ (0, 0) _ rfl (setRow_heap _ _ _ _ _ _ B6.out) hu41 rfl (by kernel_rfl)) rfl ?_
      all_goals exact ⟨rfl, below_setRow HB.out G6.out _⟩

end Go.Proofs.Ytfhjeneegfmngaa.PSeekStays
