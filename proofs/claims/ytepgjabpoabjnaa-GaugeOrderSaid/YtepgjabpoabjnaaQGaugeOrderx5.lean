/- The walk of GaugeOrder, part of it: what the Go functions answer; no condition. -/
import Derived.Test.YtepgjabpoabjnaaQGaugeOrderx0
import Derived.Test.YtepgjabpoabjnaaQGaugeOrderx2
import Derived.Test.YtepgjabpoabjnaaQGaugeOrderx4
namespace Go.Proofs.Ytepgjabpoabjnaa.PGaugeOrder
open Go.RowKit Go.Proofs.YtepgjabpoabjnaaW.PrintWords Go.Proofs.YtepgjabpoabjnaaW.PrintLast Go.Proofs.YtepgjabpoabjnaaW.PrintMore
attribute [local go_sem] max2_int min2_int max_two min_two max_three min_three max_four min_four   -- for this text's walks alone
set_option linter.unusedVariables false
set_option linter.unusedSimpArgs false

/-! ### lodgerref09_May: function 21 -/
def lodgerref09_May.l0 : Nat → List Int → Int → Int → Int → List Int → Int → Int → Int → Int → Option (Bool)
 | 0, _, _, _, _, _, _, _, _, _ => none
 | k + 1, x1, x5, x174000, x174001, x174002, x174003, x174004, x174005, x174006 => if x5 < (x1.length : Int) then (if 0 ≤ x5 then (if (rd x1 x5) < 0 then (some false) else ((lodgerref05_Many.f k x174000 x174001).bind fun t176 => (if (rd x1 x5) ≥ t176 then (some false) else ((lodgerref05_Held.f k x174000 x174001 x174002 x174003 x174004 x174005 x174006 (rd x1 x5)).bind fun t178 => (if t178 = true then (some false) else (if x5 > 0 then (if 0 ≤ (wrap64 (x5 - 1)) then (if (wrap64 (x5 - 1)) < (x1.length : Int) then (if (rd x1 (wrap64 (x5 - 1))) ≥ (rd x1 x5) then (some false) else (lodgerref09_May.l0 k x1 (wrap64 (x5 + 1)) x174000 x174001 x174002 x174003 x174004 x174005 x174006)) else (none)) else (none)) else (lodgerref09_May.l0 k x1 (wrap64 (x5 + 1)) x174000 x174001 x174002 x174003 x174004 x174005 x174006))))))) else (none)) else (some true)
def lodgerref09_May.f (k : Nat) (a0_0 a0_1 : Int) (l0_2 : List Int) (a0_3 a0_4 : Int) (a0_5 a0_6 : Int) (l1 : List Int) : Option (Bool) := lodgerref09_May.l0 k l1 0 a0_0 a0_1 l0_2 a0_3 a0_4 a0_5 a0_6
theorem lodgerref09_May.mono_l : ∀ k, (∀ y0 y1 y2 y3 y4 y5 y6 y7 y8, LeO (lodgerref09_May.l0 k y0 y1 y2 y3 y4 y5 y6 y7 y8) (lodgerref09_May.l0 (k + 1) y0 y1 y2 y3 y4 y5 y6 y7 y8))
 | 0 => fun _ _ _ _ _ _ _ _ _ r h => by simp [lodgerref09_May.l0] at h
 | k + 1 => by
  have ih0 := lodgerref09_May.mono_l k
  ·intro y0 y1 y2 y3 y4 y5 y6 y7 y8
   unfold lodgerref09_May.l0
   repeat' (with_reducible first | apply ih0 | apply lodgerref05_Held.mono | apply lodgerref05_Many.mono | exact LeO.refl _ | exact LeO.none _ | refine LeO.ite ?_ ?_ | refine LeO.bind ?_ (fun _ => ?_))
theorem lodgerref09_May.mono : ∀ a0 a1 a2 a3 a4 a5 a6 a7 k, LeO (lodgerref09_May.f k a0 a1 a2 a3 a4 a5 a6 a7) (lodgerref09_May.f (k + 1) a0 a1 a2 a3 a4 a5 a6 a7) := by
 intro a0 a1 a2 a3 a4 a5 a6 a7 k
 have ih0 := lodgerref09_May.mono_l k
 unfold lodgerref09_May.f
 repeat' (with_reducible first | apply ih0 | apply lodgerref05_Held.mono | apply lodgerref05_Many.mono | exact LeO.refl _ | exact LeO.none _ | refine LeO.ite ?_ ?_ | refine LeO.bind ?_ (fun _ => ?_))
def lodgerref09_May.T4 : Bool × List (List Nat × List Nat) := (true, [([], []), ([], []), ([0, 1], [0, 1]), ([2], [2]), ([3], [3]), ([4], [4]), ([5], [5]), ([5], [5]), ([6, 7, 5], [5, 6, 7]), ([8, 5], [5, 8]), ([5], [5]), ([10, 5], [5, 10]), ([11, 5, 5], [5, 11]), ([9, 12, 5], [5, 9, 12]), ([5, 13], [5, 13]), ([14, 12], [14]), ([15], [15]), ([15], [15]), ([15], [15]), ([17, 18, 15], [15, 17, 18]), ([19, 15], [15, 19]), ([16, 20, 15, 15], [15, 16, 20]), ([15, 21], [15, 21]), ([22, 21], [22]), ([23], [23]), ([24, 23], [23, 24]), ([25, 23, 23], [23, 25]), ([26], [26]), ([26], [26]), ([28, 26], [26, 28]), ([27, 29, 26], [26, 27, 29]), ([30, 26], [26, 30]), ([26], [26]), ([26], [26]), ([32, 33, 26], [26, 32, 33]), ([34, 26], [26, 34]), ([31, 35, 26], [26, 31, 35]), ([26, 36, 23], [23, 26, 36]), ([23, 37], [23, 37])])
def lodgerref09_May.B4 : List Nat := [0, 0, 3, 7, 15, 31, 63, 63, 255, 511, 63, 1087, 3135, 8191, 16383, 32767, 65535, 65535, 65535, 458751, 983039, 2097151, 4194303, 8388607, 16777215, 33554431, 67108863, 134217727, 134217727, 402653183, 1073741823, 2147483647, 134217727, 134217727, 13019119615, 30198988799, 68719476735, 137438953471, 274877906943]
theorem lodgerref09_May.tab4 : rtab .any (opsOf Try.f21 4) = lodgerref09_May.T4 := by kernel_rfl
theorem lodgerref09_May.bits4 : waitsOk lodgerref09_May.T4.2 lodgerref09_May.B4 = true := by kernel_rfl
set_option maxHeartbeats 8000000 in
set_option maxRecDepth 100000 in
theorem lodgerref09_May.calls (k : Nat) (ad ae : Int) (al : Option Addr) (am : Nat) (af : List Int) (ag ah : Int) (ai aj : Int) (A1 : Option Addr) (c1 : Nat) (l1 : List Int) (r : Bool) (w : World) (hr0_2 : Kd.C (Kd.int .i64) w al af.length af) (hc0_2 : af.length ≤ am) (hr1 : Kd.C (Kd.int .i64) w A1 l1.length l1) (hc1 : l1.length ≤ c1) (h : lodgerref09_May.f k ad ae af ag ah ai aj l1 = some r) :
  Calls Try.prog 21 #[.agg #[.int .u32 ad, .int .i64 ae, .slice al af.length am, .int .i64 ag, .int .i64 ah, .int .i64 ai, .int .i64 aj], .slice A1 l1.length c1] w fun e w' => e = .returned (.bool r) ∧ Below w.heap.size w w' := by
 have hu27 := Try.underlying27
 have hu24 := Try.underlying24
 have ap := Aside0.mk hr0_2
 have ao := Aside0.mk hc0_2
 clear hr0_2 hc0_2
 have ak := Aside0.mk hr1
 have aD := Aside0.mk hc1
 clear hr1 hc1
 have HB := Aside0.mk (Below.refl w.heap.size w)
 have H : (lodgerref09_May.l0 k l1 0 ad ae af ag ah ai aj) = some r := h
 clear h
 have H' := Aside0.mk H
 clear H
 go_enter Try.func21, Try.ntmps21
 go_wp2_with (first | ((with_reducible refine gd_ 2 ?_); refine bx_ (N := 2) (cs := #[.int .u32 ad, .int .i64 ae, .slice al af.length am, .int .i64 ag, .int .i64 ah, .int .i64 ai, .int .i64 aj]) (t := 27) ?_; intro ac hg w3 aa hb; have az := gG_ hg HB; have ay := gG_ hg HB; replace HB := hS_ HB hb; clear hb hg))
 go_loopg [5] k (fun kq v5 w' => ∃ (ab : Int), v5 = .int .i64 ab ∧ Aside0 (lodgerref09_May.l0 kq l1 ab ad ae af ag ah ai aj = some r) ∧ Aside0 (kq ≤ k) ∧ Aside0 (w'.heap[ac]? = some (.cells #[.int .u32 ad, .int .i64 ae, (.slice al af.length am), .int .i64 ag, .int .i64 ah, .int .i64 ai, .int .i64 aj] 27 (0, 0))) ∧ Aside0 (Below w.heap.size w w'))
 case atStart => exact ⟨(0), rs_, H', ⟨Nat.le_refl _⟩, ⟨bk_ aa⟩, ⟨hB_ HB⟩⟩
 case round =>
  clear H'
  try clear c1
  try clear c2
  try clear p2
  obtain ⟨ab, rfl, HA, HK1, aa, HB⟩ := hrel
  cases gk with
  | zero => exact absurd HA.out (by simp [lodgerref09_May.l0])
  | succ k1 =>
   have H := HA.out; clear HA; simp only [lodgerref09_May.l0] at H
   by_cases c4 : ab < (l1.length : Int)
   ·rw [if_pos c4] at H
    have av : decide (ab < (l1.length : Int)) = true := decide_eq_true c4
    clear c4
    by_cases c5 : 0 ≤ ab
    ·rw [if_pos c5] at H
     have aC : decide (0 ≤ ab) = true := decide_eq_true c5
     clear c5
     by_cases c6 : (rd l1 ab) < 0
     ·rw [if_pos c6] at H
      have aw : decide ((rd l1 ab) < 0) = true := decide_eq_true c6
      clear c6
      obtain rfl := Option.some.inj H
      try go_wp2
      replace aa := Aside0.mk (blk_drew aa.out); replace HB := Aside0.mk (below_drew1 HB.out)
      have p174 : 0 ≤ (ab : Int) := od_
      have q174 : ab < (l1.length : Int) := od_
      obtain ⟨ad174, e174, hx174_0⟩ := Kd.at_int ak.out ab p174 q174; have hw174_0 := hx174_0
      cases e174
      replace hx174_0 := (HB.out.cell (World.block_lt_of_cell? w _ hx174_0)).trans hx174_0; replace p174 := eq_true p174; replace q174 := eq_true q174
      refine start_ (n := 39) (S := fun w' => w'.cell? (ad174.add (ab).toNat) = some (.int .i64 (rd l1 ab))) (ds := []) (tf 39 0) (by kernel_rfl) rfl rfl (((HB.out.cell (World.block_lt_of_cell? w _ hw174_0)).trans hw174_0)) (fun hHeld => ?_); refine with_tabW lodgerref09_May.tab4 lodgerref09_May.bits4 (fun HT_ HW_ => ?_)
      generalize wr.drew = w7 at aa HB hx174_0 hHeld ⊢
      refine puU_ 0 12 (tf 39 1) HT_ ?_; refine puU_ 1 13 (tf 39 3) HT_ ?_; refine puU_ 2 14 (tf 39 7) HT_ ?_; refine tkU_ 3 15 (tf 39 15) rfl rfl HT_ HW_ hHeld (by intro w' s0; go_simp; with_reducible rfl) ?_; refine puU_ 4 16 (tf 39 31) HT_ ?_; refine puU_ 5 17 (tf 39 63) HT_ ?_; refine pnU_ 6 18 (tf 39 127) HT_ ?_; refine pnU_ 7 19 (tf 39 255) HT_ ?_; refine pnU_ 8 20 (tf 39 511) HT_ ?_; refine pnU_ 9 21 (tf 39 1023) HT_ ?_; refine pnU_ 10 22 (tf 39 2047) HT_ ?_; refine pnU_ 11 23 (tf 39 4095) HT_ ?_; refine pnU_ 12 24 (tf 39 8191) HT_ ?_; refine pnU_ 13 25 (tf 39 16383) HT_ ?_; refine puU_ 14 26 (tf 39 32767) HT_ ?_; refine puU_ 15 27 (tf 39 65535) HT_ ?_; refine pnU_ 16 28 (tf 39 131071) HT_ ?_; refine pnU_ 17 29 (tf 39 262143) HT_ ?_; refine pnU_ 18 30 (tf 39 524287) HT_ ?_; refine pnU_ 19 31 (tf 39 1048575) HT_ ?_; refine pnU_ 20 32 (tf 39 2097151) HT_ ?_; refine pnU_ 21 33 (tf 39 4194303) HT_ ?_; refine puU_ 22 34 (tf 39 8388607) HT_ ?_; refine puU_ 23 35 (tf 39 16777215) HT_ ?_; refine pnU_ 24 36 (tf 39 33554431) HT_ ?_; refine pnU_ 25 37 (tf 39 67108863) HT_ ?_; refine pnU_ 26 38 (tf 39 134217727) HT_ ?_; refine pnU_ 27 39 (tf 39 268435455) HT_ ?_; refine pnU_ 28 40 (tf 39 536870911) HT_ ?_; refine pnU_ 29 41 (tf 39 1073741823) HT_ ?_; refine pnU_ 30 42 (tf 39 2147483647) HT_ ?_; refine pnU_ 31 43 (tf 39 4294967295) HT_ ?_; refine pnU_ 32 44 (tf 39 8589934591) HT_ ?_; refine pnU_ 33 45 (tf 39 17179869183) HT_ ?_; refine pnU_ 34 46 (tf 39 34359738367) HT_ ?_; refine pnU_ 35 47 (tf 39 68719476735) HT_ ?_; refine pnU_ 36 48 (tf 39 137438953471) HT_ ?_; refine pnU_ 37 49 (tf 39 274877906943) HT_ ?_; refine puU_ 38 50 (tf 39 549755813887) HT_ ?_
      refine done_ (done_of HT_.out (by kernel_rfl)) ?_
      try go_wp2
      go_ret
      exact ⟨er_, hB_ HB⟩
     ·rw [if_neg c6] at H
      have aw : decide ((rd l1 ab) < 0) = false := decide_eq_false c6
      clear c6; replace H := bi_ H; obtain ⟨an, A80, H⟩ := H
      replace H : (if (rd l1 ab) ≥ an then (some false) else ((lodgerref05_Held.f k1 ad ae af ag ah ai aj (rd l1 ab)).bind fun aq => (if aq = true then (some false) else (if ab > 0 then (if 0 ≤ (wrap64 (ab - 1)) then (if (wrap64 (ab - 1)) < (l1.length : Int) then (if (rd l1 (wrap64 (ab - 1))) ≥ (rd l1 ab) then (some false) else (lodgerref09_May.l0 k1 l1 (wrap64 (ab + 1)) ad ae af ag ah ai aj)) else (none)) else (none)) else (lodgerref09_May.l0 k1 l1 (wrap64 (ab + 1)) ad ae af ag ah ai aj))))) = some r := H
      have A8 := Aside0.mk A80; clear A80
      by_cases c9 : (rd l1 ab) ≥ an
      ·rw [if_pos c9] at H
       have ax : decide (an ≤ (rd l1 ab)) = true := decide_eq_true c9
       clear c9
       obtain rfl := Option.some.inj H
       try go_wp2
       replace aa := Aside0.mk (blk_drew aa.out); replace HB := Aside0.mk (below_drew1 HB.out)
       have p174 : 0 ≤ (ab : Int) := od_
       have q174 : ab < (l1.length : Int) := od_
       obtain ⟨ad174, e174, hx174_0⟩ := Kd.at_int ak.out ab p174 q174; have hw174_0 := hx174_0
       cases e174
       replace hx174_0 := (HB.out.cell (World.block_lt_of_cell? w _ hx174_0)).trans hx174_0; replace p174 := eq_true p174; replace q174 := eq_true q174
       have p175 : 0 ≤ (ab : Int) := od_
       have q175 : ab < (l1.length : Int) := od_
       obtain ⟨ad175, e175, hx175_0⟩ := Kd.at_int ak.out ab p175 q175; have hw175_0 := hx175_0
       obtain rfl : ad174 = ad175 := (by injection e175)
       replace hx175_0 := (HB.out.cell (World.block_lt_of_cell? w _ hx175_0)).trans hx175_0; replace p175 := eq_true p175; replace q175 := eq_true q175
       refine start_ (n := 39) (S := fun w' => w'.cell? ⟨ac, 0, none⟩ = some (.int .u32 ad) ∧ w'.cell? ⟨ac, 1, none⟩ = some (.int .i64 ae) ∧ w'.cell? ⟨ac, 2, none⟩ = some (.slice al af.length am) ∧ w'.cell? ⟨ac, 3, none⟩ = some (.int .i64 ag) ∧ w'.cell? ⟨ac, 4, none⟩ = some (.int .i64 ah) ∧ w'.cell? ⟨ac, 5, none⟩ = some (.int .i64 ai) ∧ w'.cell? ⟨ac, 6, none⟩ = some (.int .i64 aj) ∧ w'.cell? (ad174.add (ab).toNat) = some (.int .i64 (rd l1 ab)) ∧ w'.cell? (ad174.add (ab).toNat) = some (.int .i64 (rd l1 ab))) (ds := []) (tf 39 0) (by kernel_rfl) rfl rfl ⟨(blk_cell aa.out 0).trans rfl, (blk_cell aa.out 1).trans rfl, (blk_cell aa.out 2).trans rfl, (blk_cell aa.out 3).trans rfl, (blk_cell aa.out 4).trans rfl, (blk_cell aa.out 5).trans rfl, (blk_cell aa.out 6).trans rfl, ((HB.out.cell (World.block_lt_of_cell? w _ hw174_0)).trans hw174_0), ((HB.out.cell (World.block_lt_of_cell? w _ hw175_0)).trans hw175_0)⟩ (fun hHeld => ?_); refine with_tabW lodgerref09_May.tab4 lodgerref09_May.bits4 (fun HT_ HW_ => ?_)
       generalize wr.drew = w10 at aa HB hx174_0 hx175_0 hHeld ⊢
       refine puU_ 0 12 (tf 39 1) HT_ ?_; refine puU_ 1 13 (tf 39 3) HT_ ?_; refine puU_ 2 14 (tf 39 7) HT_ ?_; refine tkU_ 3 15 (tf 39 15) rfl rfl HT_ HW_ hHeld (by rintro w' ⟨s0, s1, s2, s3, s4, s5, s6, s7, s8⟩; go_simp; with_reducible rfl) ?_; refine puU_ 4 16 (tf 39 31) HT_ ?_; refine puU_ 5 17 (tf 39 63) HT_ ?_; refine puU_ 6 18 (tf 39 127) HT_ ?_; refine puU_ 7 19 (tf 39 255) HT_ ?_; refine puU_ 8 20 (tf 39 511) HT_ ?_; refine puU_ 10 22 (tf 39 1535) HT_ ?_; refine tkU_ 9 21 (tf 39 2047) rfl rfl HT_ HW_ hHeld (by rintro w' ⟨s0, s1, s2, s3, s4, s5, s6, s7, s8⟩; go_simp; with_reducible rfl) ?_; refine tkU_ 11 23 (tf 39 4095) rfl rfl HT_ HW_ hHeld (by rintro w' ⟨s0, s1, s2, s3, s4, s5, s6, s7, s8⟩; go_simp; with_reducible rfl) ?_
       refine on_ (i := 12) (N := some 24) (tf 39 8191) HT_ (fun K hK => ?_)
       refine goes_ Try.func20 (by kernel_rfl) rfl #[.agg #[.int .u32 ad, .int .i64 ae]] (by rfl) rfl rfl am_ ?_
       with_reducible refine (lodgerref05_Many.calls k1 ad ae an _ A8.out).mono ?_
       rintro e w11 ⟨rfl, hb⟩
       refine ⟨_, rfl, ?_⟩
       replace aa := bB_ aa hb; replace HB := hS_ HB hb
       (try clear hb)
       (try clear hb2)
       (try clear hk)
       (try clear hi)
       refine hK.out _ _ ⟨(blk_cell aa.out 0).trans rfl, (blk_cell aa.out 1).trans rfl, (blk_cell aa.out 2).trans rfl, (blk_cell aa.out 3).trans rfl, (blk_cell aa.out 4).trans rfl, (blk_cell aa.out 5).trans rfl, (blk_cell aa.out 6).trans rfl, ((HB.out.cell (World.block_lt_of_cell? w _ hw174_0)).trans hw174_0), ((HB.out.cell (World.block_lt_of_cell? w _ hw175_0)).trans hw175_0)⟩ (fun hHeld => ?_)
       clear hK K
       refine norm_ (a' := ?_) ?_ ?_
       rotate_left
       ·show Act.put _ (some 24) _ = _
        simp only [Act.put, List.setIfInBounds_toArray, List.set_cons_zero, List.set_cons_succ, i64_w, i32_w]
        rfl
       refine puU_ 13 25 (tf 39 16383) HT_ ?_; refine puU_ 14 26 (tf 39 32767) HT_ ?_; refine puU_ 15 27 (tf 39 65535) HT_ ?_; refine pnU_ 16 28 (tf 39 131071) HT_ ?_; refine pnU_ 17 29 (tf 39 262143) HT_ ?_; refine pnU_ 18 30 (tf 39 524287) HT_ ?_; refine pnU_ 19 31 (tf 39 1048575) HT_ ?_; refine pnU_ 20 32 (tf 39 2097151) HT_ ?_; refine pnU_ 21 33 (tf 39 4194303) HT_ ?_; refine puU_ 22 34 (tf 39 8388607) HT_ ?_; refine puU_ 23 35 (tf 39 16777215) HT_ ?_; refine pnU_ 24 36 (tf 39 33554431) HT_ ?_; refine pnU_ 25 37 (tf 39 67108863) HT_ ?_; refine pnU_ 26 38 (tf 39 134217727) HT_ ?_; refine pnU_ 27 39 (tf 39 268435455) HT_ ?_; refine pnU_ 28 40 (tf 39 536870911) HT_ ?_; refine pnU_ 29 41 (tf 39 1073741823) HT_ ?_; refine pnU_ 30 42 (tf 39 2147483647) HT_ ?_; refine pnU_ 31 43 (tf 39 4294967295) HT_ ?_; refine pnU_ 32 44 (tf 39 8589934591) HT_ ?_; refine pnU_ 33 45 (tf 39 17179869183) HT_ ?_; refine pnU_ 34 46 (tf 39 34359738367) HT_ ?_; refine pnU_ 35 47 (tf 39 68719476735) HT_ ?_; refine pnU_ 36 48 (tf 39 137438953471) HT_ ?_; refine pnU_ 37 49 (tf 39 274877906943) HT_ ?_; refine puU_ 38 50 (tf 39 549755813887) HT_ ?_
       refine done_ (done_of HT_.out (by kernel_rfl)) ?_
       try go_wp2
       go_ret
       exact ⟨er_, hB_ HB⟩
      ·rw [if_neg c9] at H
       have ax : decide (an ≤ (rd l1 ab)) = false := decide_eq_false c9
       clear c9; replace H := bi_ H; obtain ⟨aq, A120, H⟩ := H
       replace H : (if aq = true then (some false) else (if ab > 0 then (if 0 ≤ (wrap64 (ab - 1)) then (if (wrap64 (ab - 1)) < (l1.length : Int) then (if (rd l1 (wrap64 (ab - 1))) ≥ (rd l1 ab) then (some false) else (lodgerref09_May.l0 k1 l1 (wrap64 (ab + 1)) ad ae af ag ah ai aj)) else (none)) else (none)) else (lodgerref09_May.l0 k1 l1 (wrap64 (ab + 1)) ad ae af ag ah ai aj))) = some r := H
       have A12 := Aside0.mk A120; clear A120
       by_cases c13 : aq = true
       ·subst c13
        have H1 : (some false) = some r := pf_ rfl H
        clear H; have H := H1; clear H1
        obtain rfl := Option.some.inj H
        try go_wp2
        replace aa := Aside0.mk (blk_drew aa.out); replace HB := Aside0.mk (below_drew1 HB.out)
        have p174 : 0 ≤ (ab : Int) := od_
        have q174 : ab < (l1.length : Int) := od_
        obtain ⟨ad174, e174, hx174_0⟩ := Kd.at_int ak.out ab p174 q174; have hw174_0 := hx174_0
        cases e174
        replace hx174_0 := (HB.out.cell (World.block_lt_of_cell? w _ hx174_0)).trans hx174_0; replace p174 := eq_true p174; replace q174 := eq_true q174
        have p175 : 0 ≤ (ab : Int) := od_
        have q175 : ab < (l1.length : Int) := od_
        obtain ⟨ad175, e175, hx175_0⟩ := Kd.at_int ak.out ab p175 q175; have hw175_0 := hx175_0
        obtain rfl : ad174 = ad175 := (by injection e175)
        replace hx175_0 := (HB.out.cell (World.block_lt_of_cell? w _ hx175_0)).trans hx175_0; replace p175 := eq_true p175; replace q175 := eq_true q175
        have p177 : 0 ≤ (ab : Int) := od_
        have q177 : ab < (l1.length : Int) := od_
        obtain ⟨ad177, e177, hx177_0⟩ := Kd.at_int ak.out ab p177 q177; have hw177_0 := hx177_0
        obtain rfl : ad174 = ad177 := (by injection e177)
        replace hx177_0 := (HB.out.cell (World.block_lt_of_cell? w _ hx177_0)).trans hx177_0; replace p177 := eq_true p177; replace q177 := eq_true q177
        refine start_ (n := 39) (S := fun w' => w'.cell? ⟨ac, 0, none⟩ = some (.int .u32 ad) ∧ w'.cell? ⟨ac, 1, none⟩ = some (.int .i64 ae) ∧ w'.cell? ⟨ac, 2, none⟩ = some (.slice al af.length am) ∧ w'.cell? ⟨ac, 3, none⟩ = some (.int .i64 ag) ∧ w'.cell? ⟨ac, 4, none⟩ = some (.int .i64 ah) ∧ w'.cell? ⟨ac, 5, none⟩ = some (.int .i64 ai) ∧ w'.cell? ⟨ac, 6, none⟩ = some (.int .i64 aj) ∧ w'.cell? (ad174.add (ab).toNat) = some (.int .i64 (rd l1 ab)) ∧ w'.cell? (ad174.add (ab).toNat) = some (.int .i64 (rd l1 ab)) ∧ w'.cell? (ad174.add (ab).toNat) = some (.int .i64 (rd l1 ab))) (ds := []) (tf 39 0) (by kernel_rfl) rfl rfl ⟨(blk_cell aa.out 0).trans rfl, (blk_cell aa.out 1).trans rfl, (blk_cell aa.out 2).trans rfl, (blk_cell aa.out 3).trans rfl, (blk_cell aa.out 4).trans rfl, (blk_cell aa.out 5).trans rfl, (blk_cell aa.out 6).trans rfl, ((HB.out.cell (World.block_lt_of_cell? w _ hw174_0)).trans hw174_0), ((HB.out.cell (World.block_lt_of_cell? w _ hw175_0)).trans hw175_0), ((HB.out.cell (World.block_lt_of_cell? w _ hw177_0)).trans hw177_0)⟩ (fun hHeld => ?_); refine with_tabW lodgerref09_May.tab4 lodgerref09_May.bits4 (fun HT_ HW_ => ?_)
        generalize wr.drew = w14 at aa HB hx174_0 hx175_0 hx177_0 hHeld ⊢
        refine puU_ 0 12 (tf 39 1) HT_ ?_; refine puU_ 1 13 (tf 39 3) HT_ ?_; refine puU_ 2 14 (tf 39 7) HT_ ?_; refine tkU_ 3 15 (tf 39 15) rfl rfl HT_ HW_ hHeld (by rintro w' ⟨s0, s1, s2, s3, s4, s5, s6, s7, s8, s9⟩; go_simp; with_reducible rfl) ?_; refine puU_ 4 16 (tf 39 31) HT_ ?_; refine puU_ 5 17 (tf 39 63) HT_ ?_; refine puU_ 6 18 (tf 39 127) HT_ ?_; refine puU_ 7 19 (tf 39 255) HT_ ?_; refine puU_ 8 20 (tf 39 511) HT_ ?_; refine puU_ 10 22 (tf 39 1535) HT_ ?_; refine tkU_ 9 21 (tf 39 2047) rfl rfl HT_ HW_ hHeld (by rintro w' ⟨s0, s1, s2, s3, s4, s5, s6, s7, s8, s9⟩; go_simp; with_reducible rfl) ?_; refine tkU_ 11 23 (tf 39 4095) rfl rfl HT_ HW_ hHeld (by rintro w' ⟨s0, s1, s2, s3, s4, s5, s6, s7, s8, s9⟩; go_simp; with_reducible rfl) ?_
        refine on_ (i := 12) (N := some 24) (tf 39 8191) HT_ (fun K hK => ?_)
        refine goes_ Try.func20 (by kernel_rfl) rfl #[.agg #[.int .u32 ad, .int .i64 ae]] (by rfl) rfl rfl am_ ?_
        with_reducible refine (lodgerref05_Many.calls k1 ad ae an _ A8.out).mono ?_
        rintro e w15 ⟨rfl, hb⟩
        refine ⟨_, rfl, ?_⟩
        replace aa := bB_ aa hb; replace HB := hS_ HB hb
        (try clear hb)
        (try clear hb2)
        (try clear hk)
        (try clear hi)
        refine hK.out _ _ ⟨(blk_cell aa.out 0).trans rfl, (blk_cell aa.out 1).trans rfl, (blk_cell aa.out 2).trans rfl, (blk_cell aa.out 3).trans rfl, (blk_cell aa.out 4).trans rfl, (blk_cell aa.out 5).trans rfl, (blk_cell aa.out 6).trans rfl, ((HB.out.cell (World.block_lt_of_cell? w _ hw174_0)).trans hw174_0), ((HB.out.cell (World.block_lt_of_cell? w _ hw175_0)).trans hw175_0), ((HB.out.cell (World.block_lt_of_cell? w _ hw177_0)).trans hw177_0)⟩ (fun hHeld => ?_)
        clear hK K
        refine norm_ (a' := ?_) ?_ ?_
        rotate_left
        ·show Act.put _ (some 24) _ = _
         simp only [Act.put, List.setIfInBounds_toArray, List.set_cons_zero, List.set_cons_succ, i64_w, i32_w]
         rfl
        refine puU_ 13 25 (tf 39 16383) HT_ ?_; refine puU_ 14 26 (tf 39 32767) HT_ ?_; refine puU_ 15 27 (tf 39 65535) HT_ ?_; refine puU_ 17 29 (tf 39 196607) HT_ ?_; refine puU_ 18 30 (tf 39 458751) HT_ ?_; refine puU_ 19 31 (tf 39 983039) HT_ ?_; refine tkU_ 16 28 (tf 39 1048575) rfl rfl HT_ HW_ hHeld (by rintro w' ⟨s0, s1, s2, s3, s4, s5, s6, s7, s8, s9⟩; go_simp; with_reducible rfl) ?_; refine tkU_ 20 32 (tf 39 2097151) rfl rfl HT_ HW_ hHeld (by rintro w' ⟨s0, s1, s2, s3, s4, s5, s6, s7, s8, s9⟩; go_simp; with_reducible rfl) ?_
        refine on_ (i := 21) (N := some 33) (tf 39 4194303) HT_ (fun K hK => ?_)
        refine goes_ Try.func25 (by kernel_rfl) rfl #[.agg #[.int .u32 ad, .int .i64 ae, .slice al af.length am, .int .i64 ag, .int .i64 ah, .int .i64 ai, .int .i64 aj], .int .i64 (rd l1 ab)] (by rfl) rfl rfl am_ ?_
        with_reducible refine (lodgerref05_Held.calls k1 ad ae _ _ af ag ah ai aj (rd l1 ab) true _ ?side1 ?side2 A12.out).mono ?_
        (case side1 => exact cC_ ap HB)
        (case side2 => exact ao.out)
        rintro e w16 ⟨rfl, hb⟩
        refine ⟨_, rfl, ?_⟩
        replace aa := bB_ aa hb; replace HB := hS_ HB hb
        (try clear hb)
        (try clear hb2)
        (try clear hk)
        (try clear hi)
        refine hK.out _ _ ⟨(blk_cell aa.out 0).trans rfl, (blk_cell aa.out 1).trans rfl, (blk_cell aa.out 2).trans rfl, (blk_cell aa.out 3).trans rfl, (blk_cell aa.out 4).trans rfl, (blk_cell aa.out 5).trans rfl, (blk_cell aa.out 6).trans rfl, ((HB.out.cell (World.block_lt_of_cell? w _ hw174_0)).trans hw174_0), ((HB.out.cell (World.block_lt_of_cell? w _ hw175_0)).trans hw175_0), ((HB.out.cell (World.block_lt_of_cell? w _ hw177_0)).trans hw177_0)⟩ (fun hHeld => ?_)
        clear hK K
        refine norm_ (a' := ?_) ?_ ?_
        rotate_left
        ·show Act.put _ (some 33) _ = _
         simp only [Act.put, List.setIfInBounds_toArray, List.set_cons_zero, List.set_cons_succ, i64_w, i32_w]
         rfl
        refine puU_ 22 34 (tf 39 8388607) HT_ ?_; refine puU_ 23 35 (tf 39 16777215) HT_ ?_; refine pnU_ 24 36 (tf 39 33554431) HT_ ?_; refine pnU_ 25 37 (tf 39 67108863) HT_ ?_; refine pnU_ 26 38 (tf 39 134217727) HT_ ?_; refine pnU_ 27 39 (tf 39 268435455) HT_ ?_; refine pnU_ 28 40 (tf 39 536870911) HT_ ?_; refine pnU_ 29 41 (tf 39 1073741823) HT_ ?_; refine pnU_ 30 42 (tf 39 2147483647) HT_ ?_; refine pnU_ 31 43 (tf 39 4294967295) HT_ ?_; refine pnU_ 32 44 (tf 39 8589934591) HT_ ?_; refine pnU_ 33 45 (tf 39 17179869183) HT_ ?_; refine pnU_ 34 46 (tf 39 34359738367) HT_ ?_; refine pnU_ 35 47 (tf 39 68719476735) HT_ ?_; refine pnU_ 36 48 (tf 39 137438953471) HT_ ?_; refine pnU_ 37 49 (tf 39 274877906943) HT_ ?_; refine puU_ 38 50 (tf 39 549755813887) HT_ ?_
        refine done_ (done_of HT_.out (by kernel_rfl)) ?_
        try go_wp2
        go_ret
        exact ⟨er_, hB_ HB⟩
       ·replace c13 := Bool.eq_false_iff.mpr c13
        subst c13
        have H1 : (if ab > 0 then (if 0 ≤ (wrap64 (ab - 1)) then (if (wrap64 (ab - 1)) < (l1.length : Int) then (if (rd l1 (wrap64 (ab - 1))) ≥ (rd l1 ab) then (some false) else (lodgerref09_May.l0 k1 l1 (wrap64 (ab + 1)) ad ae af ag ah ai aj)) else (none)) else (none)) else (lodgerref09_May.l0 k1 l1 (wrap64 (ab + 1)) ad ae af ag ah ai aj)) = some r := nf_ H
        clear H; have H := H1; clear H1
        by_cases c17 : ab > 0
        ·rw [if_pos c17] at H
         have ar : decide (0 < ab) = true := decide_eq_true c17
         clear c17; obtain ⟨ji18, hji18⟩ : ∃ j_ : Int, (wrap64 (ab - 1)) = j_ := ⟨_, rfl⟩
         replace H : (if 0 ≤ (ji18) then (if (ji18) < (l1.length : Int) then (if (rd l1 (ji18)) ≥ (rd l1 ab) then (some false) else (lodgerref09_May.l0 k1 l1 (wrap64 (ab + 1)) ad ae af ag ah ai aj)) else (none)) else (none)) = some r := by first | (rw [hji18] at H; exact H) | (simp only [hji18] at H ⊢; exact H)
         (try rw [hji18] at A8)
         (try rw [hji18] at A12)
         have hji18w : (IntKind.i64.wrap (ab - 1)) = ji18 := (i64_w _).trans hji18
         by_cases c19 : 0 ≤ (ji18)
         ·rw [if_pos c19] at H
          have aA : decide (0 ≤ (ji18)) = true := decide_eq_true c19
          clear c19
          by_cases c20 : (ji18) < (l1.length : Int)
          ·rw [if_pos c20] at H
           have aB : decide ((ji18) < (l1.length : Int)) = true := decide_eq_true c20
           clear c20
           by_cases c21 : (rd l1 (ji18)) ≥ (rd l1 ab)
           ·rw [if_pos c21] at H
            have au : decide ((rd l1 ab) ≤ (rd l1 (ji18))) = true := decide_eq_true c21
            clear c21
            obtain rfl := Option.some.inj H
            try go_wp2
            replace aa := Aside0.mk (blk_drew aa.out); replace HB := Aside0.mk (below_drew1 HB.out)
            have p174 : 0 ≤ (ab : Int) := od_
            have q174 : ab < (l1.length : Int) := od_
            obtain ⟨ad174, e174, hx174_0⟩ := Kd.at_int ak.out ab p174 q174; have hw174_0 := hx174_0
            cases e174
            replace hx174_0 := (HB.out.cell (World.block_lt_of_cell? w _ hx174_0)).trans hx174_0; replace p174 := eq_true p174; replace q174 := eq_true q174
            have p175 : 0 ≤ (ab : Int) := od_
            have q175 : ab < (l1.length : Int) := od_
            obtain ⟨ad175, e175, hx175_0⟩ := Kd.at_int ak.out ab p175 q175; have hw175_0 := hx175_0
            obtain rfl : ad174 = ad175 := (by injection e175)
            replace hx175_0 := (HB.out.cell (World.block_lt_of_cell? w _ hx175_0)).trans hx175_0; replace p175 := eq_true p175; replace q175 := eq_true q175
            have p177 : 0 ≤ (ab : Int) := od_
            have q177 : ab < (l1.length : Int) := od_
            obtain ⟨ad177, e177, hx177_0⟩ := Kd.at_int ak.out ab p177 q177; have hw177_0 := hx177_0
            obtain rfl : ad174 = ad177 := (by injection e177)
            replace hx177_0 := (HB.out.cell (World.block_lt_of_cell? w _ hx177_0)).trans hx177_0; replace p177 := eq_true p177; replace q177 := eq_true q177
            have p179 : 0 ≤ ((ji18) : Int) := od_
            have q179 : (ji18) < (l1.length : Int) := od_
            obtain ⟨ad179, e179, hx179_0⟩ := Kd.at_int ak.out (ji18) p179 q179; have hw179_0 := hx179_0
            obtain rfl : ad174 = ad179 := (by injection e179)
            replace hx179_0 := (HB.out.cell (World.block_lt_of_cell? w _ hx179_0)).trans hx179_0; replace p179 := eq_true p179; replace q179 := eq_true q179
            have p180 : 0 ≤ (ab : Int) := od_
            have q180 : ab < (l1.length : Int) := od_
            obtain ⟨ad180, e180, hx180_0⟩ := Kd.at_int ak.out ab p180 q180; have hw180_0 := hx180_0
            obtain rfl : ad174 = ad180 := (by injection e180)
            replace hx180_0 := (HB.out.cell (World.block_lt_of_cell? w _ hx180_0)).trans hx180_0; replace p180 := eq_true p180; replace q180 := eq_true q180
            refine start_ (n := 39) (S := fun w' => w'.cell? ⟨ac, 0, none⟩ = some (.int .u32 ad) ∧ w'.cell? ⟨ac, 1, none⟩ = some (.int .i64 ae) ∧ w'.cell? ⟨ac, 2, none⟩ = some (.slice al af.length am) ∧ w'.cell? ⟨ac, 3, none⟩ = some (.int .i64 ag) ∧ w'.cell? ⟨ac, 4, none⟩ = some (.int .i64 ah) ∧ w'.cell? ⟨ac, 5, none⟩ = some (.int .i64 ai) ∧ w'.cell? ⟨ac, 6, none⟩ = some (.int .i64 aj) ∧ w'.cell? (ad174.add (ab).toNat) = some (.int .i64 (rd l1 ab)) ∧ w'.cell? (ad174.add (ab).toNat) = some (.int .i64 (rd l1 ab)) ∧ w'.cell? (ad174.add (ab).toNat) = some (.int .i64 (rd l1 ab)) ∧ w'.cell? (ad174.add ((ji18)).toNat) = some (.int .i64 (rd l1 (ji18))) ∧ w'.cell? (ad174.add (ab).toNat) = some (.int .i64 (rd l1 ab))) (ds := []) (tf 39 0) (by kernel_rfl) rfl rfl ⟨(blk_cell aa.out 0).trans rfl, (blk_cell aa.out 1).trans rfl, (blk_cell aa.out 2).trans rfl, (blk_cell aa.out 3).trans rfl, (blk_cell aa.out 4).trans rfl, (blk_cell aa.out 5).trans rfl, (blk_cell aa.out 6).trans rfl, ((HB.out.cell (World.block_lt_of_cell? w _ hw174_0)).trans hw174_0), ((HB.out.cell (World.block_lt_of_cell? w _ hw175_0)).trans hw175_0), ((HB.out.cell (World.block_lt_of_cell? w _ hw177_0)).trans hw177_0), ((HB.out.cell (World.block_lt_of_cell? w _ hw179_0)).trans hw179_0), ((HB.out.cell (World.block_lt_of_cell? w _ hw180_0)).trans hw180_0)⟩ (fun hHeld => ?_); refine with_tabW lodgerref09_May.tab4 lodgerref09_May.bits4 (fun HT_ HW_ => ?_)
            generalize wr.drew = w22 at aa HB hx174_0 hx175_0 hx177_0 hx179_0 hx180_0 hHeld ⊢
            refine puU_ 0 12 (tf 39 1) HT_ ?_; refine puU_ 1 13 (tf 39 3) HT_ ?_; refine puU_ 2 14 (tf 39 7) HT_ ?_; refine tkU_ 3 15 (tf 39 15) rfl rfl HT_ HW_ hHeld (by rintro w' ⟨s0, s1, s2, s3, s4, s5, s6, s7, s8, s9, s10, s11⟩; go_simp; with_reducible rfl) ?_; refine puU_ 4 16 (tf 39 31) HT_ ?_; refine puU_ 5 17 (tf 39 63) HT_ ?_; refine puU_ 6 18 (tf 39 127) HT_ ?_; refine puU_ 7 19 (tf 39 255) HT_ ?_; refine puU_ 8 20 (tf 39 511) HT_ ?_; refine puU_ 10 22 (tf 39 1535) HT_ ?_; refine tkU_ 9 21 (tf 39 2047) rfl rfl HT_ HW_ hHeld (by rintro w' ⟨s0, s1, s2, s3, s4, s5, s6, s7, s8, s9, s10, s11⟩; go_simp; with_reducible rfl) ?_; refine tkU_ 11 23 (tf 39 4095) rfl rfl HT_ HW_ hHeld (by rintro w' ⟨s0, s1, s2, s3, s4, s5, s6, s7, s8, s9, s10, s11⟩; go_simp; with_reducible rfl) ?_
            refine on_ (i := 12) (N := some 24) (tf 39 8191) HT_ (fun K hK => ?_)
            refine goes_ Try.func20 (by kernel_rfl) rfl #[.agg #[.int .u32 ad, .int .i64 ae]] (by rfl) rfl rfl am_ ?_
            with_reducible refine (lodgerref05_Many.calls k1 ad ae an _ A8.out).mono ?_
            rintro e w23 ⟨rfl, hb⟩
            refine ⟨_, rfl, ?_⟩
            replace aa := bB_ aa hb; replace HB := hS_ HB hb
            (try clear hb)
            (try clear hb2)
            (try clear hk)
            (try clear hi)
            refine hK.out _ _ ⟨(blk_cell aa.out 0).trans rfl, (blk_cell aa.out 1).trans rfl, (blk_cell aa.out 2).trans rfl, (blk_cell aa.out 3).trans rfl, (blk_cell aa.out 4).trans rfl, (blk_cell aa.out 5).trans rfl, (blk_cell aa.out 6).trans rfl, ((HB.out.cell (World.block_lt_of_cell? w _ hw174_0)).trans hw174_0), ((HB.out.cell (World.block_lt_of_cell? w _ hw175_0)).trans hw175_0), ((HB.out.cell (World.block_lt_of_cell? w _ hw177_0)).trans hw177_0), ((HB.out.cell (World.block_lt_of_cell? w _ hw179_0)).trans hw179_0), ((HB.out.cell (World.block_lt_of_cell? w _ hw180_0)).trans hw180_0)⟩ (fun hHeld => ?_)
            clear hK K
            refine norm_ (a' := ?_) ?_ ?_
            rotate_left
            ·show Act.put _ (some 24) _ = _
             simp only [Act.put, List.setIfInBounds_toArray, List.set_cons_zero, List.set_cons_succ, i64_w, i32_w]
             rfl
            refine puU_ 13 25 (tf 39 16383) HT_ ?_; refine puU_ 14 26 (tf 39 32767) HT_ ?_; refine puU_ 15 27 (tf 39 65535) HT_ ?_; refine puU_ 17 29 (tf 39 196607) HT_ ?_; refine puU_ 18 30 (tf 39 458751) HT_ ?_; refine puU_ 19 31 (tf 39 983039) HT_ ?_; refine tkU_ 16 28 (tf 39 1048575) rfl rfl HT_ HW_ hHeld (by rintro w' ⟨s0, s1, s2, s3, s4, s5, s6, s7, s8, s9, s10, s11⟩; go_simp; with_reducible rfl) ?_; refine tkU_ 20 32 (tf 39 2097151) rfl rfl HT_ HW_ hHeld (by rintro w' ⟨s0, s1, s2, s3, s4, s5, s6, s7, s8, s9, s10, s11⟩; go_simp; with_reducible rfl) ?_
            refine on_ (i := 21) (N := some 33) (tf 39 4194303) HT_ (fun K hK => ?_)
            refine goes_ Try.func25 (by kernel_rfl) rfl #[.agg #[.int .u32 ad, .int .i64 ae, .slice al af.length am, .int .i64 ag, .int .i64 ah, .int .i64 ai, .int .i64 aj], .int .i64 (rd l1 ab)] (by rfl) rfl rfl am_ ?_
            with_reducible refine (lodgerref05_Held.calls k1 ad ae _ _ af ag ah ai aj (rd l1 ab) false _ ?side1 ?side2 A12.out).mono ?_
            (case side1 => exact cC_ ap HB)
            (case side2 => exact ao.out)
            rintro e w24 ⟨rfl, hb⟩
            refine ⟨_, rfl, ?_⟩
            replace aa := bB_ aa hb; replace HB := hS_ HB hb
            (try clear hb)
            (try clear hb2)
            (try clear hk)
            (try clear hi)
            refine hK.out _ _ ⟨(blk_cell aa.out 0).trans rfl, (blk_cell aa.out 1).trans rfl, (blk_cell aa.out 2).trans rfl, (blk_cell aa.out 3).trans rfl, (blk_cell aa.out 4).trans rfl, (blk_cell aa.out 5).trans rfl, (blk_cell aa.out 6).trans rfl, ((HB.out.cell (World.block_lt_of_cell? w _ hw174_0)).trans hw174_0), ((HB.out.cell (World.block_lt_of_cell? w _ hw175_0)).trans hw175_0), ((HB.out.cell (World.block_lt_of_cell? w _ hw177_0)).trans hw177_0), ((HB.out.cell (World.block_lt_of_cell? w _ hw179_0)).trans hw179_0), ((HB.out.cell (World.block_lt_of_cell? w _ hw180_0)).trans hw180_0)⟩ (fun hHeld => ?_)
            clear hK K
            refine norm_ (a' := ?_) ?_ ?_
            rotate_left
            ·show Act.put _ (some 33) _ = _
             simp only [Act.put, List.setIfInBounds_toArray, List.set_cons_zero, List.set_cons_succ, i64_w, i32_w]
             rfl
            refine puU_ 22 34 (tf 39 8388607) HT_ ?_; refine puU_ 23 35 (tf 39 16777215) HT_ ?_; refine puU_ 24 36 (tf 39 33554431) HT_ ?_; refine puU_ 25 37 (tf 39 67108863) HT_ ?_; refine puU_ 26 38 (tf 39 134217727) HT_ ?_; refine puU_ 27 39 (tf 39 268435455) HT_ ?_; refine puU_ 28 40 (tf 39 536870911) HT_ ?_; refine puU_ 29 41 (tf 39 1073741823) HT_ ?_; refine puU_ 30 42 (tf 39 2147483647) HT_ ?_; refine puU_ 32 44 (tf 39 6442450943) HT_ ?_; refine puU_ 33 45 (tf 39 15032385535) HT_ ?_; refine puU_ 34 46 (tf 39 32212254719) HT_ ?_; refine tkU_ 31 43 (tf 39 34359738367) rfl rfl HT_ HW_ hHeld (by rintro w' ⟨s0, s1, s2, s3, s4, s5, s6, s7, s8, s9, s10, s11⟩; go_simp; with_reducible rfl) ?_; refine tkU_ 35 47 (tf 39 68719476735) rfl rfl HT_ HW_ hHeld (by rintro w' ⟨s0, s1, s2, s3, s4, s5, s6, s7, s8, s9, s10, s11⟩; go_simp; with_reducible rfl) ?_; refine puU_ 36 48 (tf 39 137438953471) HT_ ?_; refine puU_ 37 49 (tf 39 274877906943) HT_ ?_; refine puU_ 38 50 (tf 39 549755813887) HT_ ?_
            refine done_ (done_of HT_.out (by kernel_rfl)) ?_
            try go_wp2
            go_ret
            exact ⟨by first | rfl | (simp [errW_none, errW_some] <;> rfl) | (simp only [← hji18]; first | rfl | (simp [errW_none, errW_some] <;> rfl)) | (simp [*, errW_none, errW_some] <;> rfl), hB_ HB⟩
           ·rw [if_neg c21] at H
            have au : decide ((rd l1 ab) ≤ (rd l1 (ji18))) = false := decide_eq_false c21
            clear c21
            have H' := Aside0.mk H
            clear H
            try go_wp2
            replace aa := Aside0.mk (blk_drew aa.out); replace HB := Aside0.mk (below_drew1 HB.out)
            have p174 : 0 ≤ (ab : Int) := od_
            have q174 : ab < (l1.length : Int) := od_
            obtain ⟨ad174, e174, hx174_0⟩ := Kd.at_int ak.out ab p174 q174; have hw174_0 := hx174_0
            cases e174
            replace hx174_0 := (HB.out.cell (World.block_lt_of_cell? w _ hx174_0)).trans hx174_0; replace p174 := eq_true p174; replace q174 := eq_true q174
            have p175 : 0 ≤ (ab : Int) := od_
            have q175 : ab < (l1.length : Int) := od_
            obtain ⟨ad175, e175, hx175_0⟩ := Kd.at_int ak.out ab p175 q175; have hw175_0 := hx175_0
            obtain rfl : ad174 = ad175 := (by injection e175)
            replace hx175_0 := (HB.out.cell (World.block_lt_of_cell? w _ hx175_0)).trans hx175_0; replace p175 := eq_true p175; replace q175 := eq_true q175
            have p177 : 0 ≤ (ab : Int) := od_
            have q177 : ab < (l1.length : Int) := od_
            obtain ⟨ad177, e177, hx177_0⟩ := Kd.at_int ak.out ab p177 q177; have hw177_0 := hx177_0
            obtain rfl : ad174 = ad177 := (by injection e177)
            replace hx177_0 := (HB.out.cell (World.block_lt_of_cell? w _ hx177_0)).trans hx177_0; replace p177 := eq_true p177; replace q177 := eq_true q177
            have p179 : 0 ≤ ((ji18) : Int) := od_
            have q179 : (ji18) < (l1.length : Int) := od_
            obtain ⟨ad179, e179, hx179_0⟩ := Kd.at_int ak.out (ji18) p179 q179; have hw179_0 := hx179_0
            obtain rfl : ad174 = ad179 := (by injection e179)
            replace hx179_0 := (HB.out.cell (World.block_lt_of_cell? w _ hx179_0)).trans hx179_0; replace p179 := eq_true p179; replace q179 := eq_true q179
            have p180 : 0 ≤ (ab : Int) := od_
            have q180 : ab < (l1.length : Int) := od_
            obtain ⟨ad180, e180, hx180_0⟩ := Kd.at_int ak.out ab p180 q180; have hw180_0 := hx180_0
            obtain rfl : ad174 = ad180 := (by injection e180)
            replace hx180_0 := (HB.out.cell (World.block_lt_of_cell? w _ hx180_0)).trans hx180_0; replace p180 := eq_true p180; replace q180 := eq_true q180
            refine start_ (n := 39) (S := fun w' => w'.cell? ⟨ac, 0, none⟩ = some (.int .u32 ad) ∧ w'.cell? ⟨ac, 1, none⟩ = some (.int .i64 ae) ∧ w'.cell? ⟨ac, 2, none⟩ = some (.slice al af.length am) ∧ w'.cell? ⟨ac, 3, none⟩ = some (.int .i64 ag) ∧ w'.cell? ⟨ac, 4, none⟩ = some (.int .i64 ah) ∧ w'.cell? ⟨ac, 5, none⟩ = some (.int .i64 ai) ∧ w'.cell? ⟨ac, 6, none⟩ = some (.int .i64 aj) ∧ w'.cell? (ad174.add (ab).toNat) = some (.int .i64 (rd l1 ab)) ∧ w'.cell? (ad174.add (ab).toNat) = some (.int .i64 (rd l1 ab)) ∧ w'.cell? (ad174.add (ab).toNat) = some (.int .i64 (rd l1 ab)) ∧ w'.cell? (ad174.add ((ji18)).toNat) = some (.int .i64 (rd l1 (ji18))) ∧ w'.cell? (ad174.add (ab).toNat) = some (.int .i64 (rd l1 ab))) (ds := []) (tf 39 0) (by kernel_rfl) rfl rfl ⟨(blk_cell aa.out 0).trans rfl, (blk_cell aa.out 1).trans rfl, (blk_cell aa.out 2).trans rfl, (blk_cell aa.out 3).trans rfl, (blk_cell aa.out 4).trans rfl, (blk_cell aa.out 5).trans rfl, (blk_cell aa.out 6).trans rfl, ((HB.out.cell (World.block_lt_of_cell? w _ hw174_0)).trans hw174_0), ((HB.out.cell (World.block_lt_of_cell? w _ hw175_0)).trans hw175_0), ((HB.out.cell (World.block_lt_of_cell? w _ hw177_0)).trans hw177_0), ((HB.out.cell (World.block_lt_of_cell? w _ hw179_0)).trans hw179_0), ((HB.out.cell (World.block_lt_of_cell? w _ hw180_0)).trans hw180_0)⟩ (fun hHeld => ?_); refine with_tabW lodgerref09_May.tab4 lodgerref09_May.bits4 (fun HT_ HW_ => ?_)
            generalize wr.drew = w25 at aa HB hx174_0 hx175_0 hx177_0 hx179_0 hx180_0 hHeld ⊢
            refine puU_ 0 12 (tf 39 1) HT_ ?_; refine puU_ 1 13 (tf 39 3) HT_ ?_; refine puU_ 2 14 (tf 39 7) HT_ ?_; refine tkU_ 3 15 (tf 39 15) rfl rfl HT_ HW_ hHeld (by rintro w' ⟨s0, s1, s2, s3, s4, s5, s6, s7, s8, s9, s10, s11⟩; go_simp; with_reducible rfl) ?_; refine puU_ 4 16 (tf 39 31) HT_ ?_; refine puU_ 5 17 (tf 39 63) HT_ ?_; refine puU_ 6 18 (tf 39 127) HT_ ?_; refine puU_ 7 19 (tf 39 255) HT_ ?_; refine puU_ 8 20 (tf 39 511) HT_ ?_; refine puU_ 10 22 (tf 39 1535) HT_ ?_; refine tkU_ 9 21 (tf 39 2047) rfl rfl HT_ HW_ hHeld (by rintro w' ⟨s0, s1, s2, s3, s4, s5, s6, s7, s8, s9, s10, s11⟩; go_simp; with_reducible rfl) ?_; refine tkU_ 11 23 (tf 39 4095) rfl rfl HT_ HW_ hHeld (by rintro w' ⟨s0, s1, s2, s3, s4, s5, s6, s7, s8, s9, s10, s11⟩; go_simp; with_reducible rfl) ?_
            refine on_ (i := 12) (N := some 24) (tf 39 8191) HT_ (fun K hK => ?_)
            refine goes_ Try.func20 (by kernel_rfl) rfl #[.agg #[.int .u32 ad, .int .i64 ae]] (by rfl) rfl rfl am_ ?_
            with_reducible refine (lodgerref05_Many.calls k1 ad ae an _ A8.out).mono ?_
            rintro e w26 ⟨rfl, hb⟩
            refine ⟨_, rfl, ?_⟩
            replace aa := bB_ aa hb; replace HB := hS_ HB hb
            (try clear hb)
            (try clear hb2)
            (try clear hk)
            (try clear hi)
            refine hK.out _ _ ⟨(blk_cell aa.out 0).trans rfl, (blk_cell aa.out 1).trans rfl, (blk_cell aa.out 2).trans rfl, (blk_cell aa.out 3).trans rfl, (blk_cell aa.out 4).trans rfl, (blk_cell aa.out 5).trans rfl, (blk_cell aa.out 6).trans rfl, ((HB.out.cell (World.block_lt_of_cell? w _ hw174_0)).trans hw174_0), ((HB.out.cell (World.block_lt_of_cell? w _ hw175_0)).trans hw175_0), ((HB.out.cell (World.block_lt_of_cell? w _ hw177_0)).trans hw177_0), ((HB.out.cell (World.block_lt_of_cell? w _ hw179_0)).trans hw179_0), ((HB.out.cell (World.block_lt_of_cell? w _ hw180_0)).trans hw180_0)⟩ (fun hHeld => ?_)
            clear hK K
            refine norm_ (a' := ?_) ?_ ?_
            rotate_left
            ·show Act.put _ (some 24) _ = _
             simp only [Act.put, List.setIfInBounds_toArray, List.set_cons_zero, List.set_cons_succ, i64_w, i32_w]
             rfl
            refine puU_ 13 25 (tf 39 16383) HT_ ?_; refine puU_ 14 26 (tf 39 32767) HT_ ?_; refine puU_ 15 27 (tf 39 65535) HT_ ?_; refine puU_ 17 29 (tf 39 196607) HT_ ?_; refine puU_ 18 30 (tf 39 458751) HT_ ?_; refine puU_ 19 31 (tf 39 983039) HT_ ?_; refine tkU_ 16 28 (tf 39 1048575) rfl rfl HT_ HW_ hHeld (by rintro w' ⟨s0, s1, s2, s3, s4, s5, s6, s7, s8, s9, s10, s11⟩; go_simp; with_reducible rfl) ?_; refine tkU_ 20 32 (tf 39 2097151) rfl rfl HT_ HW_ hHeld (by rintro w' ⟨s0, s1, s2, s3, s4, s5, s6, s7, s8, s9, s10, s11⟩; go_simp; with_reducible rfl) ?_
            refine on_ (i := 21) (N := some 33) (tf 39 4194303) HT_ (fun K hK => ?_)
            refine goes_ Try.func25 (by kernel_rfl) rfl #[.agg #[.int .u32 ad, .int .i64 ae, .slice al af.length am, .int .i64 ag, .int .i64 ah, .int .i64 ai, .int .i64 aj], .int .i64 (rd l1 ab)] (by rfl) rfl rfl am_ ?_
            with_reducible refine (lodgerref05_Held.calls k1 ad ae _ _ af ag ah ai aj (rd l1 ab) false _ ?side1 ?side2 A12.out).mono ?_
            (case side1 => exact cC_ ap HB)
            (case side2 => exact ao.out)
            rintro e w27 ⟨rfl, hb⟩
            refine ⟨_, rfl, ?_⟩
            replace aa := bB_ aa hb; replace HB := hS_ HB hb
            (try clear hb)
            (try clear hb2)
            (try clear hk)
            (try clear hi)
            refine hK.out _ _ ⟨(blk_cell aa.out 0).trans rfl, (blk_cell aa.out 1).trans rfl, (blk_cell aa.out 2).trans rfl, (blk_cell aa.out 3).trans rfl, (blk_cell aa.out 4).trans rfl, (blk_cell aa.out 5).trans rfl, (blk_cell aa.out 6).trans rfl, ((HB.out.cell (World.block_lt_of_cell? w _ hw174_0)).trans hw174_0), ((HB.out.cell (World.block_lt_of_cell? w _ hw175_0)).trans hw175_0), ((HB.out.cell (World.block_lt_of_cell? w _ hw177_0)).trans hw177_0), ((HB.out.cell (World.block_lt_of_cell? w _ hw179_0)).trans hw179_0), ((HB.out.cell (World.block_lt_of_cell? w _ hw180_0)).trans hw180_0)⟩ (fun hHeld => ?_)
            clear hK K
            refine norm_ (a' := ?_) ?_ ?_
            rotate_left
            ·show Act.put _ (some 33) _ = _
             simp only [Act.put, List.setIfInBounds_toArray, List.set_cons_zero, List.set_cons_succ, i64_w, i32_w]
             rfl
            refine puU_ 22 34 (tf 39 8388607) HT_ ?_; refine puU_ 23 35 (tf 39 16777215) HT_ ?_; refine puU_ 24 36 (tf 39 33554431) HT_ ?_; refine puU_ 25 37 (tf 39 67108863) HT_ ?_; refine puU_ 26 38 (tf 39 134217727) HT_ ?_; refine puU_ 27 39 (tf 39 268435455) HT_ ?_; refine puU_ 28 40 (tf 39 536870911) HT_ ?_; refine puU_ 29 41 (tf 39 1073741823) HT_ ?_; refine puU_ 30 42 (tf 39 2147483647) HT_ ?_; refine puU_ 32 44 (tf 39 6442450943) HT_ ?_; refine puU_ 33 45 (tf 39 15032385535) HT_ ?_; refine puU_ 34 46 (tf 39 32212254719) HT_ ?_; refine tkU_ 31 43 (tf 39 34359738367) rfl rfl HT_ HW_ hHeld (by rintro w' ⟨s0, s1, s2, s3, s4, s5, s6, s7, s8, s9, s10, s11⟩; go_simp; with_reducible rfl) ?_; refine tkU_ 35 47 (tf 39 68719476735) rfl rfl HT_ HW_ hHeld (by rintro w' ⟨s0, s1, s2, s3, s4, s5, s6, s7, s8, s9, s10, s11⟩; go_simp; with_reducible rfl) ?_; refine puU_ 36 48 (tf 39 137438953471) HT_ ?_; refine puU_ 37 49 (tf 39 274877906943) HT_ ?_; refine puU_ 38 50 (tf 39 549755813887) HT_ ?_
            refine done_ (done_of HT_.out (by kernel_rfl)) ?_
            try go_wp2
            go_roundg k1
            case measure => have := HK1.out; omega
            case rel => exact ⟨(wrap64 (ab + 1)), rs_, H', ⟨om_ HK1⟩, ⟨bk_ aa⟩, ⟨hB_ HB⟩⟩
          ·rw [if_neg c20] at H
           exact absurd H (by simp)
         ·rw [if_neg c19] at H
          exact absurd H (by simp)
        ·rw [if_neg c17] at H
         have ar : decide (0 < ab) = false := decide_eq_false c17
         clear c17
         have H' := Aside0.mk H
         clear H
         try go_wp2
         replace aa := Aside0.mk (blk_drew aa.out); replace HB := Aside0.mk (below_drew1 HB.out)
         have p174 : 0 ≤ (ab : Int) := od_
         have q174 : ab < (l1.length : Int) := od_
         obtain ⟨ad174, e174, hx174_0⟩ := Kd.at_int ak.out ab p174 q174; have hw174_0 := hx174_0
         cases e174
         replace hx174_0 := (HB.out.cell (World.block_lt_of_cell? w _ hx174_0)).trans hx174_0; replace p174 := eq_true p174; replace q174 := eq_true q174
         have p175 : 0 ≤ (ab : Int) := od_
         have q175 : ab < (l1.length : Int) := od_
         obtain ⟨ad175, e175, hx175_0⟩ := Kd.at_int ak.out ab p175 q175; have hw175_0 := hx175_0
         obtain rfl : ad174 = ad175 := (by injection e175)
         replace hx175_0 := (HB.out.cell (World.block_lt_of_cell? w _ hx175_0)).trans hx175_0; replace p175 := eq_true p175; replace q175 := eq_true q175
         have p177 : 0 ≤ (ab : Int) := od_
         have q177 : ab < (l1.length : Int) := od_
         obtain ⟨ad177, e177, hx177_0⟩ := Kd.at_int ak.out ab p177 q177; have hw177_0 := hx177_0
         obtain rfl : ad174 = ad177 := (by injection e177)
         replace hx177_0 := (HB.out.cell (World.block_lt_of_cell? w _ hx177_0)).trans hx177_0; replace p177 := eq_true p177; replace q177 := eq_true q177
         refine start_ (n := 39) (S := fun w' => w'.cell? ⟨ac, 0, none⟩ = some (.int .u32 ad) ∧ w'.cell? ⟨ac, 1, none⟩ = some (.int .i64 ae) ∧ w'.cell? ⟨ac, 2, none⟩ = some (.slice al af.length am) ∧ w'.cell? ⟨ac, 3, none⟩ = some (.int .i64 ag) ∧ w'.cell? ⟨ac, 4, none⟩ = some (.int .i64 ah) ∧ w'.cell? ⟨ac, 5, none⟩ = some (.int .i64 ai) ∧ w'.cell? ⟨ac, 6, none⟩ = some (.int .i64 aj) ∧ w'.cell? (ad174.add (ab).toNat) = some (.int .i64 (rd l1 ab)) ∧ w'.cell? (ad174.add (ab).toNat) = some (.int .i64 (rd l1 ab)) ∧ w'.cell? (ad174.add (ab).toNat) = some (.int .i64 (rd l1 ab))) (ds := []) (tf 39 0) (by kernel_rfl) rfl rfl ⟨(blk_cell aa.out 0).trans rfl, (blk_cell aa.out 1).trans rfl, (blk_cell aa.out 2).trans rfl, (blk_cell aa.out 3).trans rfl, (blk_cell aa.out 4).trans rfl, (blk_cell aa.out 5).trans rfl, (blk_cell aa.out 6).trans rfl, ((HB.out.cell (World.block_lt_of_cell? w _ hw174_0)).trans hw174_0), ((HB.out.cell (World.block_lt_of_cell? w _ hw175_0)).trans hw175_0), ((HB.out.cell (World.block_lt_of_cell? w _ hw177_0)).trans hw177_0)⟩ (fun hHeld => ?_); refine with_tabW lodgerref09_May.tab4 lodgerref09_May.bits4 (fun HT_ HW_ => ?_)
         generalize wr.drew = w28 at aa HB hx174_0 hx175_0 hx177_0 hHeld ⊢
         refine puU_ 0 12 (tf 39 1) HT_ ?_; refine puU_ 1 13 (tf 39 3) HT_ ?_; refine puU_ 2 14 (tf 39 7) HT_ ?_; refine tkU_ 3 15 (tf 39 15) rfl rfl HT_ HW_ hHeld (by rintro w' ⟨s0, s1, s2, s3, s4, s5, s6, s7, s8, s9⟩; go_simp; with_reducible rfl) ?_; refine puU_ 4 16 (tf 39 31) HT_ ?_; refine puU_ 5 17 (tf 39 63) HT_ ?_; refine puU_ 6 18 (tf 39 127) HT_ ?_; refine puU_ 7 19 (tf 39 255) HT_ ?_; refine puU_ 8 20 (tf 39 511) HT_ ?_; refine puU_ 10 22 (tf 39 1535) HT_ ?_; refine tkU_ 9 21 (tf 39 2047) rfl rfl HT_ HW_ hHeld (by rintro w' ⟨s0, s1, s2, s3, s4, s5, s6, s7, s8, s9⟩; go_simp; with_reducible rfl) ?_; refine tkU_ 11 23 (tf 39 4095) rfl rfl HT_ HW_ hHeld (by rintro w' ⟨s0, s1, s2, s3, s4, s5, s6, s7, s8, s9⟩; go_simp; with_reducible rfl) ?_
         refine on_ (i := 12) (N := some 24) (tf 39 8191) HT_ (fun K hK => ?_)
         refine goes_ Try.func20 (by kernel_rfl) rfl #[.agg #[.int .u32 ad, .int .i64 ae]] (by rfl) rfl rfl am_ ?_
         with_reducible refine (lodgerref05_Many.calls k1 ad ae an _ A8.out).mono ?_
         rintro e w29 ⟨rfl, hb⟩
         refine ⟨_, rfl, ?_⟩
         replace aa := bB_ aa hb; replace HB := hS_ HB hb
         (try clear hb)
         (try clear hb2)
         (try clear hk)
         (try clear hi)
         refine hK.out _ _ ⟨(blk_cell aa.out 0).trans rfl, (blk_cell aa.out 1).trans rfl, (blk_cell aa.out 2).trans rfl, (blk_cell aa.out 3).trans rfl, (blk_cell aa.out 4).trans rfl, (blk_cell aa.out 5).trans rfl, (blk_cell aa.out 6).trans rfl, ((HB.out.cell (World.block_lt_of_cell? w _ hw174_0)).trans hw174_0), ((HB.out.cell (World.block_lt_of_cell? w _ hw175_0)).trans hw175_0), ((HB.out.cell (World.block_lt_of_cell? w _ hw177_0)).trans hw177_0)⟩ (fun hHeld => ?_)
         clear hK K
         refine norm_ (a' := ?_) ?_ ?_
         rotate_left
         ·show Act.put _ (some 24) _ = _
          simp only [Act.put, List.setIfInBounds_toArray, List.set_cons_zero, List.set_cons_succ, i64_w, i32_w]
          rfl
         refine puU_ 13 25 (tf 39 16383) HT_ ?_; refine puU_ 14 26 (tf 39 32767) HT_ ?_; refine puU_ 15 27 (tf 39 65535) HT_ ?_; refine puU_ 17 29 (tf 39 196607) HT_ ?_; refine puU_ 18 30 (tf 39 458751) HT_ ?_; refine puU_ 19 31 (tf 39 983039) HT_ ?_; refine tkU_ 16 28 (tf 39 1048575) rfl rfl HT_ HW_ hHeld (by rintro w' ⟨s0, s1, s2, s3, s4, s5, s6, s7, s8, s9⟩; go_simp; with_reducible rfl) ?_; refine tkU_ 20 32 (tf 39 2097151) rfl rfl HT_ HW_ hHeld (by rintro w' ⟨s0, s1, s2, s3, s4, s5, s6, s7, s8, s9⟩; go_simp; with_reducible rfl) ?_
         refine on_ (i := 21) (N := some 33) (tf 39 4194303) HT_ (fun K hK => ?_)
         refine goes_ Try.func25 (by kernel_rfl) rfl #[.agg #[.int .u32 ad, .int .i64 ae, .slice al af.length am, .int .i64 ag, .int .i64 ah, .int .i64 ai, .int .i64 aj], .int .i64 (rd l1 ab)] (by rfl) rfl rfl am_ ?_
         with_reducible refine (lodgerref05_Held.calls k1 ad ae _ _ af ag ah ai aj (rd l1 ab) false _ ?side1 ?side2 A12.out).mono ?_
         (case side1 => exact cC_ ap HB)
         (case side2 => exact ao.out)
         rintro e w30 ⟨rfl, hb⟩
         refine ⟨_, rfl, ?_⟩
         replace aa := bB_ aa hb; replace HB := hS_ HB hb
         (try clear hb)
         (try clear hb2)
         (try clear hk)
         (try clear hi)
         refine hK.out _ _ ⟨(blk_cell aa.out 0).trans rfl, (blk_cell aa.out 1).trans rfl, (blk_cell aa.out 2).trans rfl, (blk_cell aa.out 3).trans rfl, (blk_cell aa.out 4).trans rfl, (blk_cell aa.out 5).trans rfl, (blk_cell aa.out 6).trans rfl, ((HB.out.cell (World.block_lt_of_cell? w _ hw174_0)).trans hw174_0), ((HB.out.cell (World.block_lt_of_cell? w _ hw175_0)).trans hw175_0), ((HB.out.cell (World.block_lt_of_cell? w _ hw177_0)).trans hw177_0)⟩ (fun hHeld => ?_)
         clear hK K
         refine norm_ (a' := ?_) ?_ ?_
         rotate_left
         ·show Act.put _ (some 33) _ = _
          simp only [Act.put, List.setIfInBounds_toArray, List.set_cons_zero, List.set_cons_succ, i64_w, i32_w]
          rfl
         refine puU_ 22 34 (tf 39 8388607) HT_ ?_; refine puU_ 23 35 (tf 39 16777215) HT_ ?_; refine puU_ 24 36 (tf 39 33554431) HT_ ?_; refine puU_ 25 37 (tf 39 67108863) HT_ ?_; refine puU_ 26 38 (tf 39 134217727) HT_ ?_; refine pnU_ 27 39 (tf 39 268435455) HT_ ?_; refine pnU_ 28 40 (tf 39 536870911) HT_ ?_; refine pnU_ 29 41 (tf 39 1073741823) HT_ ?_; refine pnU_ 30 42 (tf 39 2147483647) HT_ ?_; refine pnU_ 31 43 (tf 39 4294967295) HT_ ?_; refine pnU_ 32 44 (tf 39 8589934591) HT_ ?_; refine pnU_ 33 45 (tf 39 17179869183) HT_ ?_; refine pnU_ 34 46 (tf 39 34359738367) HT_ ?_; refine pnU_ 35 47 (tf 39 68719476735) HT_ ?_; refine pnU_ 36 48 (tf 39 137438953471) HT_ ?_; refine puU_ 37 49 (tf 39 274877906943) HT_ ?_; refine puU_ 38 50 (tf 39 549755813887) HT_ ?_
         refine done_ (done_of HT_.out (by kernel_rfl)) ?_
         try go_wp2
         go_roundg k1
         case measure => have := HK1.out; omega
         case rel => exact ⟨(wrap64 (ab + 1)), rs_, H', ⟨om_ HK1⟩, ⟨bk_ aa⟩, ⟨hB_ HB⟩⟩
    ·rw [if_neg c5] at H
     exact absurd H (by simp)
   ·rw [if_neg c4] at H
    have av : decide (ab < (l1.length : Int)) = false := decide_eq_false c4
    clear c4
    obtain rfl := Option.some.inj H
    go_wp2
    go_ret
    exact ⟨er_, hB_ HB⟩

end Go.Proofs.Ytepgjabpoabjnaa.PGaugeOrder
