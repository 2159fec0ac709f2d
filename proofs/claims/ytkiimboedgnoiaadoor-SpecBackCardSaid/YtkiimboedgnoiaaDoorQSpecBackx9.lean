/- The walk of SpecBack, part of it: what the Go functions answer; no condition. -/
import Derived.Test.YtkiimboedgnoiaaDoorQSpecBackx0
import Derived.Test.YtkiimboedgnoiaaDoorQSpecBackx7
import Derived.Test.YtkiimboedgnoiaaDoorQSpecBackx8
namespace Go.Proofs.YtkiimboedgnoiaaDoor.PSpecBack
open Go.RowKit Go.Proofs.YtkiimboedgnoiaaDoorW.PrintWords Go.Proofs.YtkiimboedgnoiaaDoorW.PrintLast Go.Proofs.YtkiimboedgnoiaaDoorW.PrintMore
attribute [local go_sem] max2_int min2_int max_two min_two max_three min_three max_four min_four   -- for this text's walks alone
set_option linter.unusedVariables false
set_option linter.unusedSimpArgs false

/-! ### lodgerref09_May: function 20 -/
def lodgerref09_May.l0 : Nat → List Int → Int → Int → Int → List Int → Int → Int → Int → Int → Option (Bool)
 | 0, _, _, _, _, _, _, _, _, _ => none
 | k + 1, x1, x5, x496000, x496001, x496002, x496003, x496004, x496005, x496006 => if x5 < (x1.length : Int) then (if 0 ≤ x5 then (if (rd x1 x5) < 0 then (some false) else ((lodgerref05_Many.f k x496000 x496001).bind fun t498 => (if (rd x1 x5) ≥ t498 then (some false) else ((lodgerref05_Held.f k x496000 x496001 x496002 x496003 x496004 x496005 x496006 (rd x1 x5)).bind fun t500 => (if t500 = true then (some false) else (if x5 > 0 then (if 0 ≤ (wrap64 (x5 - 1)) then (if (wrap64 (x5 - 1)) < (x1.length : Int) then (if (rd x1 (wrap64 (x5 - 1))) ≥ (rd x1 x5) then (some false) else (lodgerref09_May.l0 k x1 (wrap64 (x5 + 1)) x496000 x496001 x496002 x496003 x496004 x496005 x496006)) else (none)) else (none)) else (lodgerref09_May.l0 k x1 (wrap64 (x5 + 1)) x496000 x496001 x496002 x496003 x496004 x496005 x496006))))))) else (none)) else (some true)
def lodgerref09_May.f (k : Nat) (a0_0 a0_1 : Int) (l0_2 : List Int) (a0_3 a0_4 : Int) (a0_5 a0_6 : Int) (l1 : List Int) : Option (Bool) := lodgerref09_May.l0 k l1 0 a0_0 a0_1 l0_2 a0_3 a0_4 a0_5 a0_6
theorem lodgerref09_May.mono_l : ∀ k, (∀ y0 y1 y2 y3 y4 y5 y6 y7 y8, LeO (lodgerref09_May.l0 k y0 y1 y2 y3 y4 y5 y6 y7 y8) (lodgerref09_May.l0 (k + 1) y0 y1 y2 y3 y4 y5 y6 y7 y8))
 | 0 => fun _ _ _ _ _ _ _ _ _ r h => by simp [lodgerref09_May.l0] at h
 | k + 1 => by
  have ih0 := lodgerref09_May.mono_l k
  ·intro y0 y1 y2 y3 y4 y5 y6 y7 y8
   unfold lodgerref09_May.l0
   repeat' (with_reducible first | apply ih0 | apply lodgerref05_Held.mono | apply lodgerref05_Many.mono | exact LeO.refl _ | exact LeO.none _ | refine LeO.ite ?_ ?_ | refine LeO.bind ?_ (fun _ => ?_))
theorem lodgerref09_May.mono : ∀ a0 a1 a2 a3 a4 a5 a6 a7 k, LeO (lodgerref09_May.f k a0 a1 a2 a3 a4 a5 a6 a7) (lodgerref09_May.f (k + 1) a0 a1 a2 a3 a4 a5 a6 a7) := by
 intro a0 a1 a2 a3 a4 a5 a6 a7 k
 have ih0 := lodgerref09_May.mono_l k
 unfold lodgerref09_May.f
 repeat' (with_reducible first | apply ih0 | apply lodgerref05_Held.mono | apply lodgerref05_Many.mono | exact LeO.refl _ | exact LeO.none _ | refine LeO.ite ?_ ?_ | refine LeO.bind ?_ (fun _ => ?_))
def lodgerref09_May.T4 : Bool × List (List Nat × List Nat) := (true, [([], []), ([], []), ([0, 1], [0, 1]), ([2], [2]), ([3], [3]), ([4], [4]), ([5], [5]), ([5], [5]), ([6, 7, 5], [5, 6, 7]), ([8, 5], [5, 8]), ([5], [5]), ([10, 5], [5, 10]), ([11, 5, 5], [5, 11]), ([9, 12, 5], [5, 9, 12]), ([5, 13], [5, 13]), ([14, 12], [14]), ([15], [15]), ([15], [15]), ([15], [15]), ([17, 18, 15], [15, 17, 18]), ([19, 15], [15, 19]), ([16, 20, 15, 15], [15, 16, 20]), ([15, 21], [15, 21]), ([22, 21], [22]), ([23], [23]), ([24, 23], [23, 24]), ([25, 23, 23], [23, 25]), ([26], [26]), ([26], [26]), ([28, 26], [26, 28]), ([27, 29, 26], [26, 27, 29]), ([30, 26], [26, 30]), ([26], [26]), ([26], [26]), ([32, 33, 26], [26, 32, 33]), ([34, 26], [26, 34]), ([31, 35, 26], [26, 31, 35]), ([26, 36, 23], [23, 26, 36]), ([23, 37], [23, 37])])
def lodgerref09_May.B4 : List Nat := [0, 0, 3, 7, 15, 31, 63, 63, 255, 511, 63, 1087, 3135, 8191, 16383, 32767, 65535, 65535, 65535, 458751, 983039, 2097151, 4194303, 8388607, 16777215, 33554431, 67108863, 134217727, 134217727, 402653183, 1073741823, 2147483647, 134217727, 134217727, 13019119615, 30198988799, 68719476735, 137438953471, 274877906943]
theorem lodgerref09_May.tab4 : rtab .any (opsOf Tryd.f20 4) = lodgerref09_May.T4 := by kernel_rfl
theorem lodgerref09_May.bits4 : waitsOk lodgerref09_May.T4.2 lodgerref09_May.B4 = true := by kernel_rfl
set_option maxHeartbeats 8000000 in
set_option maxRecDepth 100000 in
theorem lodgerref09_May.calls (k : Nat) (ad ae : Int) (al : Option Addr) (am : Nat) (af : List Int) (ag ah : Int) (ai aj : Int) (A1 : Option Addr) (c1 : Nat) (l1 : List Int) (r : Bool) (w : World) (hr0_2 : Kd.C (Kd.int .i64) w al af.length af) (hc0_2 : af.length ≤ am) (hr1 : Kd.C (Kd.int .i64) w A1 l1.length l1) (hc1 : l1.length ≤ c1) (h : lodgerref09_May.f k ad ae af ag ah ai aj l1 = some r) :
  Calls Tryd.prog 20 #[.agg #[.int .u32 ad, .int .i64 ae, .slice al af.length am, .int .i64 ag, .int .i64 ah, .int .i64 ai, .int .i64 aj], .slice A1 l1.length c1] w fun e w' => e = .returned (.bool r) ∧ Below w.heap.size w w' := by
 have hu27 := Tryd.underlying27
 have hu24 := Tryd.underlying24
 have ap := Aside0.mk hr0_2
 have ao := Aside0.mk hc0_2
 clear hr0_2 hc0_2
 have ak := Aside0.mk hr1
 have aD := Aside0.mk hc1
 clear hr1 hc1
 have HB := Aside0.mk (Below.refl w.heap.size w)
 have H : (lodgerref09_May.l0 k l1 0 ad ae af ag ah ai aj) = some r := h
 clear h
 have H' := Aside0.mk H
 clear H
 go_enter Tryd.func20, Tryd.ntmps20
 go_wp2_with (first | ((with_reducible refine gate_dst (N := 2) rfl ?_); refine bx_ (N := 2) (cs := #[.int .u32 ad, .int .i64 ae, .slice al af.length am, .int .i64 ag, .int .i64 ah, .int .i64 ai, .int .i64 aj]) (t := 27) ?_; intro ac hg w3 aa hb; have az := gG_ hg HB; have ay := gG_ hg HB; replace HB := hS_ HB hb; clear hb hg))
 go_loopg [5] k (fun kq v5 w' => ∃ (ab : Int), v5 = .int .i64 ab ∧ Aside0 (lodgerref09_May.l0 kq l1 ab ad ae af ag ah ai aj = some r) ∧ Aside0 (kq ≤ k) ∧ Aside0 (w'.heap[ac]? = some (.cells #[.int .u32 ad, .int .i64 ae, (.slice al af.length am), .int .i64 ag, .int .i64 ah, .int .i64 ai, .int .i64 aj] 27 (0, 0))) ∧ Aside0 (Below w.heap.size w w'))
 case atStart => exact ⟨(0), rs_, H', ⟨Nat.le_refl _⟩, ⟨bk_ aa⟩, ⟨hB_ HB⟩⟩
 case round =>
  clear H'
  try clear c1
  try clear c2
  try clear p2
  obtain ⟨ab, rfl, HA, HK1, aa, HB⟩ := hrel
  cases gk with
  | zero => exact absurd HA.out (by simp [lodgerref09_May.l0])
  | succ k1 =>
   have H := HA.out; clear HA; simp only [lodgerref09_May.l0] at H
   by_cases c4 : ab < (l1.length : Int)
   ·rw [if_pos c4] at H
    have av : decide (ab < (l1.length : Int)) = true := decide_eq_true c4
    clear c4
    by_cases c5 : 0 ≤ ab
    ·rw [if_pos c5] at H
     have aC : decide (0 ≤ ab) = true := decide_eq_true c5
     clear c5
     by_cases c6 : (rd l1 ab) < 0
     ·rw [if_pos c6] at H
      have aw : decide ((rd l1 ab) < 0) = true := decide_eq_true c6
      clear c6
      obtain rfl := Option.some.inj H
      try go_wp2
      replace aa := Aside0.mk (blk_drew aa.out); replace HB := Aside0.mk (below_drew1 HB.out)
      have p496 : 0 ≤ (ab : Int) := od_
      have q496 : ab < (l1.length : Int) := od_
      obtain ⟨ad496, e496, hx496_0⟩ := Kd.at_int ak.out ab p496 q496; have hw496_0 := hx496_0
      cases e496
      replace hx496_0 := (HB.out.cell (World.block_lt_of_cell? w _ hx496_0)).trans hx496_0; replace p496 := eq_true p496; replace q496 := eq_true q496
      refine start_ (n := 39) (S := fun w' => w'.cell? (ad496.add (ab).toNat) = some (.int .i64 (rd l1 ab))) (ds := []) (tf 39 0) (by kernel_rfl) rfl rfl (((HB.out.cell (World.block_lt_of_cell? w _ hw496_0)).trans hw496_0)) (fun hHeld => ?_); refine with_tabW lodgerref09_May.tab4 lodgerref09_May.bits4 (fun HT_ HW_ => ?_)
      generalize wr.drew = w7 at aa HB hx496_0 hHeld ⊢
      refine pu_ (i := 0) (N := some 12) (tf 39 1) HT_ ?_; refine pu_ (i := 1) (N := some 13) (tf 39 3) HT_ ?_; refine pu_ (i := 2) (N := some 14) (tf 39 7) HT_ ?_; refine tk_ (i := 3) (N := some 15) (tf 39 15) rfl rfl HT_ HW_ hHeld (by intro w' s0; go_simp; with_reducible rfl) ?_; refine pu_ (i := 4) (N := some 16) (tf 39 31) HT_ ?_; refine pu_ (i := 5) (N := some 17) (tf 39 63) HT_ ?_; refine pn_ (i := 6) (N := some 18) (tf 39 127) HT_ ?_; refine pn_ (i := 7) (N := some 19) (tf 39 255) HT_ ?_; refine pn_ (i := 8) (N := some 20) (tf 39 511) HT_ ?_; refine pn_ (i := 9) (N := some 21) (tf 39 1023) HT_ ?_; refine pn_ (i := 10) (N := some 22) (tf 39 2047) HT_ ?_; refine pn_ (i := 11) (N := some 23) (tf 39 4095) HT_ ?_; refine pn_ (i := 12) (N := some 24) (tf 39 8191) HT_ ?_; refine pn_ (i := 13) (N := some 25) (tf 39 16383) HT_ ?_; refine pu_ (i := 14) (N := some 26) (tf 39 32767) HT_ ?_; refine pu_ (i := 15) (N := some 27) (tf 39 65535) HT_ ?_; refine pn_ (i := 16) (N := some 28) (tf 39 131071) HT_ ?_; refine pn_ (i := 17) (N := some 29) (tf 39 262143) HT_ ?_; refine pn_ (i := 18) (N := some 30) (tf 39 524287) HT_ ?_; refine pn_ (i := 19) (N := some 31) (tf 39 1048575) HT_ ?_; refine pn_ (i := 20) (N := some 32) (tf 39 2097151) HT_ ?_; refine pn_ (i := 21) (N := some 33) (tf 39 4194303) HT_ ?_; refine pu_ (i := 22) (N := some 34) (tf 39 8388607) HT_ ?_; refine pu_ (i := 23) (N := some 35) (tf 39 16777215) HT_ ?_; refine pn_ (i := 24) (N := some 36) (tf 39 33554431) HT_ ?_; refine pn_ (i := 25) (N := some 37) (tf 39 67108863) HT_ ?_; refine pn_ (i := 26) (N := some 38) (tf 39 134217727) HT_ ?_; refine pn_ (i := 27) (N := some 39) (tf 39 268435455) HT_ ?_; refine pn_ (i := 28) (N := some 40) (tf 39 536870911) HT_ ?_; refine pn_ (i := 29) (N := some 41) (tf 39 1073741823) HT_ ?_; refine pn_ (i := 30) (N := some 42) (tf 39 2147483647) HT_ ?_; refine pn_ (i := 31) (N := some 43) (tf 39 4294967295) HT_ ?_; refine pn_ (i := 32) (N := some 44) (tf 39 8589934591) HT_ ?_; refine pn_ (i := 33) (N := some 45) (tf 39 17179869183) HT_ ?_; refine pn_ (i := 34) (N := some 46) (tf 39 34359738367) HT_ ?_; refine pn_ (i := 35) (N := some 47) (tf 39 68719476735) HT_ ?_; refine pn_ (i := 36) (N := some 48) (tf 39 137438953471) HT_ ?_; refine pn_ (i := 37) (N := some 49) (tf 39 274877906943) HT_ ?_; refine pu_ (i := 38) (N := some 50) (tf 39 549755813887) HT_ ?_
      refine done_ (done_of HT_.out (by kernel_rfl)) ?_
      try go_wp2
      go_ret
      exact ⟨er_, hB_ HB⟩
     ·rw [if_neg c6] at H
      have aw : decide ((rd l1 ab) < 0) = false := decide_eq_false c6
      clear c6; replace H := bi_ H; obtain ⟨an, A80, H⟩ := H
      replace H : (if (rd l1 ab) ≥ an then (some false) else ((lodgerref05_Held.f k1 ad ae af ag ah ai aj (rd l1 ab)).bind fun aq => (if aq = true then (some false) else (if ab > 0 then (if 0 ≤ (wrap64 (ab - 1)) then (if (wrap64 (ab - 1)) < (l1.length : Int) then (if (rd l1 (wrap64 (ab - 1))) ≥ (rd l1 ab) then (some false) else (lodgerref09_May.l0 k1 l1 (wrap64 (ab + 1)) ad ae af ag ah ai aj)) else (none)) else (none)) else (lodgerref09_May.l0 k1 l1 (wrap64 (ab + 1)) ad ae af ag ah ai aj))))) = some r := H
      have A8 := Aside0.mk A80; clear A80
      by_cases c9 : (rd l1 ab) ≥ an
      ·rw [if_pos c9] at H
       have ax : decide (an ≤ (rd l1 ab)) = true := decide_eq_true c9
       clear c9
       obtain rfl := Option.some.inj H
       try go_wp2
       replace aa := Aside0.mk (blk_drew aa.out); replace HB := Aside0.mk (below_drew1 HB.out)
       have p496 : 0 ≤ (ab : Int) := od_
       have q496 : ab < (l1.length : Int) := od_
       obtain ⟨ad496, e496, hx496_0⟩ := Kd.at_int ak.out ab p496 q496; have hw496_0 := hx496_0
       cases e496
       replace hx496_0 := (HB.out.cell (World.block_lt_of_cell? w _ hx496_0)).trans hx496_0; replace p496 := eq_true p496; replace q496 := eq_true q496
       have p497 : 0 ≤ (ab : Int) := od_
       have q497 : ab < (l1.length : Int) := od_
       obtain ⟨ad497, e497, hx497_0⟩ := Kd.at_int ak.out ab p497 q497; have hw497_0 := hx497_0
       obtain rfl : ad496 = ad497 := (by injection e497)
       replace hx497_0 := (HB.out.cell (World.block_lt_of_cell? w _ hx497_0)).trans hx497_0; replace p497 := eq_true p497; replace q497 := eq_true q497
       refine start_ (n := 39) (S := fun w' => w'.cell? ⟨ac, 0, none⟩ = some (.int .u32 ad) ∧ w'.cell? ⟨ac, 1, none⟩ = some (.int .i64 ae) ∧ w'.cell? ⟨ac, 2, none⟩ = some (.slice al af.length am) ∧ w'.cell? ⟨ac, 3, none⟩ = some (.int .i64 ag) ∧ w'.cell? ⟨ac, 4, none⟩ = some (.int .i64 ah) ∧ w'.cell? ⟨ac, 5, none⟩ = some (.int .i64 ai) ∧ w'.cell? ⟨ac, 6, none⟩ = some (.int .i64 aj) ∧ w'.cell? (ad496.add (ab).toNat) = some (.int .i64 (rd l1 ab)) ∧ w'.cell? (ad496.add (ab).toNat) = some (.int .i64 (rd l1 ab))) (ds := []) (tf 39 0) (by kernel_rfl) rfl rfl ⟨(blk_cell aa.out 0).trans rfl, (blk_cell aa.out 1).trans rfl, (blk_cell aa.out 2).trans rfl, (blk_cell aa.out 3).trans rfl, (blk_cell aa.out 4).trans rfl, (blk_cell aa.out 5).trans rfl, (blk_cell aa.out 6).trans rfl, ((HB.out.cell (World.block_lt_of_cell? w _ hw496_0)).trans hw496_0), ((HB.out.cell (World.block_lt_of_cell? w _ hw497_0)).trans hw497_0)⟩ (fun hHeld => ?_); refine with_tabW lodgerref09_May.tab4 lodgerref09_May.bits4 (fun HT_ HW_ => ?_)
       generalize wr.drew = w10 at aa HB hx496_0 hx497_0 hHeld ⊢
       refine pu_ (i := 0) (N := some 12) (tf 39 1) HT_ ?_; refine pu_ (i := 1) (N := some 13) (tf 39 3) HT_ ?_; refine pu_ (i := 2) (N := some 14) (tf 39 7) HT_ ?_; refine tk_ (i := 3) (N := some 15) (tf 39 15) rfl rfl HT_ HW_ hHeld (by rintro w' ⟨s0, s1, s2, s3, s4, s5, s6, s7, s8⟩; go_simp; with_reducible rfl) ?_; refine pu_ (i := 4) (N := some 16) (tf 39 31) HT_ ?_; refine pu_ (i := 5) (N := some 17) (tf 39 63) HT_ ?_; refine pu_ (i := 6) (N := some 18) (tf 39 127) HT_ ?_; refine pu_ (i := 7) (N := some 19) (tf 39 255) HT_ ?_; refine pu_ (i := 8) (N := some 20) (tf 39 511) HT_ ?_; refine pu_ (i := 10) (N := some 22) (tf 39 1535) HT_ ?_; refine tk_ (i := 9) (N := some 21) (tf 39 2047) rfl rfl HT_ HW_ hHeld (by rintro w' ⟨s0, s1, s2, s3, s4, s5, s6, s7, s8⟩; go_simp; with_reducible rfl) ?_; refine tk_ (i := 11) (N := some 23) (tf 39 4095) rfl rfl HT_ HW_ hHeld (by rintro w' ⟨s0, s1, s2, s3, s4, s5, s6, s7, s8⟩; go_simp; with_reducible rfl) ?_
       refine on_ (i := 12) (N := some 24) (tf 39 8191) HT_ (fun K hK => ?_)
       refine goes_ Tryd.func30 (by kernel_rfl) rfl #[.agg #[.int .u32 ad, .int .i64 ae]] (by rfl) rfl rfl am_ ?_
       with_reducible refine (lodgerref05_Many.calls k1 ad ae an _ A8.out).mono ?_
       rintro e w11 ⟨rfl, hb⟩
       refine ⟨_, rfl, ?_⟩
       replace aa := bB_ aa hb; replace HB := hS_ HB hb
       (try clear hb)
       (try clear hb2)
       (try clear hk)
       (try clear hi)
       refine hK.out _ _ ⟨(blk_cell aa.out 0).trans rfl, (blk_cell aa.out 1).trans rfl, (blk_cell aa.out 2).trans rfl, (blk_cell aa.out 3).trans rfl, (blk_cell aa.out 4).trans rfl, (blk_cell aa.out 5).trans rfl, (blk_cell aa.out 6).trans rfl, ((HB.out.cell (World.block_lt_of_cell? w _ hw496_0)).trans hw496_0), ((HB.out.cell (World.block_lt_of_cell? w _ hw497_0)).trans hw497_0)⟩ (fun hHeld => ?_)
       clear hK K
       refine norm_ (a' := ?_) ?_ ?_
       rotate_left
       ·show Act.put _ (some 24) _ = _
        simp only [Act.put, List.setIfInBounds_toArray, List.set_cons_zero, List.set_cons_succ, i64_w, i32_w]
        rfl
       refine pu_ (i := 13) (N := some 25) (tf 39 16383) HT_ ?_; refine pu_ (i := 14) (N := some 26) (tf 39 32767) HT_ ?_; refine pu_ (i := 15) (N := some 27) (tf 39 65535) HT_ ?_; refine pn_ (i := 16) (N := some 28) (tf 39 131071) HT_ ?_; refine pn_ (i := 17) (N := some 29) (tf 39 262143) HT_ ?_; refine pn_ (i := 18) (N := some 30) (tf 39 524287) HT_ ?_; refine pn_ (i := 19) (N := some 31) (tf 39 1048575) HT_ ?_; refine pn_ (i := 20) (N := some 32) (tf 39 2097151) HT_ ?_; refine pn_ (i := 21) (N := some 33) (tf 39 4194303) HT_ ?_; refine pu_ (i := 22) (N := some 34) (tf 39 8388607) HT_ ?_; refine pu_ (i := 23) (N := some 35) (tf 39 16777215) HT_ ?_; refine pn_ (i := 24) (N := some 36) (tf 39 33554431) HT_ ?_; refine pn_ (i := 25) (N := some 37) (tf 39 67108863) HT_ ?_; refine pn_ (i := 26) (N := some 38) (tf 39 134217727) HT_ ?_; refine pn_ (i := 27) (N := some 39) (tf 39 268435455) HT_ ?_; refine pn_ (i := 28) (N := some 40) (tf 39 536870911) HT_ ?_; refine pn_ (i := 29) (N := some 41) (tf 39 1073741823) HT_ ?_; refine pn_ (i := 30) (N := some 42) (tf 39 2147483647) HT_ ?_; refine pn_ (i := 31) (N := some 43) (tf 39 4294967295) HT_ ?_; refine pn_ (i := 32) (N := some 44) (tf 39 8589934591) HT_ ?_; refine pn_ (i := 33) (N := some 45) (tf 39 17179869183) HT_ ?_; refine pn_ (i := 34) (N := some 46) (tf 39 34359738367) HT_ ?_; refine pn_ (i := 35) (N := some 47) (tf 39 68719476735) HT_ ?_; refine pn_ (i := 36) (N := some 48) (tf 39 137438953471) HT_ ?_; refine pn_ (i := 37) (N := some 49) (tf 39 274877906943) HT_ ?_; refine pu_ (i := 38) (N := some 50) (tf 39 549755813887) HT_ ?_
       refine done_ (done_of HT_.out (by kernel_rfl)) ?_
       try go_wp2
       go_ret
       exact ⟨er_, hB_ HB⟩
      ·rw [if_neg c9] at H
       have ax : decide (an ≤ (rd l1 ab)) = false := decide_eq_false c9
       clear c9; replace H := bi_ H; obtain ⟨aq, A120, H⟩ := H
       replace H : (if aq = true then (some false) else (if ab > 0 then (if 0 ≤ (wrap64 (ab - 1)) then (if (wrap64 (ab - 1)) < (l1.length : Int) then (if (rd l1 (wrap64 (ab - 1))) ≥ (rd l1 ab) then (some false) else (lodgerref09_May.l0 k1 l1 (wrap64 (ab + 1)) ad ae af ag ah ai aj)) else (none)) else (none)) else (lodgerref09_May.l0 k1 l1 (wrap64 (ab + 1)) ad ae af ag ah ai aj))) = some r := H
       have A12 := Aside0.mk A120; clear A120
       by_cases c13 : aq = true
       ·subst c13
        have H1 : (some false) = some r := by rw [if_pos rfl] at H; exact H
        clear H; have H := H1; clear H1
        obtain rfl := Option.some.inj H
        try go_wp2
        replace aa := Aside0.mk (blk_drew aa.out); replace HB := Aside0.mk (below_drew1 HB.out)
        have p496 : 0 ≤ (ab : Int) := od_
        have q496 : ab < (l1.length : Int) := od_
        obtain ⟨ad496, e496, hx496_0⟩ := Kd.at_int ak.out ab p496 q496; have hw496_0 := hx496_0
        cases e496
        replace hx496_0 := (HB.out.cell (World.block_lt_of_cell? w _ hx496_0)).trans hx496_0; replace p496 := eq_true p496; replace q496 := eq_true q496
        have p497 : 0 ≤ (ab : Int) := od_
        have q497 : ab < (l1.length : Int) := od_
        obtain ⟨ad497, e497, hx497_0⟩ := Kd.at_int ak.out ab p497 q497; have hw497_0 := hx497_0
        obtain rfl : ad496 = ad497 := (by injection e497)
        replace hx497_0 := (HB.out.cell (World.block_lt_of_cell? w _ hx497_0)).trans hx497_0; replace p497 := eq_true p497; replace q497 := eq_true q497
        have p499 : 0 ≤ (ab : Int) := od_
        have q499 : ab < (l1.length : Int) := od_
        obtain ⟨ad499, e499, hx499_0⟩ := Kd.at_int ak.out ab p499 q499; have hw499_0 := hx499_0
        obtain rfl : ad496 = ad499 := (by injection e499)
        replace hx499_0 := (HB.out.cell (World.block_lt_of_cell? w _ hx499_0)).trans hx499_0; replace p499 := eq_true p499; replace q499 := eq_true q499
        refine start_ (n := 39) (S := fun w' => w'.cell? ⟨ac, 0, none⟩ = some (.int .u32 ad) ∧ w'.cell? ⟨ac, 1, none⟩ = some (.int .i64 ae) ∧ w'.cell? ⟨ac, 2, none⟩ = some (.slice al af.length am) ∧ w'.cell? ⟨ac, 3, none⟩ = some (.int .i64 ag) ∧ w'.cell? ⟨ac, 4, none⟩ = some (.int .i64 ah) ∧ w'.cell? ⟨ac, 5, none⟩ = some (.int .i64 ai) ∧ w'.cell? ⟨ac, 6, none⟩ = some (.int .i64 aj) ∧ w'.cell? (ad496.add (ab).toNat) = some (.int .i64 (rd l1 ab)) ∧ w'.cell? (ad496.add (ab).toNat) = some (.int .i64 (rd l1 ab)) ∧ w'.cell? (ad496.add (ab).toNat) = some (.int .i64 (rd l1 ab))) (ds := []) (tf 39 0) (by kernel_rfl) rfl rfl ⟨(blk_cell aa.out 0).trans rfl, (blk_cell aa.out 1).trans rfl, (blk_cell aa.out 2).trans rfl, (blk_cell aa.out 3).trans rfl, (blk_cell aa.out 4).trans rfl, (blk_cell aa.out 5).trans rfl, (blk_cell aa.out 6).trans rfl, ((HB.out.cell (World.block_lt_of_cell? w _ hw496_0)).trans hw496_0), ((HB.out.cell (World.block_lt_of_cell? w _ hw497_0)).trans hw497_0), ((HB.out.cell (World.block_lt_of_cell? w _ hw499_0)).trans hw499_0)⟩ (fun hHeld => ?_); refine with_tabW lodgerref09_May.tab4 lodgerref09_May.bits4 (fun HT_ HW_ => ?_)
        generalize wr.drew = w14 at aa HB hx496_0 hx497_0 hx499_0 hHeld ⊢
        refine pu_ (i := 0) (N := some 12) (tf 39 1) HT_ ?_; refine pu_ (i := 1) (N := some 13) (tf 39 3) HT_ ?_; refine pu_ (i := 2) (N := some 14) (tf 39 7) HT_ ?_; refine tk_ (i := 3) (N := some 15) (tf 39 15) rfl rfl HT_ HW_ hHeld (by rintro w' ⟨s0, s1, s2, s3, s4, s5, s6, s7, s8, s9⟩; go_simp; with_reducible rfl) ?_; refine pu_ (i := 4) (N := some 16) (tf 39 31) HT_ ?_; refine pu_ (i := 5) (N := some 17) (tf 39 63) HT_ ?_; refine pu_ (i := 6) (N := some 18) (tf 39 127) HT_ ?_; refine pu_ (i := 7) (N := some 19) (tf 39 255) HT_ ?_; refine pu_ (i := 8) (N := some 20) (tf 39 511) HT_ ?_; refine pu_ (i := 10) (N := some 22) (tf 39 1535) HT_ ?_; refine tk_ (i := 9) (N := some 21) (tf 39 2047) rfl rfl HT_ HW_ hHeld (by rintro w' ⟨s0, s1, s2, s3, s4, s5, s6, s7, s8, s9⟩; go_simp; with_reducible rfl) ?_; refine tk_ (i := 11) (N := some 23) (tf 39 4095) rfl rfl HT_ HW_ hHeld (by rintro w' ⟨s0, s1, s2, s3, s4, s5, s6, s7, s8, s9⟩; go_simp; with_reducible rfl) ?_
        refine on_ (i := 12) (N := some 24) (tf 39 8191) HT_ (fun K hK => ?_)
        refine goes_ Tryd.func30 (by kernel_rfl) rfl #[.agg #[.int .u32 ad, .int .i64 ae]] (by rfl) rfl rfl am_ ?_
        with_reducible refine (lodgerref05_Many.calls k1 ad ae an _ A8.out).mono ?_
        rintro e w15 ⟨rfl, hb⟩
        refine ⟨_, rfl, ?_⟩
        replace aa := bB_ aa hb; replace HB := hS_ HB hb
        (try clear hb)
        (try clear hb2)
        (try clear hk)
        (try clear hi)
        refine hK.out _ _ ⟨(blk_cell aa.out 0).trans rfl, (blk_cell aa.out 1).trans rfl, (blk_cell aa.out 2).trans rfl, (blk_cell aa.out 3).trans rfl, (blk_cell aa.out 4).trans rfl, (blk_cell aa.out 5).trans rfl, (blk_cell aa.out 6).trans rfl, ((HB.out.cell (World.block_lt_of_cell? w _ hw496_0)).trans hw496_0), ((HB.out.cell (World.block_lt_of_cell? w _ hw497_0)).trans hw497_0), ((HB.out.cell (World.block_lt_of_cell? w _ hw499_0)).trans hw499_0)⟩ (fun hHeld => ?_)
        clear hK K
        refine norm_ (a' := ?_) ?_ ?_
        rotate_left
        ·show Act.put _ (some 24) _ = _
         simp only [Act.put, List.setIfInBounds_toArray, List.set_cons_zero, List.set_cons_succ, i64_w, i32_w]
         rfl
        refine pu_ (i := 13) (N := some 25) (tf 39 16383) HT_ ?_; refine pu_ (i := 14) (N := some 26) (tf 39 32767) HT_ ?_; refine pu_ (i := 15) (N := some 27) (tf 39 65535) HT_ ?_; refine pu_ (i := 17) (N := some 29) (tf 39 196607) HT_ ?_; refine pu_ (i := 18) (N := some 30) (tf 39 458751) HT_ ?_; refine pu_ (i := 19) (N := some 31) (tf 39 983039) HT_ ?_; refine tk_ (i := 16) (N := some 28) (tf 39 1048575) rfl rfl HT_ HW_ hHeld (by rintro w' ⟨s0, s1, s2, s3, s4, s5, s6, s7, s8, s9⟩; go_simp; with_reducible rfl) ?_; refine tk_ (i := 20) (N := some 32) (tf 39 2097151) rfl rfl HT_ HW_ hHeld (by rintro w' ⟨s0, s1, s2, s3, s4, s5, s6, s7, s8, s9⟩; go_simp; with_reducible rfl) ?_
        refine on_ (i := 21) (N := some 33) (tf 39 4194303) HT_ (fun K hK => ?_)
        refine goes_ Tryd.func22 (by kernel_rfl) rfl #[.agg #[.int .u32 ad, .int .i64 ae, .slice al af.length am, .int .i64 ag, .int .i64 ah, .int .i64 ai, .int .i64 aj], .int .i64 (rd l1 ab)] (by rfl) rfl rfl am_ ?_
        with_reducible refine (lodgerref05_Held.calls k1 ad ae _ _ af ag ah ai aj (rd l1 ab) true _ ?side1 ?side2 A12.out).mono ?_
        (case side1 => exact cC_ ap HB)
        (case side2 => exact ao.out)
        rintro e w16 ⟨rfl, hb⟩
        refine ⟨_, rfl, ?_⟩
        replace aa := bB_ aa hb; replace HB := hS_ HB hb
        (try clear hb)
        (try clear hb2)
        (try clear hk)
        (try clear hi)
        refine hK.out _ _ ⟨(blk_cell aa.out 0).trans rfl, (blk_cell aa.out 1).trans rfl, (blk_cell aa.out 2).trans rfl, (blk_cell aa.out 3).trans rfl, (blk_cell aa.out 4).trans rfl, (blk_cell aa.out 5).trans rfl, (blk_cell aa.out 6).trans rfl, ((HB.out.cell (World.block_lt_of_cell? w _ hw496_0)).trans hw496_0), ((HB.out.cell (World.block_lt_of_cell? w _ hw497_0)).trans hw497_0), ((HB.out.cell (World.block_lt_of_cell? w _ hw499_0)).trans hw499_0)⟩ (fun hHeld => ?_)
        clear hK K
        refine norm_ (a' := ?_) ?_ ?_
        rotate_left
        ·show Act.put _ (some 33) _ = _
         simp only [Act.put, List.setIfInBounds_toArray, List.set_cons_zero, List.set_cons_succ, i64_w, i32_w]
         rfl
        refine pu_ (i := 22) (N := some 34) (tf 39 8388607) HT_ ?_; refine pu_ (i := 23) (N := some 35) (tf 39 16777215) HT_ ?_; refine pn_ (i := 24) (N := some 36) (tf 39 33554431) HT_ ?_; refine pn_ (i := 25) (N := some 37) (tf 39 67108863) HT_ ?_; refine pn_ (i := 26) (N := some 38) (tf 39 134217727) HT_ ?_; refine pn_ (i := 27) (N := some 39) (tf 39 268435455) HT_ ?_; refine pn_ (i := 28) (N := some 40) (tf 39 536870911) HT_ ?_; refine pn_ (i := 29) (N := some 41) (tf 39 1073741823) HT_ ?_; refine pn_ (i := 30) (N := some 42) (tf 39 2147483647) HT_ ?_; refine pn_ (i := 31) (N := some 43) (tf 39 4294967295) HT_ ?_; refine pn_ (i := 32) (N := some 44) (tf 39 8589934591) HT_ ?_; refine pn_ (i := 33) (N := some 45) (tf 39 17179869183) HT_ ?_; refine pn_ (i := 34) (N := some 46) (tf 39 34359738367) HT_ ?_; refine pn_ (i := 35) (N := some 47) (tf 39 68719476735) HT_ ?_; refine pn_ (i := 36) (N := some 48) (tf 39 137438953471) HT_ ?_; refine pn_ (i := 37) (N := some 49) (tf 39 274877906943) HT_ ?_; refine pu_ (i := 38) (N := some 50) (tf 39 549755813887) HT_ ?_
        refine done_ (done_of HT_.out (by kernel_rfl)) ?_
        try go_wp2
        go_ret
        exact ⟨er_, hB_ HB⟩
       ·replace c13 := Bool.eq_false_iff.mpr c13
        subst c13
        have H1 : (if ab > 0 then (if 0 ≤ (wrap64 (ab - 1)) then (if (wrap64 (ab - 1)) < (l1.length : Int) then (if (rd l1 (wrap64 (ab - 1))) ≥ (rd l1 ab) then (some false) else (lodgerref09_May.l0 k1 l1 (wrap64 (ab + 1)) ad ae af ag ah ai aj)) else (none)) else (none)) else (lodgerref09_May.l0 k1 l1 (wrap64 (ab + 1)) ad ae af ag ah ai aj)) = some r := by rw [if_neg (show ¬ (false = true) by decide)] at H; exact H
        clear H; have H := H1; clear H1
        by_cases c17 : ab > 0
        ·rw [if_pos c17] at H
         have ar : decide (0 < ab) = true := decide_eq_true c17
         clear c17; obtain ⟨ji18, hji18⟩ : ∃ j_ : Int, (wrap64 (ab - 1)) = j_ := ⟨_, rfl⟩
         replace H : (if 0 ≤ (ji18) then (if (ji18) < (l1.length : Int) then (if (rd l1 (ji18)) ≥ (rd l1 ab) then (some false) else (lodgerref09_May.l0 k1 l1 (wrap64 (ab + 1)) ad ae af ag ah ai aj)) else (none)) else (none)) = some r := by first | (rw [hji18] at H; exact H) | (simp only [hji18] at H ⊢; exact H)
         (try rw [hji18] at A8)
         (try rw [hji18] at A12)
         have hji18w : (IntKind.i64.wrap (ab - 1)) = ji18 := (i64_w _).trans hji18
         by_cases c19 : 0 ≤ (ji18)
         ·rw [if_pos c19] at H
          have aA : decide (0 ≤ (ji18)) = true := decide_eq_true c19
          clear c19
          by_cases c20 : (ji18) < (l1.length : Int)
          ·rw [if_pos c20] at H
           have aB : decide ((ji18) < (l1.length : Int)) = true := decide_eq_true c20
           clear c20
           by_cases c21 : (rd l1 (ji18)) ≥ (rd l1 ab)
           ·rw [if_pos c21] at H
            have au : decide ((rd l1 ab) ≤ (rd l1 (ji18))) = true := decide_eq_true c21
            clear c21
            obtain rfl := Option.some.inj H
            try go_wp2
            replace aa := Aside0.mk (blk_drew aa.out); replace HB := Aside0.mk (below_drew1 HB.out)
            have p496 : 0 ≤ (ab : Int) := od_
            have q496 : ab < (l1.length : Int) := od_
            obtain ⟨ad496, e496, hx496_0⟩ := Kd.at_int ak.out ab p496 q496; have hw496_0 := hx496_0
            cases e496
            replace hx496_0 := (HB.out.cell (World.block_lt_of_cell? w _ hx496_0)).trans hx496_0; replace p496 := eq_true p496; replace q496 := eq_true q496
            have p497 : 0 ≤ (ab : Int) := od_
            have q497 : ab < (l1.length : Int) := od_
            obtain ⟨ad497, e497, hx497_0⟩ := Kd.at_int ak.out ab p497 q497; have hw497_0 := hx497_0
            obtain rfl : ad496 = ad497 := (by injection e497)
            replace hx497_0 := (HB.out.cell (World.block_lt_of_cell? w _ hx497_0)).trans hx497_0; replace p497 := eq_true p497; replace q497 := eq_true q497
            have p499 : 0 ≤ (ab : Int) := od_
            have q499 : ab < (l1.length : Int) := od_
            obtain ⟨ad499, e499, hx499_0⟩ := Kd.at_int ak.out ab p499 q499; have hw499_0 := hx499_0
            obtain rfl : ad496 = ad499 := (by injection e499)
            replace hx499_0 := (HB.out.cell (World.block_lt_of_cell? w _ hx499_0)).trans hx499_0; replace p499 := eq_true p499; replace q499 := eq_true q499
            have p501 : 0 ≤ ((ji18) : Int) := od_
            have q501 : (ji18) < (l1.length : Int) := od_
            obtain ⟨ad501, e501, hx501_0⟩ := Kd.at_int ak.out (ji18) p501 q501; have hw501_0 := hx501_0
            obtain rfl : ad496 = ad501 := (by injection e501)
            replace hx501_0 := (HB.out.cell (World.block_lt_of_cell? w _ hx501_0)).trans hx501_0; replace p501 := eq_true p501; replace q501 := eq_true q501
            have p502 : 0 ≤ (ab : Int) := od_
            have q502 : ab < (l1.length : Int) := od_
            obtain ⟨ad502, e502, hx502_0⟩ := Kd.at_int ak.out ab p502 q502; have hw502_0 := hx502_0
            obtain rfl : ad496 = ad502 := (by injection e502)
            replace hx502_0 := (HB.out.cell (World.block_lt_of_cell? w _ hx502_0)).trans hx502_0; replace p502 := eq_true p502; replace q502 := eq_true q502
            refine start_ (n := 39) (S := fun w' => w'.cell? ⟨ac, 0, none⟩ = some (.int .u32 ad) ∧ w'.cell? ⟨ac, 1, none⟩ = some (.int .i64 ae) ∧ w'.cell? ⟨ac, 2, none⟩ = some (.slice al af.length am) ∧ w'.cell? ⟨ac, 3, none⟩ = some (.int .i64 ag) ∧ w'.cell? ⟨ac, 4, none⟩ = some (.int .i64 ah) ∧ w'.cell? ⟨ac, 5, none⟩ = some (.int .i64 ai) ∧ w'.cell? ⟨ac, 6, none⟩ = some (.int .i64 aj) ∧ w'.cell? (ad496.add (ab).toNat) = some (.int .i64 (rd l1 ab)) ∧ w'.cell? (ad496.add (ab).toNat) = some (.int .i64 (rd l1 ab)) ∧ w'.cell? (ad496.add (ab).toNat) = some (.int .i64 (rd l1 ab)) ∧ w'.cell? (ad496.add ((ji18)).toNat) = some (.int .i64 (rd l1 (ji18))) ∧ w'.cell? (ad496.add (ab).toNat) = some (.int .i64 (rd l1 ab))) (ds := []) (tf 39 0) (by kernel_rfl) rfl rfl ⟨(blk_cell aa.out 0).trans rfl, (blk_cell aa.out 1).trans rfl, (blk_cell aa.out 2).trans rfl, (blk_cell aa.out 3).trans rfl, (blk_cell aa.out 4).trans rfl, (blk_cell aa.out 5).trans rfl, (blk_cell aa.out 6).trans rfl, ((HB.out.cell (World.block_lt_of_cell? w _ hw496_0)).trans hw496_0), ((HB.out.cell (World.block_lt_of_cell? w _ hw497_0)).trans hw497_0), ((HB.out.cell (World.block_lt_of_cell? w _ hw499_0)).trans hw499_0), ((HB.out.cell (World.block_lt_of_cell? w _ hw501_0)).trans hw501_0), ((HB.out.cell (World.block_lt_of_cell? w _ hw502_0)).trans hw502_0)⟩ (fun hHeld => ?_); refine with_tabW lodgerref09_May.tab4 lodgerref09_May.bits4 (fun HT_ HW_ => ?_)
            generalize wr.drew = w22 at aa HB hx496_0 hx497_0 hx499_0 hx501_0 hx502_0 hHeld ⊢
            refine pu_ (i := 0) (N := some 12) (tf 39 1) HT_ ?_; refine pu_ (i := 1) (N := some 13) (tf 39 3) HT_ ?_; refine pu_ (i := 2) (N := some 14) (tf 39 7) HT_ ?_; refine tk_ (i := 3) (N := some 15) (tf 39 15) rfl rfl HT_ HW_ hHeld (by rintro w' ⟨s0, s1, s2, s3, s4, s5, s6, s7, s8, s9, s10, s11⟩; go_simp; with_reducible rfl) ?_; refine pu_ (i := 4) (N := some 16) (tf 39 31) HT_ ?_; refine pu_ (i := 5) (N := some 17) (tf 39 63) HT_ ?_; refine pu_ (i := 6) (N := some 18) (tf 39 127) HT_ ?_; refine pu_ (i := 7) (N := some 19) (tf 39 255) HT_ ?_; refine pu_ (i := 8) (N := some 20) (tf 39 511) HT_ ?_; refine pu_ (i := 10) (N := some 22) (tf 39 1535) HT_ ?_; refine tk_ (i := 9) (N := some 21) (tf 39 2047) rfl rfl HT_ HW_ hHeld (by rintro w' ⟨s0, s1, s2, s3, s4, s5, s6, s7, s8, s9, s10, s11⟩; go_simp; with_reducible rfl) ?_; refine tk_ (i := 11) (N := some 23) (tf 39 4095) rfl rfl HT_ HW_ hHeld (by rintro w' ⟨s0, s1, s2, s3, s4, s5, s6, s7, s8, s9, s10, s11⟩; go_simp; with_reducible rfl) ?_
            refine on_ (i := 12) (N := some 24) (tf 39 8191) HT_ (fun K hK => ?_)
            refine goes_ Tryd.func30 (by kernel_rfl) rfl #[.agg #[.int .u32 ad, .int .i64 ae]] (by rfl) rfl rfl am_ ?_
            with_reducible refine (lodgerref05_Many.calls k1 ad ae an _ A8.out).mono ?_
            rintro e w23 ⟨rfl, hb⟩
            refine ⟨_, rfl, ?_⟩
            replace aa := bB_ aa hb; replace HB := hS_ HB hb
            (try clear hb)
            (try clear hb2)
            (try clear hk)
            (try clear hi)
            refine hK.out _ _ ⟨(blk_cell aa.out 0).trans rfl, (blk_cell aa.out 1).trans rfl, (blk_cell aa.out 2).trans rfl, (blk_cell aa.out 3).trans rfl, (blk_cell aa.out 4).trans rfl, (blk_cell aa.out 5).trans rfl, (blk_cell aa.out 6).trans rfl, ((HB.out.cell (World.block_lt_of_cell? w _ hw496_0)).trans hw496_0), ((HB.out.cell (World.block_lt_of_cell? w _ hw497_0)).trans hw497_0), ((HB.out.cell (World.block_lt_of_cell? w _ hw499_0)).trans hw499_0), ((HB.out.cell (World.block_lt_of_cell? w _ hw501_0)).trans hw501_0), ((HB.out.cell (World.block_lt_of_cell? w _ hw502_0)).trans hw502_0)⟩ (fun hHeld => ?_)
            clear hK K
            refine norm_ (a' := ?_) ?_ ?_
            rotate_left
            ·show Act.put _ (some 24) _ = _
             simp only [Act.put, List.setIfInBounds_toArray, List.set_cons_zero, List.set_cons_succ, i64_w, i32_w]
             rfl
            refine pu_ (i := 13) (N := some 25) (tf 39 16383) HT_ ?_; refine pu_ (i := 14) (N := some 26) (tf 39 32767) HT_ ?_; refine pu_ (i := 15) (N := some 27) (tf 39 65535) HT_ ?_; refine pu_ (i := 17) (N := some 29) (tf 39 196607) HT_ ?_; refine pu_ (i := 18) (N := some 30) (tf 39 458751) HT_ ?_; refine pu_ (i := 19) (N := some 31) (tf 39 983039) HT_ ?_; refine tk_ (i := 16) (N := some 28) (tf 39 1048575) rfl rfl HT_ HW_ hHeld (by rintro w' ⟨s0, s1, s2, s3, s4, s5, s6, s7, s8, s9, s10, s11⟩; go_simp; with_reducible rfl) ?_; refine tk_ (i := 20) (N := some 32) (tf 39 2097151) rfl rfl HT_ HW_ hHeld (by rintro w' ⟨s0, s1, s2, s3, s4, s5, s6, s7, s8, s9, s10, s11⟩; go_simp; with_reducible rfl) ?_
            refine on_ (i := 21) (N := some 33) (tf 39 4194303) HT_ (fun K hK => ?_)
            refine goes_ Tryd.func22 (by kernel_rfl) rfl #[.agg #[.int .u32 ad, .int .i64 ae, .slice al af.length am, .int .i64 ag, .int .i64 ah, .int .i64 ai, .int .i64 aj], .int .i64 (rd l1 ab)] (by rfl) rfl rfl am_ ?_
            with_reducible refine (lodgerref05_Held.calls k1 ad ae _ _ af ag ah ai aj (rd l1 ab) false _ ?side1 ?side2 A12.out).mono ?_
            (case side1 => exact cC_ ap HB)
            (case side2 => exact ao.out)
            rintro e w24 ⟨rfl, hb⟩
            refine ⟨_, rfl, ?_⟩
            replace aa := bB_ aa hb; replace HB := hS_ HB hb
            (try clear hb)
            (try clear hb2)
            (try clear hk)
            (try clear hi)
            refine hK.out _ _ ⟨(blk_cell aa.out 0).trans rfl, (blk_cell aa.out 1).trans rfl, (blk_cell aa.out 2).trans rfl, (blk_cell aa.out 3).trans rfl, (blk_cell aa.out 4).trans rfl, (blk_cell aa.out 5).trans rfl, (blk_cell aa.out 6).trans rfl, ((HB.out.cell (World.block_lt_of_cell? w _ hw496_0)).trans hw496_0), ((HB.out.cell (World.block_lt_of_cell? w _ hw497_0)).trans hw497_0), ((HB.out.cell (World.block_lt_of_cell? w _ hw499_0)).trans hw499_0), ((HB.out.cell (World.block_lt_of_cell? w _ hw501_0)).trans hw501_0), ((HB.out.cell (World.block_lt_of_cell? w _ hw502_0)).trans hw502_0)⟩ (fun hHeld => ?_)
            clear hK K
            refine norm_ (a' := ?_) ?_ ?_
            rotate_left
            ·show Act.put _ (some 33) _ = _
             simp only [Act.put, List.setIfInBounds_toArray, List.set_cons_zero, List.set_cons_succ, i64_w, i32_w]
             rfl
            refine pu_ (i := 22) (N := some 34) (tf 39 8388607) HT_ ?_; refine pu_ (i := 23) (N := some 35) (tf 39 16777215) HT_ ?_; refine pu_ (i := 24) (N := some 36) (tf 39 33554431) HT_ ?_; refine pu_ (i := 25) (N := some 37) (tf 39 67108863) HT_ ?_; refine pu_ (i := 26) (N := some 38) (tf 39 134217727) HT_ ?_; refine pu_ (i := 27) (N := some 39) (tf 39 268435455) HT_ ?_; refine pu_ (i := 28) (N := some 40) (tf 39 536870911) HT_ ?_; refine pu_ (i := 29) (N := some 41) (tf 39 1073741823) HT_ ?_; refine pu_ (i := 30) (N := some 42) (tf 39 2147483647) HT_ ?_; refine pu_ (i := 32) (N := some 44) (tf 39 6442450943) HT_ ?_; refine pu_ (i := 33) (N := some 45) (tf 39 15032385535) HT_ ?_; refine pu_ (i := 34) (N := some 46) (tf 39 32212254719) HT_ ?_; refine tk_ (i := 31) (N := some 43) (tf 39 34359738367) rfl rfl HT_ HW_ hHeld (by rintro w' ⟨s0, s1, s2, s3, s4, s5, s6, s7, s8, s9, s10, s11⟩; go_simp; with_reducible rfl) ?_; refine tk_ (i := 35) (N := some 47) (tf 39 68719476735) rfl rfl HT_ HW_ hHeld (by rintro w' ⟨s0, s1, s2, s3, s4, s5, s6, s7, s8, s9, s10, s11⟩; go_simp; with_reducible rfl) ?_; refine pu_ (i := 36) (N := some 48) (tf 39 137438953471) HT_ ?_; refine pu_ (i := 37) (N := some 49) (tf 39 274877906943) HT_ ?_; refine pu_ (i := 38) (N := some 50) (tf 39 549755813887) HT_ ?_
            refine done_ (done_of HT_.out (by kernel_rfl)) ?_
            try go_wp2
            go_ret
            exact ⟨by first | rfl | (simp [errW_none, errW_some] <;> rfl) | (simp only [← hji18]; first | rfl | (simp [errW_none, errW_some] <;> rfl)) | (simp [*, errW_none, errW_some] <;> rfl), hB_ HB⟩
           ·rw [if_neg c21] at H
            have au : decide ((rd l1 ab) ≤ (rd l1 (ji18))) = false := decide_eq_false c21
            clear c21
            have H' := Aside0.mk H
            clear H
            try go_wp2
            replace aa := Aside0.mk (blk_drew aa.out); replace HB := Aside0.mk (below_drew1 HB.out)
            have p496 : 0 ≤ (ab : Int) := od_
            have q496 : ab < (l1.length : Int) := od_
            obtain ⟨ad496, e496, hx496_0⟩ := Kd.at_int ak.out ab p496 q496; have hw496_0 := hx496_0
            cases e496
            replace hx496_0 := (HB.out.cell (World.block_lt_of_cell? w _ hx496_0)).trans hx496_0; replace p496 := eq_true p496; replace q496 := eq_true q496
            have p497 : 0 ≤ (ab : Int) := od_
            have q497 : ab < (l1.length : Int) := od_
            obtain ⟨ad497, e497, hx497_0⟩ := Kd.at_int ak.out ab p497 q497; have hw497_0 := hx497_0
            obtain rfl : ad496 = ad497 := (by injection e497)
            replace hx497_0 := (HB.out.cell (World.block_lt_of_cell? w _ hx497_0)).trans hx497_0; replace p497 := eq_true p497; replace q497 := eq_true q497
            have p499 : 0 ≤ (ab : Int) := od_
            have q499 : ab < (l1.length : Int) := od_
            obtain ⟨ad499, e499, hx499_0⟩ := Kd.at_int ak.out ab p499 q499; have hw499_0 := hx499_0
            obtain rfl : ad496 = ad499 := (by injection e499)
            replace hx499_0 := (HB.out.cell (World.block_lt_of_cell? w _ hx499_0)).trans hx499_0; replace p499 := eq_true p499; replace q499 := eq_true q499
            have p501 : 0 ≤ ((ji18) : Int) := od_
            have q501 : (ji18) < (l1.length : Int) := od_
            obtain ⟨ad501, e501, hx501_0⟩ := Kd.at_int ak.out (ji18) p501 q501; have hw501_0 := hx501_0
            obtain rfl : ad496 = ad501 := (by injection e501)
            replace hx501_0 := (HB.out.cell (World.block_lt_of_cell? w _ hx501_0)).trans hx501_0; replace p501 := eq_true p501; replace q501 := eq_true q501
            have p502 : 0 ≤ (ab : Int) := od_
            have q502 : ab < (l1.length : Int) := od_
            obtain ⟨ad502, e502, hx502_0⟩ := Kd.at_int ak.out ab p502 q502; have hw502_0 := hx502_0
            obtain rfl : ad496 = ad502 := (by injection e502)
            replace hx502_0 := (HB.out.cell (World.block_lt_of_cell? w _ hx502_0)).trans hx502_0; replace p502 := eq_true p502; replace q502 := eq_true q502
            refine start_ (n := 39) (S := fun w' => w'.cell? ⟨ac, 0, none⟩ = some (.int .u32 ad) ∧ w'.cell? ⟨ac, 1, none⟩ = some (.int .i64 ae) ∧ w'.cell? ⟨ac, 2, none⟩ = some (.slice al af.length am) ∧ w'.cell? ⟨ac, 3, none⟩ = some (.int .i64 ag) ∧ w'.cell? ⟨ac, 4, none⟩ = some (.int .i64 ah) ∧ w'.cell? ⟨ac, 5, none⟩ = some (.int .i64 ai) ∧ w'.cell? ⟨ac, 6, none⟩ = some (.int .i64 aj) ∧ w'.cell? (ad496.add (ab).toNat) = some (.int .i64 (rd l1 ab)) ∧ w'.cell? (ad496.add (ab).toNat) = some (.int .i64 (rd l1 ab)) ∧ w'.cell? (ad496.add (ab).toNat) = some (.int .i64 (rd l1 ab)) ∧ w'.cell? (ad496.add ((ji18)).toNat) = some (.int .i64 (rd l1 (ji18))) ∧ w'.cell? (ad496.add (ab).toNat) = some (.int .i64 (rd l1 ab))) (ds := []) (tf 39 0) (by kernel_rfl) rfl rfl ⟨(blk_cell aa.out 0).trans rfl, (blk_cell aa.out 1).trans rfl, (blk_cell aa.out 2).trans rfl, (blk_cell aa.out 3).trans rfl, (blk_cell aa.out 4).trans rfl, (blk_cell aa.out 5).trans rfl, (blk_cell aa.out 6).trans rfl, ((HB.out.cell (World.block_lt_of_cell? w _ hw496_0)).trans hw496_0), ((HB.out.cell (World.block_lt_of_cell? w _ hw497_0)).trans hw497_0), ((HB.out.cell (World.block_lt_of_cell? w _ hw499_0)).trans hw499_0), ((HB.out.cell (World.block_lt_of_cell? w _ hw501_0)).trans hw501_0), ((HB.out.cell (World.block_lt_of_cell? w _ hw502_0)).trans hw502_0)⟩ (fun hHeld => ?_); refine with_tabW lodgerref09_May.tab4 lodgerref09_May.bits4 (fun HT_ HW_ => ?_)
            generalize wr.drew = w25 at aa HB hx496_0 hx497_0 hx499_0 hx501_0 hx502_0 hHeld ⊢
            refine pu_ (i := 0) (N := some 12) (tf 39 1) HT_ ?_; refine pu_ (i := 1) (N := some 13) (tf 39 3) HT_ ?_; refine pu_ (i := 2) (N := some 14) (tf 39 7) HT_ ?_; refine tk_ (i := 3) (N := some 15) (tf 39 15) rfl rfl HT_ HW_ hHeld (by rintro w' ⟨s0, s1, s2, s3, s4, s5, s6, s7, s8, s9, s10, s11⟩; go_simp; with_reducible rfl) ?_; refine pu_ (i := 4) (N := some 16) (tf 39 31) HT_ ?_; refine pu_ (i := 5) (N := some 17) (tf 39 63) HT_ ?_; refine pu_ (i := 6) (N := some 18) (tf 39 127) HT_ ?_; refine pu_ (i := 7) (N := some 19) (tf 39 255) HT_ ?_; refine pu_ (i := 8) (N := some 20) (tf 39 511) HT_ ?_; refine pu_ (i := 10) (N := some 22) (tf 39 1535) HT_ ?_; refine tk_ (i := 9) (N := some 21) (tf 39 2047) rfl rfl HT_ HW_ hHeld (by rintro w' ⟨s0, s1, s2, s3, s4, s5, s6, s7, s8, s9, s10, s11⟩; go_simp; with_reducible rfl) ?_; refine tk_ (i := 11) (N := some 23) (tf 39 4095) rfl rfl HT_ HW_ hHeld (by rintro w' ⟨s0, s1, s2, s3, s4, s5, s6, s7, s8, s9, s10, s11⟩; go_simp; with_reducible rfl) ?_
            refine on_ (i := 12) (N := some 24) (tf 39 8191) HT_ (fun K hK => ?_)
            refine goes_ Tryd.func30 (by kernel_rfl) rfl #[.agg #[.int .u32 ad, .int .i64 ae]] (by rfl) rfl rfl am_ ?_
            with_reducible refine (lodgerref05_Many.calls k1 ad ae an _ A8.out).mono ?_
            rintro e w26 ⟨rfl, hb⟩
            refine ⟨_, rfl, ?_⟩
            replace aa := bB_ aa hb; replace HB := hS_ HB hb
            (try clear hb)
            (try clear hb2)
            (try clear hk)
            (try clear hi)
            refine hK.out _ _ ⟨(blk_cell aa.out 0).trans rfl, (blk_cell aa.out 1).trans rfl, (blk_cell aa.out 2).trans rfl, (blk_cell aa.out 3).trans rfl, (blk_cell aa.out 4).trans rfl, (blk_cell aa.out 5).trans rfl, (blk_cell aa.out 6).trans rfl, ((HB.out.cell (World.block_lt_of_cell? w _ hw496_0)).trans hw496_0), ((HB.out.cell (World.block_lt_of_cell? w _ hw497_0)).trans hw497_0), ((HB.out.cell (World.block_lt_of_cell? w _ hw499_0)).trans hw499_0), ((HB.out.cell (World.block_lt_of_cell? w _ hw501_0)).trans hw501_0), ((HB.out.cell (World.block_lt_of_cell? w _ hw502_0)).trans hw502_0)⟩ (fun hHeld => ?_)
            clear hK K
            refine norm_ (a' := ?_) ?_ ?_
            rotate_left
            ·show Act.put _ (some 24) _ = _
             simp only [Act.put, List.setIfInBounds_toArray, List.set_cons_zero, List.set_cons_succ, i64_w, i32_w]
             rfl
            refine pu_ (i := 13) (N := some 25) (tf 39 16383) HT_ ?_; refine pu_ (i := 14) (N := some 26) (tf 39 32767) HT_ ?_; refine pu_ (i := 15) (N := some 27) (tf 39 65535) HT_ ?_; refine pu_ (i := 17) (N := some 29) (tf 39 196607) HT_ ?_; refine pu_ (i := 18) (N := some 30) (tf 39 458751) HT_ ?_; refine pu_ (i := 19) (N := some 31) (tf 39 983039) HT_ ?_; refine tk_ (i := 16) (N := some 28) (tf 39 1048575) rfl rfl HT_ HW_ hHeld (by rintro w' ⟨s0, s1, s2, s3, s4, s5, s6, s7, s8, s9, s10, s11⟩; go_simp; with_reducible rfl) ?_; refine tk_ (i := 20) (N := some 32) (tf 39 2097151) rfl rfl HT_ HW_ hHeld (by rintro w' ⟨s0, s1, s2, s3, s4, s5, s6, s7, s8, s9, s10, s11⟩; go_simp; with_reducible rfl) ?_
            refine on_ (i := 21) (N := some 33) (tf 39 4194303) HT_ (fun K hK => ?_)
            refine goes_ Tryd.func22 (by kernel_rfl) rfl #[.agg #[.int .u32 ad, .int .i64 ae, .slice al af.length am, .int .i64 ag, .int .i64 ah, .int .i64 ai, .int .i64 aj], .int .i64 (rd l1 ab)] (by rfl) rfl rfl am_ ?_
            with_reducible refine (lodgerref05_Held.calls k1 ad ae _ _ af ag ah ai aj (rd l1 ab) false _ ?side1 ?side2 A12.out).mono ?_
            (case side1 => exact cC_ ap HB)
            (case side2 => exact ao.out)
            rintro e w27 ⟨rfl, hb⟩
            refine ⟨_, rfl, ?_⟩
            replace aa := bB_ aa hb; replace HB := hS_ HB hb
            (try clear hb)
            (try clear hb2)
            (try clear hk)
            (try clear hi)
            refine hK.out _ _ ⟨(blk_cell aa.out 0).trans rfl, (blk_cell aa.out 1).trans rfl, (blk_cell aa.out 2).trans rfl, (blk_cell aa.out 3).trans rfl, (blk_cell aa.out 4).trans rfl, (blk_cell aa.out 5).trans rfl, (blk_cell aa.out 6).trans rfl, ((HB.out.cell (World.block_lt_of_cell? w _ hw496_0)).trans hw496_0), ((HB.out.cell (World.block_lt_of_cell? w _ hw497_0)).trans hw497_0), ((HB.out.cell (World.block_lt_of_cell? w _ hw499_0)).trans hw499_0), ((HB.out.cell (World.block_lt_of_cell? w _ hw501_0)).trans hw501_0), ((HB.out.cell (World.block_lt_of_cell? w _ hw502_0)).trans hw502_0)⟩ (fun hHeld => ?_)
            clear hK K
            refine norm_ (a' := ?_) ?_ ?_
            rotate_left
            ·show Act.put _ (some 33) _ = _
             simp only [Act.put, List.setIfInBounds_toArray, List.set_cons_zero, List.set_cons_succ, i64_w, i32_w]
             rfl
            refine pu_ (i := 22) (N := some 34) (tf 39 8388607) HT_ ?_; refine pu_ (i := 23) (N := some 35) (tf 39 16777215) HT_ ?_; refine pu_ (i := 24) (N := some 36) (tf 39 33554431) HT_ ?_; refine pu_ (i := 25) (N := some 37) (tf 39 67108863) HT_ ?_; refine pu_ (i := 26) (N := some 38) (tf 39 134217727) HT_ ?_; refine pu_ (i := 27) (N := some 39) (tf 39 268435455) HT_ ?_; refine pu_ (i := 28) (N := some 40) (tf 39 536870911) HT_ ?_; refine pu_ (i := 29) (N := some 41) (tf 39 1073741823) HT_ ?_; refine pu_ (i := 30) (N := some 42) (tf 39 2147483647) HT_ ?_; refine pu_ (i := 32) (N := some 44) (tf 39 6442450943) HT_ ?_; refine pu_ (i := 33) (N := some 45) (tf 39 15032385535) HT_ ?_; refine pu_ (i := 34) (N := some 46) (tf 39 32212254719) HT_ ?_; refine tk_ (i := 31) (N := some 43) (tf 39 34359738367) rfl rfl HT_ HW_ hHeld (by rintro w' ⟨s0, s1, s2, s3, s4, s5, s6, s7, s8, s9, s10, s11⟩; go_simp; with_reducible rfl) ?_; refine tk_ (i := 35) (N := some 47) (tf 39 68719476735) rfl rfl HT_ HW_ hHeld (by rintro w' ⟨s0, s1, s2, s3, s4, s5, s6, s7, s8, s9, s10, s11⟩; go_simp; with_reducible rfl) ?_; refine pu_ (i := 36) (N := some 48) (tf 39 137438953471) HT_ ?_; refine pu_ (i := 37) (N := some 49) (tf 39 274877906943) HT_ ?_; refine pu_ (i := 38) (N := some 50) (tf 39 549755813887) HT_ ?_
            refine done_ (done_of HT_.out (by kernel_rfl)) ?_
            try go_wp2
            go_roundg k1
            case measure => have := HK1.out; omega
            case rel => exact ⟨(wrap64 (ab + 1)), rs_, H', ⟨om_ HK1⟩, ⟨bk_ aa⟩, ⟨hB_ HB⟩⟩
          ·rw [if_neg c20] at H
           exact absurd H (by simp)
         ·rw [if_neg c19] at H
          exact absurd H (by simp)
        ·rw [if_neg c17] at H
         have ar : decide (0 < ab) = false := decide_eq_false c17
         clear c17
         have H' := Aside0.mk H
         clear H
         try go_wp2
         replace aa := Aside0.mk (blk_drew aa.out); replace HB := Aside0.mk (below_drew1 HB.out)
         have p496 : 0 ≤ (ab : Int) := od_
         have q496 : ab < (l1.length : Int) := od_
         obtain ⟨ad496, e496, hx496_0⟩ := Kd.at_int ak.out ab p496 q496; have hw496_0 := hx496_0
         cases e496
         replace hx496_0 := (HB.out.cell (World.block_lt_of_cell? w _ hx496_0)).trans hx496_0; replace p496 := eq_true p496; replace q496 := eq_true q496
         have p497 : 0 ≤ (ab : Int) := od_
         have q497 : ab < (l1.length : Int) := od_
         obtain ⟨ad497, e497, hx497_0⟩ := Kd.at_int ak.out ab p497 q497; have hw497_0 := hx497_0
         obtain rfl : ad496 = ad497 := (by injection e497)
         replace hx497_0 := (HB.out.cell (World.block_lt_of_cell? w _ hx497_0)).trans hx497_0; replace p497 := eq_true p497; replace q497 := eq_true q497
         have p499 : 0 ≤ (ab : Int) := od_
         have q499 : ab < (l1.length : Int) := od_
         obtain ⟨ad499, e499, hx499_0⟩ := Kd.at_int ak.out ab p499 q499; have hw499_0 := hx499_0
         obtain rfl : ad496 = ad499 := (by injection e499)
         replace hx499_0 := (HB.out.cell (World.block_lt_of_cell? w _ hx499_0)).trans hx499_0; replace p499 := eq_true p499; replace q499 := eq_true q499
         refine start_ (n := 39) (S := fun w' => w'.cell? ⟨ac, 0, none⟩ = some (.int .u32 ad) ∧ w'.cell? ⟨ac, 1, none⟩ = some (.int .i64 ae) ∧ w'.cell? ⟨ac, 2, none⟩ = some (.slice al af.length am) ∧ w'.cell? ⟨ac, 3, none⟩ = some (.int .i64 ag) ∧ w'.cell? ⟨ac, 4, none⟩ = some (.int .i64 ah) ∧ w'.cell? ⟨ac, 5, none⟩ = some (.int .i64 ai) ∧ w'.cell? ⟨ac, 6, none⟩ = some (.int .i64 aj) ∧ w'.cell? (ad496.add (ab).toNat) = some (.int .i64 (rd l1 ab)) ∧ w'.cell? (ad496.add (ab).toNat) = some (.int .i64 (rd l1 ab)) ∧ w'.cell? (ad496.add (ab).toNat) = some (.int .i64 (rd l1 ab))) (ds := []) (tf 39 0) (by kernel_rfl) rfl rfl ⟨(blk_cell aa.out 0).trans rfl, (blk_cell aa.out 1).trans rfl, (blk_cell aa.out 2).trans rfl, (blk_cell aa.out 3).trans rfl, (blk_cell aa.out 4).trans rfl, (blk_cell aa.out 5).trans rfl, (blk_cell aa.out 6).trans rfl, ((HB.out.cell (World.block_lt_of_cell? w _ hw496_0)).trans hw496_0), ((HB.out.cell (World.block_lt_of_cell? w _ hw497_0)).trans hw497_0), ((HB.out.cell (World.block_lt_of_cell? w _ hw499_0)).trans hw499_0)⟩ (fun hHeld => ?_); refine with_tabW lodgerref09_May.tab4 lodgerref09_May.bits4 (fun HT_ HW_ => ?_)
         generalize wr.drew = w28 at aa HB hx496_0 hx497_0 hx499_0 hHeld ⊢
         refine pu_ (i := 0) (N := some 12) (tf 39 1) HT_ ?_; refine pu_ (i := 1) (N := some 13) (tf 39 3) HT_ ?_; refine pu_ (i := 2) (N := some 14) (tf 39 7) HT_ ?_; refine tk_ (i := 3) (N := some 15) (tf 39 15) rfl rfl HT_ HW_ hHeld (by rintro w' ⟨s0, s1, s2, s3, s4, s5, s6, s7, s8, s9⟩; go_simp; with_reducible rfl) ?_; refine pu_ (i := 4) (N := some 16) (tf 39 31) HT_ ?_; refine pu_ (i := 5) (N := some 17) (tf 39 63) HT_ ?_; refine pu_ (i := 6) (N := some 18) (tf 39 127) HT_ ?_; refine pu_ (i := 7) (N := some 19) (tf 39 255) HT_ ?_; refine pu_ (i := 8) (N := some 20) (tf 39 511) HT_ ?_; refine pu_ (i := 10) (N := some 22) (tf 39 1535) HT_ ?_; refine tk_ (i := 9) (N := some 21) (tf 39 2047) rfl rfl HT_ HW_ hHeld (by rintro w' ⟨s0, s1, s2, s3, s4, s5, s6, s7, s8, s9⟩; go_simp; with_reducible rfl) ?_; refine tk_ (i := 11) (N := some 23) (tf 39 4095) rfl rfl HT_ HW_ hHeld (by rintro w' ⟨s0, s1, s2, s3, s4, s5, s6, s7, s8, s9⟩; go_simp; with_reducible rfl) ?_
         refine on_ (i := 12) (N := some 24) (tf 39 8191) HT_ (fun K hK => ?_)
         refine goes_ Tryd.func30 (by kernel_rfl) rfl #[.agg #[.int .u32 ad, .int .i64 ae]] (by rfl) rfl rfl am_ ?_
         with_reducible refine (lodgerref05_Many.calls k1 ad ae an _ A8.out).mono ?_
         rintro e w29 ⟨rfl, hb⟩
         refine ⟨_, rfl, ?_⟩
         replace aa := bB_ aa hb; replace HB := hS_ HB hb
         (try clear hb)
         (try clear hb2)
         (try clear hk)
         (try clear hi)
         refine hK.out _ _ ⟨(blk_cell aa.out 0).trans rfl, (blk_cell aa.out 1).trans rfl, (blk_cell aa.out 2).trans rfl, (blk_cell aa.out 3).trans rfl, (blk_cell aa.out 4).trans rfl, (blk_cell aa.out 5).trans rfl, (blk_cell aa.out 6).trans rfl, ((HB.out.cell (World.block_lt_of_cell? w _ hw496_0)).trans hw496_0), ((HB.out.cell (World.block_lt_of_cell? w _ hw497_0)).trans hw497_0), ((HB.out.cell (World.block_lt_of_cell? w _ hw499_0)).trans hw499_0)⟩ (fun hHeld => ?_)
         clear hK K
         refine norm_ (a' := ?_) ?_ ?_
         rotate_left
         ·show Act.put _ (some 24) _ = _
          simp only [Act.put, List.setIfInBounds_toArray, List.set_cons_zero, List.set_cons_succ, i64_w, i32_w]
          rfl
         refine pu_ (i := 13) (N := some 25) (tf 39 16383) HT_ ?_; refine pu_ (i := 14) (N := some 26) (tf 39 32767) HT_ ?_; refine pu_ (i := 15) (N := some 27) (tf 39 65535) HT_ ?_; refine pu_ (i := 17) (N := some 29) (tf 39 196607) HT_ ?_; refine pu_ (i := 18) (N := some 30) (tf 39 458751) HT_ ?_; refine pu_ (i := 19) (N := some 31) (tf 39 983039) HT_ ?_; refine tk_ (i := 16) (N := some 28) (tf 39 1048575) rfl rfl HT_ HW_ hHeld (by rintro w' ⟨s0, s1, s2, s3, s4, s5, s6, s7, s8, s9⟩; go_simp; with_reducible rfl) ?_; refine tk_ (i := 20) (N := some 32) (tf 39 2097151) rfl rfl HT_ HW_ hHeld (by rintro w' ⟨s0, s1, s2, s3, s4, s5, s6, s7, s8, s9⟩; go_simp; with_reducible rfl) ?_
         refine on_ (i := 21) (N := some 33) (tf 39 4194303) HT_ (fun K hK => ?_)
         refine goes_ Tryd.func22 (by kernel_rfl) rfl #[.agg #[.int .u32 ad, .int .i64 ae, .slice al af.length am, .int .i64 ag, .int .i64 ah, .int .i64 ai, .int .i64 aj], .int .i64 (rd l1 ab)] (by rfl) rfl rfl am_ ?_
         with_reducible refine (lodgerref05_Held.calls k1 ad ae _ _ af ag ah ai aj (rd l1 ab) false _ ?side1 ?side2 A12.out).mono ?_
         (case side1 => exact cC_ ap HB)
         (case side2 => exact ao.out)
         rintro e w30 ⟨rfl, hb⟩
         refine ⟨_, rfl, ?_⟩
         replace aa := bB_ aa hb; replace HB := hS_ HB hb
         (try clear hb)
         (try clear hb2)
         (try clear hk)
         (try clear hi)
         refine hK.out _ _ ⟨(blk_cell aa.out 0).trans rfl, (blk_cell aa.out 1).trans rfl, (blk_cell aa.out 2).trans rfl, (blk_cell aa.out 3).trans rfl, (blk_cell aa.out 4).trans rfl, (blk_cell aa.out 5).trans rfl, (blk_cell aa.out 6).trans rfl, ((HB.out.cell (World.block_lt_of_cell? w _ hw496_0)).trans hw496_0), ((HB.out.cell (World.block_lt_of_cell? w _ hw497_0)).trans hw497_0), ((HB.out.cell (World.block_lt_of_cell? w _ hw499_0)).trans hw499_0)⟩ (fun hHeld => ?_)
         clear hK K
         refine norm_ (a' := ?_) ?_ ?_
         rotate_left
         ·show Act.put _ (some 33) _ = _
          simp only [Act.put, List.setIfInBounds_toArray, List.set_cons_zero, List.set_cons_succ, i64_w, i32_w]
          rfl
         refine pu_ (i := 22) (N := some 34) (tf 39 8388607) HT_ ?_; refine pu_ (i := 23) (N := some 35) (tf 39 16777215) HT_ ?_; refine pu_ (i := 24) (N := some 36) (tf 39 33554431) HT_ ?_; refine pu_ (i := 25) (N := some 37) (tf 39 67108863) HT_ ?_; refine pu_ (i := 26) (N := some 38) (tf 39 134217727) HT_ ?_; refine pn_ (i := 27) (N := some 39) (tf 39 268435455) HT_ ?_; refine pn_ (i := 28) (N := some 40) (tf 39 536870911) HT_ ?_; refine pn_ (i := 29) (N := some 41) (tf 39 1073741823) HT_ ?_; refine pn_ (i := 30) (N := some 42) (tf 39 2147483647) HT_ ?_; refine pn_ (i := 31) (N := some 43) (tf 39 4294967295) HT_ ?_; refine pn_ (i := 32) (N := some 44) (tf 39 8589934591) HT_ ?_; refine pn_ (i := 33) (N := some 45) (tf 39 17179869183) HT_ ?_; refine pn_ (i := 34) (N := some 46) (tf 39 34359738367) HT_ ?_; refine pn_ (i := 35) (N := some 47) (tf 39 68719476735) HT_ ?_; refine pn_ (i := 36) (N := some 48) (tf 39 137438953471) HT_ ?_; refine pu_ (i := 37) (N := some 49) (tf 39 274877906943) HT_ ?_; refine pu_ (i := 38) (N := some 50) (tf 39 549755813887) HT_ ?_
         refine done_ (done_of HT_.out (by kernel_rfl)) ?_
         try go_wp2
         go_roundg k1
         case measure => have := HK1.out; omega
         case rel => exact ⟨(wrap64 (ab + 1)), rs_, H', ⟨om_ HK1⟩, ⟨bk_ aa⟩, ⟨hB_ HB⟩⟩
    ·rw [if_neg c5] at H
     exact absurd H (by simp)
   ·rw [if_neg c4] at H
    have av : decide (ab < (l1.length : Int)) = false := decide_eq_false c4
    clear c4
    obtain rfl := Option.some.inj H
    go_wp2
    go_ret
    exact ⟨er_, hB_ HB⟩

end Go.Proofs.YtkiimboedgnoiaaDoor.PSpecBack
