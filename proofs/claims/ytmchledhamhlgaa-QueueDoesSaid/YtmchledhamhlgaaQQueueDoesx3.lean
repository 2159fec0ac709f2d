/- The walk of QueueDoes, part of it: what the Go functions answer; no condition. -/
import Derived.Test.YtmchledhamhlgaaQQueueDoesx0
import Derived.Test.YtmchledhamhlgaaQQueueDoesx1
import Derived.Test.YtmchledhamhlgaaQQueueDoesx2
namespace Go.Proofs.Ytmchledhamhlgaa.PQueueDoes
open Go.RowKit Go.Proofs.YtmchledhamhlgaaW.PrintWords Go.Proofs.YtmchledhamhlgaaW.PrintLast Go.Proofs.YtmchledhamhlgaaW.PrintMore
attribute [local go_sem] max2_int min2_int max_two min_two max_three min_three max_four min_four   -- for this text's walks alone
set_option linter.unusedVariables false
set_option linter.unusedSimpArgs false

/-! ### lodgerlaw03_QueueDoes: function 4 -/
mutual
def lodgerlaw03_QueueDoes.j0 : Nat → Int → Int → Bool → Int → List Int → Bool → Option (Bool)
 | 0, _, _, _, _, _, _ => none
 | k + 1, x1, x2, x35, x227000, x227001, x227002 => if x35 = true then ((lodgerlaw03_awake.f).bind fun t230 => (if t230 = true then (some (decide ((x227001.length : Int) > 200))) else (some false))) else ((queue_New.f x2).bind fun bt231 => (if x2 ≥ 1 then (lodgerlaw03_QueueDoes.j1 k x1 x2 bt231.2.2.2 (decide (x2 ≤ 64)) x227000 x227001 x227002 bt231.1 bt231.2.1 bt231.2.2.1) else (lodgerlaw03_QueueDoes.j1 k x1 x2 bt231.2.2.2 false x227000 x227001 x227002 bt231.1 bt231.2.1 bt231.2.2.1)))
def lodgerlaw03_QueueDoes.j1 : Nat → Int → Int → Int → Bool → Int → List Int → Bool → Int → List Int → Bool → Option (Bool)
 | 0, _, _, _, _, _, _, _, _, _, _ => none
 | k + 1, x1, x2, x8, x9, x227000, x227001, x227002, x238000, x238001, x238002 => if ((x8 == 0) != x9) = true then (lodgerlaw03_QueueDoes.j2 k x1 true x227000 x227001 x227002) else (if x9 = true then ((lodgerref03_Same.f k x238000 x238001 x238002 x2 ([] : List Int) false).bind fun t238 => (if t238 = true then (lodgerlaw03_QueueDoes.j2 k x1 false x227000 x227001 x227002) else (lodgerlaw03_QueueDoes.j2 k x1 true x227000 x227001 x227002))) else (if x8 = 1 then ((lodgerref03_Same.f k x238000 x238001 x238002 0 ([] : List Int) false).bind fun t239 => (lodgerlaw03_QueueDoes.j2 k x1 (!t239) x227000 x227001 x227002)) else (lodgerlaw03_QueueDoes.j2 k x1 true x227000 x227001 x227002)))
def lodgerlaw03_QueueDoes.j2 : Nat → Int → Bool → Int → List Int → Bool → Option (Bool)
 | 0, _, _, _, _, _ => none
 | k + 1, x1, x81, x227000, x227001, x227002 => if x81 = true then (some false) else ((lodgerref03_May.f x227000 x227001 x227002).bind fun t240 => (if t240 = true then ((queue_Put.f x227000 x227001 x227002 x1).bind fun bt241 => ((lodgerref03_Put.f x227000 x227001 x227002 x1).bind fun bt248 => ((queue_Take.f x227000 x227001 x227002).bind fun bt255 => ((lodgerref03_Take.f x227000 x227001 x227002).bind fun bt263 => ((lodgerref03_Same.f k bt241.1 bt241.2.1 bt241.2.2.1 bt248.1 bt248.2.1 bt248.2.2.1).bind fun t272 => (if t272 = true then (if bt241.2.2.2 = bt248.2.2.2 then ((lodgerref03_Same.f k bt255.1 bt255.2.1 bt255.2.2.1 bt263.1 bt263.2.1 bt263.2.2.1).bind fun t273 => (if t273 = true then (if bt255.2.2.2.1 = bt263.2.2.2.1 then (if (bt255.2.2.2.2 == bt263.2.2.2.2) = true then ((queue_Close.f x227000 x227001 x227002).bind fun bt274 => ((lodgerref03_Same.f k bt274.1 bt274.2.1 bt274.2.2 x227000 x227001 true).bind fun t279 => (if t279 = true then ((queue_Ends.f x227000 x227001 x227002).bind fun t280 => (if x227002 = true then (some (t280 == ((x227001.length : Int) == 0))) else (some (t280 == false)))) else (some false)))) else (some false)) else (some false)) else (some false))) else (some false)) else (some false))))))) else (some true)))
end
def lodgerlaw03_QueueDoes.f (k : Nat) (a0_0 : Int) (l0_1 : List Int) (a0_2 : Bool) (a1 : Int) (a2 : Int) : Option (Bool) := (lodgerlaw03_awake.f).bind fun t227 => (if t227 = true then (if (l0_1.length : Int) > 200 then (lodgerlaw03_QueueDoes.j0 k a1 a2 true a0_0 l0_1 a0_2) else ((queue_May.f a0_0 l0_1 a0_2).bind fun t228 => ((lodgerref03_May.f a0_0 l0_1 a0_2).bind fun t229 => (lodgerlaw03_QueueDoes.j0 k a1 a2 (t228 != t229) a0_0 l0_1 a0_2)))) else (lodgerlaw03_QueueDoes.j0 k a1 a2 true a0_0 l0_1 a0_2))
theorem lodgerlaw03_QueueDoes.mono_l : ∀ k, (∀ y0 y1 y2 y3 y4 y5, LeO (lodgerlaw03_QueueDoes.j0 k y0 y1 y2 y3 y4 y5) (lodgerlaw03_QueueDoes.j0 (k + 1) y0 y1 y2 y3 y4 y5)) ∧ (∀ y0 y1 y2 y3 y4 y5 y6 y7 y8 y9, LeO (lodgerlaw03_QueueDoes.j1 k y0 y1 y2 y3 y4 y5 y6 y7 y8 y9) (lodgerlaw03_QueueDoes.j1 (k + 1) y0 y1 y2 y3 y4 y5 y6 y7 y8 y9)) ∧ (∀ y0 y1 y2 y3 y4, LeO (lodgerlaw03_QueueDoes.j2 k y0 y1 y2 y3 y4) (lodgerlaw03_QueueDoes.j2 (k + 1) y0 y1 y2 y3 y4))
 | 0 => ⟨fun _ _ _ _ _ _ r h => by simp [lodgerlaw03_QueueDoes.j0] at h, fun _ _ _ _ _ _ _ _ _ _ r h => by simp [lodgerlaw03_QueueDoes.j1] at h, fun _ _ _ _ _ r h => by simp [lodgerlaw03_QueueDoes.j2] at h⟩
 | k + 1 => by
  obtain ⟨ih0, ih1, ih2⟩ := lodgerlaw03_QueueDoes.mono_l k
  refine ⟨?_, ?_, ?_⟩
  ·intro y0 y1 y2 y3 y4 y5
   unfold lodgerlaw03_QueueDoes.j0
   repeat' first
   | (with_reducible exact ih0 _ _ _ _ _ _)
   | (with_reducible exact ih1 _ _ _ _ _ _ _ _ _ _)
   | (with_reducible exact ih2 _ _ _ _ _)
   | (with_reducible exact lodgerref03_Same.mono _ _ _ _ _ _ _)
   | (with_reducible exact LeO.refl _)
   | (with_reducible exact LeO.none _)
   | (with_reducible refine LeO.ite ?_ ?_)
   | (with_reducible refine LeO.bind ?_ (fun _ => ?_))
   | exact ih0 _ _ _ _ _ _
   | exact ih1 _ _ _ _ _ _ _ _ _ _
   | exact ih2 _ _ _ _ _
   | exact lodgerref03_Same.mono _ _ _ _ _ _ _
   | exact LeO.none _
   | refine LeO.ite ?_ ?_
   | refine LeO.bind ?_ (fun _ => ?_)
  ·intro y0 y1 y2 y3 y4 y5 y6 y7 y8 y9
   unfold lodgerlaw03_QueueDoes.j1
   repeat' first
   | (with_reducible exact ih0 _ _ _ _ _ _)
   | (with_reducible exact ih1 _ _ _ _ _ _ _ _ _ _)
   | (with_reducible exact ih2 _ _ _ _ _)
   | (with_reducible exact lodgerref03_Same.mono _ _ _ _ _ _ _)
   | (with_reducible exact LeO.refl _)
   | (with_reducible exact LeO.none _)
   | (with_reducible refine LeO.ite ?_ ?_)
   | (with_reducible refine LeO.bind ?_ (fun _ => ?_))
   | exact ih0 _ _ _ _ _ _
   | exact ih1 _ _ _ _ _ _ _ _ _ _
   | exact ih2 _ _ _ _ _
   | exact lodgerref03_Same.mono _ _ _ _ _ _ _
   | exact LeO.none _
   | refine LeO.ite ?_ ?_
   | refine LeO.bind ?_ (fun _ => ?_)
  ·intro y0 y1 y2 y3 y4
   unfold lodgerlaw03_QueueDoes.j2
   repeat' first
   | (with_reducible exact ih0 _ _ _ _ _ _)
   | (with_reducible exact ih1 _ _ _ _ _ _ _ _ _ _)
   | (with_reducible exact ih2 _ _ _ _ _)
   | (with_reducible exact lodgerref03_Same.mono _ _ _ _ _ _ _)
   | (with_reducible exact LeO.refl _)
   | (with_reducible exact LeO.none _)
   | (with_reducible refine LeO.ite ?_ ?_)
   | (with_reducible refine LeO.bind ?_ (fun _ => ?_))
   | exact ih0 _ _ _ _ _ _
   | exact ih1 _ _ _ _ _ _ _ _ _ _
   | exact ih2 _ _ _ _ _
   | exact lodgerref03_Same.mono _ _ _ _ _ _ _
   | exact LeO.none _
   | refine LeO.ite ?_ ?_
   | refine LeO.bind ?_ (fun _ => ?_)
theorem lodgerlaw03_QueueDoes.mono : ∀ a0 a1 a2 a3 a4 k, LeO (lodgerlaw03_QueueDoes.f k a0 a1 a2 a3 a4) (lodgerlaw03_QueueDoes.f (k + 1) a0 a1 a2 a3 a4) := by
 intro a0 a1 a2 a3 a4 k
 obtain ⟨ih0, ih1, ih2⟩ := lodgerlaw03_QueueDoes.mono_l k
 unfold lodgerlaw03_QueueDoes.f
 repeat' first
   | (with_reducible exact ih0 _ _ _ _ _ _)
   | (with_reducible exact ih1 _ _ _ _ _ _ _ _ _ _)
   | (with_reducible exact ih2 _ _ _ _ _)
   | (with_reducible exact lodgerref03_Same.mono _ _ _ _ _ _ _)
   | (with_reducible exact LeO.refl _)
   | (with_reducible exact LeO.none _)
   | (with_reducible refine LeO.ite ?_ ?_)
   | (with_reducible refine LeO.bind ?_ (fun _ => ?_))
   | exact ih0 _ _ _ _ _ _
   | exact ih1 _ _ _ _ _ _ _ _ _ _
   | exact ih2 _ _ _ _ _
   | exact lodgerref03_Same.mono _ _ _ _ _ _ _
   | exact LeO.none _
   | refine LeO.ite ?_ ?_
   | refine LeO.bind ?_ (fun _ => ?_)
def lodgerlaw03_QueueDoes.T1 : Bool × List (List Nat × List Nat) := (true, [([], []), ([0], [0]), ([1, 0], [1]), ([2], [2]), ([3, 2], [2, 3]), ([4, 2], [2, 4]), ([5, 2], [2, 5]), ([2, 6], [2, 6]), ([7, 2], [7]), ([8], [8]), ([9, 8, 8], [8, 9]), ([8], [8]), ([11, 10, 8], [8, 11]), ([10, 12, 8], [8, 10, 12]), ([8, 13], [8, 13])])
def lodgerlaw03_QueueDoes.B1 : List Nat := [0, 1, 3, 7, 15, 31, 63, 127, 255, 511, 1023, 511, 4095, 8191, 16383]
theorem lodgerlaw03_QueueDoes.tab1 : rtab .any (opsOf Try.f4 1) = lodgerlaw03_QueueDoes.T1 := by kernel_rfl
theorem lodgerlaw03_QueueDoes.bits1 : waitsOk lodgerlaw03_QueueDoes.T1.2 lodgerlaw03_QueueDoes.B1 = true := by kernel_rfl
def lodgerlaw03_QueueDoes.T15 : Bool × List (List Nat × List Nat) := (true, [([], []), ([], []), ([0, 1], [0, 1]), ([2, 2], [2]), ([3], [3]), ([3], [3]), ([4, 5, 3], [3, 4, 5]), ([3, 6], [3, 6]), ([7, 3], [7]), ([8], [8]), ([8], [8]), ([9, 10, 8, 8], [8, 9, 10]), ([8, 11], [8, 11]), ([12, 11], [12]), ([13], [13]), ([13], [13]), ([14, 15, 13], [13, 14, 15]), ([13, 16], [13, 16]), ([17, 13], [17]), ([18], [18]), ([18], [18]), ([19, 20, 18], [18, 19, 20]), ([18, 21], [18, 21]), ([22, 18], [22]), ([23], [23]), ([24, 23, 23], [23, 24]), ([23], [23]), ([25, 26, 25, 23], [23, 25, 26]), ([23, 27], [23, 27]), ([28, 27], [28]), ([29], [29]), ([30, 29, 29], [29, 30]), ([29], [29]), ([32, 29], [29, 32]), ([33, 31, 29], [29, 33]), ([34], [34]), ([35, 34], [34, 35]), ([36, 34], [34, 36]), ([37, 34], [34, 37]), ([34, 38, 29], [29, 34, 38]), ([31, 39, 29], [29, 31, 39]), ([29, 40], [29, 40]), ([41, 34, 0, 1, 2, 3, 4, 5, 6, 7, 8, 9, 10, 11, 12, 13, 14, 15, 16, 17, 18, 19, 20, 21, 22, 23, 24, 25, 26, 27, 28, 29, 30, 31, 32, 33, 34, 35, 36, 37, 38, 39, 40, 41], [41])])
def lodgerlaw03_QueueDoes.B15 : List Nat := [0, 0, 3, 7, 15, 15, 63, 127, 255, 511, 511, 2047, 4095, 8191, 16383, 16383, 65535, 131071, 262143, 524287, 524287, 2097151, 4194303, 8388607, 16777215, 33554431, 16777215, 134217727, 268435455, 536870911, 1073741823, 2147483647, 1073741823, 5368709119, 17179869183, 34359738367, 68719476735, 137438953471, 274877906943, 549755813887, 1099511627775, 2199023255551, 4398046511103]
theorem lodgerlaw03_QueueDoes.tab15 : rtab .any (opsOf Try.f4 15) = lodgerlaw03_QueueDoes.T15 := by kernel_rfl
theorem lodgerlaw03_QueueDoes.bits15 : waitsOk lodgerlaw03_QueueDoes.T15.2 lodgerlaw03_QueueDoes.B15 = true := by kernel_rfl
set_option maxHeartbeats 8000000 in
set_option maxRecDepth 100000 in
theorem lodgerlaw03_QueueDoes.calls (k : Nat) (a0_0 : Int) (A0_1 : Option Addr) (c0_1 : Nat) (l0_1 : List Int) (a0_2 : Bool) (a1 : Int) (a2 : Int) (r : Bool) (w : World) (hr0_1 : Kd.C (Kd.int .i64) w A0_1 l0_1.length l0_1) (hc0_1 : l0_1.length ≤ c0_1) (hr_ : r = true) (h : lodgerlaw03_QueueDoes.f k a0_0 l0_1 a0_2 a1 a2 = some r) :
  Calls Try.prog 4 #[.agg #[.int .i64 a0_0, .slice A0_1 l0_1.length c0_1, .bool a0_2], .int .i64 a1, .int .i64 a2] w fun e w' => e = .returned (.bool r) ∧ Below w.heap.size w w' := by
 have hu34 := Try.underlying34
 have HR0_1 := Aside0.mk hr0_1
 have HC0_1 := Aside0.mk hc0_1
 clear hr0_1 hc0_1
 have HB := Aside0.mk (Below.refl w.heap.size w)
 replace hr_ := Aside0.mk hr_
 have H : ((lodgerlaw03_awake.f).bind fun t227 => (if t227 = true then (if (l0_1.length : Int) > 200 then (lodgerlaw03_QueueDoes.j0 k a1 a2 true a0_0 l0_1 a0_2) else ((queue_May.f a0_0 l0_1 a0_2).bind fun t228 => ((lodgerref03_May.f a0_0 l0_1 a0_2).bind fun t229 => (lodgerlaw03_QueueDoes.j0 k a1 a2 (t228 != t229) a0_0 l0_1 a0_2)))) else (lodgerlaw03_QueueDoes.j0 k a1 a2 true a0_0 l0_1 a0_2))) = some r := h
 clear h
 have HC4 := Aside0.mk H
 clear H
 go_enter Try.func4, Try.ntmps4
 go_upto_region 1 with (first | ((with_reducible refine gate_dst (N := 3) rfl ?_); (try (refine gate_guard (by rfl) ?_; dsimp only)); refine box_event ?hg (N := 3) ?hd (cs := #[.int .i64 a0_0, .slice A0_1 l0_1.length c0_1, .bool a0_2]) (t := 34) ?hr ?_; (case hd => rfl); (case hg => rfl); (case hr => first | (go_simp; done) | (go_simp; rfl)); intro gb226 hg w5 hbox hb; have n0_ := Aside0.mk (below_step (hB_ HB) hb); have n1_ := Aside0.mk (hbox); have n2_ := Aside0.mk ((by rw [hg]; exact (below_size (hB_ HB)) : w.heap.size ≤ gb226)); have n3_ := Aside0.mk ((by rw [hg]; exact (below_size (hB_ HB)) : w.heap.size ≤ gb226)); clear HB; have HB := n0_; have BK226 := n1_; have GW226 := n2_; have GE226 := n3_; clear n0_ n1_ n2_ n3_; clear hb hbox hg))
 (try simp only [Act.put, List.setIfInBounds_toArray, List.set_cons_zero, List.set_cons_succ])
 go_cut [35] (fun v35 wc => ∃ (kq : Nat) (x35_3 : Bool), v35 = .bool x35_3 ∧ Aside0 (lodgerlaw03_QueueDoes.j0 kq a1 a2 x35_3 a0_0 l0_1 a0_2 = some r) ∧ Aside0 (kq ≤ k) ∧ Aside0 (wc.heap[gb226]? = some (.cells #[.int .i64 a0_0, (.slice A0_1 l0_1.length c0_1), .bool a0_2] 34 (0, 0))) ∧ Aside0 (Below w.heap.size w wc))
 case first =>
  have H := HC4.out
  clear HC4
  replace H := Option.bind_eq_some_iff.mp H
  obtain ⟨t227, A60, H⟩ := H
  replace H : (if t227 = true then (if (l0_1.length : Int) > 200 then (lodgerlaw03_QueueDoes.j0 k a1 a2 true a0_0 l0_1 a0_2) else ((queue_May.f a0_0 l0_1 a0_2).bind fun t228 => ((lodgerref03_May.f a0_0 l0_1 a0_2).bind fun t229 => (lodgerlaw03_QueueDoes.j0 k a1 a2 (t228 != t229) a0_0 l0_1 a0_2)))) else (lodgerlaw03_QueueDoes.j0 k a1 a2 true a0_0 l0_1 a0_2)) = some r := H
  have A6 := Aside0.mk A60
  clear A60
  by_cases c7 : t227 = true
  ·subst c7
   have H1 : (if (l0_1.length : Int) > 200 then (lodgerlaw03_QueueDoes.j0 k a1 a2 true a0_0 l0_1 a0_2) else ((queue_May.f a0_0 l0_1 a0_2).bind fun t228 => ((lodgerref03_May.f a0_0 l0_1 a0_2).bind fun t229 => (lodgerlaw03_QueueDoes.j0 k a1 a2 (t228 != t229) a0_0 l0_1 a0_2)))) = some r := by rw [if_pos rfl] at H; exact H
   clear H
   have H := H1
   clear H1
   by_cases c8 : (l0_1.length : Int) > 200
   ·rw [if_pos c8] at H
    have c8b0 : decide (200 < (l0_1.length : Int)) = true := decide_eq_true c8
    have c8b1 : decide (200 < l0_1.length) = true := decide_eq_true (by omega)
    clear c8
    (first | rw [c8b0] | (simp only [i64_w, i32_w]; rw [c8b0]) | skip)
    have H' := Aside0.mk H
    clear H
    try go_wp2
    have n0_ := Aside0.mk (blk_drew BK226.out)
    have n1_ := Aside0.mk (below_drew1 HB.out)
    clear BK226
    clear HB
    have BK226 := n0_
    have HB := n1_
    clear n0_ n1_
    refine start_ (n := 15) (S := fun w' => w'.cell? ⟨gb226, 0, none⟩ = some (.int .i64 a0_0) ∧ w'.cell? ⟨gb226, 1, none⟩ = some (.slice A0_1 l0_1.length c0_1) ∧ w'.cell? ⟨gb226, 2, none⟩ = some (.bool a0_2)) (ds := []) #[false, false, false, false, false, false, false, false, false, false, false, false, false, false, false] (by kernel_rfl) rfl rfl ⟨(blk_cell BK226.out 0).trans rfl, (blk_cell BK226.out 1).trans rfl, (blk_cell BK226.out 2).trans rfl⟩ (fun hHeld => ?_); refine with_tabW lodgerlaw03_QueueDoes.tab1 lodgerlaw03_QueueDoes.bits1 (fun HT_ HW_ => ?_)
    generalize w5.drew = w9 at BK226 HB hHeld ⊢
    refine one_ (i := 0) (N := some 21) #[true, false, false, false, false, false, false, false, false, false, false, false, false, false, false] rfl rfl (one_of HT_.out (by kernel_rfl)) (by decide) (fun K hK => ?_)
    refine goes_ Try.func12 (by kernel_rfl) rfl #[] (by rfl) rfl rfl am_ ?_
    with_reducible refine (lodgerlaw03_awake.calls  true _ A6.out).mono ?_
    rintro e w10 ⟨rfl, hb⟩
    refine ⟨_, rfl, ?_⟩
    have n0_ := bB_ BK226 hb
    have n1_ := Aside0.mk (below_step (hB_ HB) hb)
    clear BK226
    clear HB
    have BK226 := n0_
    have HB := n1_
    clear n0_ n1_
    (try clear hb)
    (try clear hb2)
    (try clear hk)
    (try clear hi)
    refine hK.out _ _ ⟨(blk_cell BK226.out 0).trans rfl, (blk_cell BK226.out 1).trans rfl, (blk_cell BK226.out 2).trans rfl⟩ (fun hHeld => ?_)
    clear hK K
    refine norm_ (a' := ?_) ?_ ?_
    rotate_left
    ·show Act.put _ (some 21) _ = _
     simp only [Act.put, List.setIfInBounds_toArray, List.set_cons_zero, List.set_cons_succ, i64_w, i32_w]
     rfl
    refine pu_ (i := 1) (N := some 22) (tf 15 3) HT_ ?_
    refine pu_ (i := 2) (N := some 23) (tf 15 7) HT_ ?_
    refine pu_ (i := 3) (N := some 24) (tf 15 15) HT_ ?_
    refine tk_ (i := 4) (N := some 25) (tf 15 31) rfl rfl HT_ HW_ hHeld (by rintro w' ⟨s0, s1, s2⟩; go_simp; with_reducible rfl) ?_
    refine pu_ (i := 5) (N := some 26) (tf 15 63) HT_ ?_
    refine pu_ (i := 6) (N := some 27) (tf 15 127) HT_ ?_
    refine pu_ (i := 7) (N := some 28) (tf 15 255) HT_ ?_
    refine pu_ (i := 8) (N := some 29) (tf 15 511) HT_ ?_
    refine pure_ (i := 9) (N := some 30) (v := undef) (a' := ?_) #[true, true, true, true, true, true, true, true, true, true, false, false, false, false, false] rfl rfl (any_of HT_.out (by kernel_rfl)) (fun _ _ _ h => h) (Or.inr ⟨by rfl, rfl⟩) ?_ ?_
    rotate_left
    ·simp only [Act.put, List.setIfInBounds_toArray, List.set_cons_zero, List.set_cons_succ, i64_w, i32_w]
     rfl
    refine pure_ (i := 10) (N := some 31) (v := undef) (a' := ?_) #[true, true, true, true, true, true, true, true, true, true, true, false, false, false, false] rfl rfl (any_of HT_.out (by kernel_rfl)) (fun _ _ _ h => h) (Or.inr ⟨by rfl, rfl⟩) ?_ ?_
    rotate_left
    ·simp only [Act.put, List.setIfInBounds_toArray, List.set_cons_zero, List.set_cons_succ, i64_w, i32_w]
     rfl
    refine pure_ (i := 11) (N := some 32) (v := undef) (a' := ?_) #[true, true, true, true, true, true, true, true, true, true, true, true, false, false, false] rfl rfl (any_of HT_.out (by kernel_rfl)) (fun _ _ _ h => h) (Or.inr ⟨by rfl, rfl⟩) ?_ ?_
    rotate_left
    ·simp only [Act.put, List.setIfInBounds_toArray, List.set_cons_zero, List.set_cons_succ, i64_w, i32_w]
     rfl
    refine pure_ (i := 12) (N := some 33) (v := undef) (a' := ?_) #[true, true, true, true, true, true, true, true, true, true, true, true, true, false, false] rfl rfl (any_of HT_.out (by kernel_rfl)) (fun _ _ _ h => h) (Or.inr ⟨by rfl, rfl⟩) ?_ ?_
    rotate_left
    ·simp only [Act.put, List.setIfInBounds_toArray, List.set_cons_zero, List.set_cons_succ, i64_w, i32_w]
     rfl
    refine pure_ (i := 13) (N := some 34) (v := undef) (a' := ?_) #[true, true, true, true, true, true, true, true, true, true, true, true, true, true, false] rfl rfl (any_of HT_.out (by kernel_rfl)) (fun _ _ _ h => h) (Or.inr ⟨by rfl, rfl⟩) ?_ ?_
    rotate_left
    ·simp only [Act.put, List.setIfInBounds_toArray, List.set_cons_zero, List.set_cons_succ, i64_w, i32_w]
     rfl
    refine pu_ (i := 14) (N := some 35) (tf 15 32767) HT_ ?_
    refine done_ (done_of HT_.out (by kernel_rfl)) ?_
    try go_wp2
    go_meet
    case rel => exact ⟨_, (true), (by first | rfl | (simp; done) | (simp [*]; done)), H', ⟨by first | omega | exact Nat.le_refl _⟩, ⟨by (with_reducible repeat (first | refine blk_drewN ?_ _ | refine blk_drew ?_ | refine blk_alloc ?_ _)); exact BK226.out⟩, ⟨by repeat (first | (with_reducible first | exact HB.out | apply below_alloc | apply pw_below_drewN | apply below_drew1 | refine below_set ?_ GE226.out) | exact HB.out)⟩⟩
   ·rw [if_neg c8] at H
    have c8b0 : decide (200 < (l0_1.length : Int)) = false := decide_eq_false c8
    have c8b1 : decide (200 < l0_1.length) = false := decide_eq_false (by omega)
    clear c8
    (first | rw [c8b0] | (simp only [i64_w, i32_w]; rw [c8b0]) | skip)
    replace H := Option.bind_eq_some_iff.mp H
    obtain ⟨t228, A110, H⟩ := H
    replace H : ((lodgerref03_May.f a0_0 l0_1 a0_2).bind fun t229 => (lodgerlaw03_QueueDoes.j0 k a1 a2 (t228 != t229) a0_0 l0_1 a0_2)) = some r := H
    have A11 := Aside0.mk A110
    clear A110
    replace H := Option.bind_eq_some_iff.mp H
    obtain ⟨t229, A120, H⟩ := H
    replace H : (lodgerlaw03_QueueDoes.j0 k a1 a2 (t228 != t229) a0_0 l0_1 a0_2) = some r := H
    have A12 := Aside0.mk A120
    clear A120
    have H' := Aside0.mk H
    clear H
    try go_wp2
    have n0_ := Aside0.mk (blk_drew BK226.out)
    have n1_ := Aside0.mk (below_drew1 HB.out)
    clear BK226
    clear HB
    have BK226 := n0_
    have HB := n1_
    clear n0_ n1_
    refine start_ (n := 15) (S := fun w' => w'.cell? ⟨gb226, 0, none⟩ = some (.int .i64 a0_0) ∧ w'.cell? ⟨gb226, 1, none⟩ = some (.slice A0_1 l0_1.length c0_1) ∧ w'.cell? ⟨gb226, 2, none⟩ = some (.bool a0_2)) (ds := []) #[false, false, false, false, false, false, false, false, false, false, false, false, false, false, false] (by kernel_rfl) rfl rfl ⟨(blk_cell BK226.out 0).trans rfl, (blk_cell BK226.out 1).trans rfl, (blk_cell BK226.out 2).trans rfl⟩ (fun hHeld => ?_); refine with_tabW lodgerlaw03_QueueDoes.tab1 lodgerlaw03_QueueDoes.bits1 (fun HT_ HW_ => ?_)
    generalize w5.drew = w13 at BK226 HB hHeld ⊢
    refine one_ (i := 0) (N := some 21) #[true, false, false, false, false, false, false, false, false, false, false, false, false, false, false] rfl rfl (one_of HT_.out (by kernel_rfl)) (by decide) (fun K hK => ?_)
    refine goes_ Try.func12 (by kernel_rfl) rfl #[] (by rfl) rfl rfl am_ ?_
    with_reducible refine (lodgerlaw03_awake.calls  true _ A6.out).mono ?_
    rintro e w14 ⟨rfl, hb⟩
    refine ⟨_, rfl, ?_⟩
    have n0_ := bB_ BK226 hb
    have n1_ := Aside0.mk (below_step (hB_ HB) hb)
    clear BK226
    clear HB
    have BK226 := n0_
    have HB := n1_
    clear n0_ n1_
    (try clear hb)
    (try clear hb2)
    (try clear hk)
    (try clear hi)
    refine hK.out _ _ ⟨(blk_cell BK226.out 0).trans rfl, (blk_cell BK226.out 1).trans rfl, (blk_cell BK226.out 2).trans rfl⟩ (fun hHeld => ?_)
    clear hK K
    refine norm_ (a' := ?_) ?_ ?_
    rotate_left
    ·show Act.put _ (some 21) _ = _
     simp only [Act.put, List.setIfInBounds_toArray, List.set_cons_zero, List.set_cons_succ, i64_w, i32_w]
     rfl
    refine pu_ (i := 1) (N := some 22) (tf 15 3) HT_ ?_
    refine pu_ (i := 2) (N := some 23) (tf 15 7) HT_ ?_
    refine pu_ (i := 3) (N := some 24) (tf 15 15) HT_ ?_
    refine tk_ (i := 4) (N := some 25) (tf 15 31) rfl rfl HT_ HW_ hHeld (by rintro w' ⟨s0, s1, s2⟩; go_simp; with_reducible rfl) ?_
    refine pu_ (i := 5) (N := some 26) (tf 15 63) HT_ ?_
    refine pu_ (i := 6) (N := some 27) (tf 15 127) HT_ ?_
    refine pu_ (i := 7) (N := some 28) (tf 15 255) HT_ ?_
    refine pu_ (i := 8) (N := some 29) (tf 15 511) HT_ ?_
    refine tk_ (i := 9) (N := some 30) (tf 15 1023) rfl rfl HT_ HW_ hHeld (by rintro w' ⟨s0, s1, s2⟩; go_simp; with_reducible rfl) ?_
    refine tk_ (i := 11) (N := some 32) (tf 15 3071) rfl rfl HT_ HW_ hHeld (by rintro w' ⟨s0, s1, s2⟩; go_simp; with_reducible rfl) ?_
    refine one_ (i := 10) (N := some 31) #[true, true, true, true, true, true, true, true, true, true, true, true, false, false, false] rfl rfl (one_of HT_.out (by kernel_rfl)) (by decide) (fun K hK => ?_)
    refine goes_ Try.func13 (by kernel_rfl) rfl #[.agg #[.int .i64 a0_0, .slice A0_1 l0_1.length c0_1, .bool a0_2]] (by rfl) rfl rfl am_ ?_
    with_reducible refine (queue_May.calls a0_0 _ _ l0_1 a0_2 t228 _ ?side1 ?side2 A11.out).mono ?_
    (case side1 => repeat (first | exact (Kd.C_below HR0_1.out HB.out) | (with_reducible refine Kd.C_alloc ?_ _) | (with_reducible refine Kd.C_drewN ?_ _) | (with_reducible refine Kd.C_drew ?_)))
    (case side2 => exact HC0_1.out)
    rintro e w15 ⟨rfl, hb⟩
    refine ⟨_, rfl, ?_⟩
    have n0_ := bB_ BK226 hb
    have n1_ := Aside0.mk (below_step (hB_ HB) hb)
    clear BK226
    clear HB
    have BK226 := n0_
    have HB := n1_
    clear n0_ n1_
    (try clear hb)
    (try clear hb2)
    (try clear hk)
    (try clear hi)
    refine hK.out _ _ ⟨(blk_cell BK226.out 0).trans rfl, (blk_cell BK226.out 1).trans rfl, (blk_cell BK226.out 2).trans rfl⟩ (fun hHeld => ?_)
    clear hK K
    refine norm_ (a' := ?_) ?_ ?_
    rotate_left
    ·show Act.put _ (some 31) _ = _
     simp only [Act.put, List.setIfInBounds_toArray, List.set_cons_zero, List.set_cons_succ, i64_w, i32_w]
     rfl
    refine one_ (i := 12) (N := some 33) #[true, true, true, true, true, true, true, true, true, true, true, true, true, false, false] rfl rfl (one_of HT_.out (by kernel_rfl)) (by decide) (fun K hK => ?_)
    refine goes_ Try.func14 (by kernel_rfl) rfl #[.agg #[.int .i64 a0_0, .slice A0_1 l0_1.length c0_1, .bool a0_2]] (by rfl) rfl rfl am_ ?_
    with_reducible refine (lodgerref03_May.calls a0_0 _ _ l0_1 a0_2 t229 _ ?side1 ?side2 A12.out).mono ?_
    (case side1 => repeat (first | exact (Kd.C_below HR0_1.out HB.out) | (with_reducible refine Kd.C_alloc ?_ _) | (with_reducible refine Kd.C_drewN ?_ _) | (with_reducible refine Kd.C_drew ?_)))
    (case side2 => exact HC0_1.out)
    rintro e w16 ⟨rfl, hb⟩
    refine ⟨_, rfl, ?_⟩
    have n0_ := bB_ BK226 hb
    have n1_ := Aside0.mk (below_step (hB_ HB) hb)
    clear BK226
    clear HB
    have BK226 := n0_
    have HB := n1_
    clear n0_ n1_
    (try clear hb)
    (try clear hb2)
    (try clear hk)
    (try clear hi)
    refine hK.out _ _ ⟨(blk_cell BK226.out 0).trans rfl, (blk_cell BK226.out 1).trans rfl, (blk_cell BK226.out 2).trans rfl⟩ (fun hHeld => ?_)
    clear hK K
    refine norm_ (a' := ?_) ?_ ?_
    rotate_left
    ·show Act.put _ (some 33) _ = _
     simp only [Act.put, List.setIfInBounds_toArray, List.set_cons_zero, List.set_cons_succ, i64_w, i32_w]
     rfl
    refine pu_ (i := 13) (N := some 34) (tf 15 16383) HT_ ?_
    refine pu_ (i := 14) (N := some 35) (tf 15 32767) HT_ ?_
    refine done_ (done_of HT_.out (by kernel_rfl)) ?_
    try go_wp2
    go_meet
    case rel => exact ⟨_, ((t228 != t229)), (by first | rfl | (simp; done) | (simp [*]; done)), H', ⟨by first | omega | exact Nat.le_refl _⟩, ⟨by (with_reducible repeat (first | refine blk_drewN ?_ _ | refine blk_drew ?_ | refine blk_alloc ?_ _)); exact BK226.out⟩, ⟨by repeat (first | (with_reducible first | exact HB.out | apply below_alloc | apply pw_below_drewN | apply below_drew1 | refine below_set ?_ GE226.out) | exact HB.out)⟩⟩
  ·replace c7 := Bool.eq_false_iff.mpr c7
   subst c7
   have H1 : (lodgerlaw03_QueueDoes.j0 k a1 a2 true a0_0 l0_1 a0_2) = some r := by rw [if_neg (show ¬ (false = true) by decide)] at H; exact H
   clear H
   have H := H1
   clear H1
   have H' := Aside0.mk H
   clear H
   try go_wp2
   have n0_ := Aside0.mk (blk_drew BK226.out)
   have n1_ := Aside0.mk (below_drew1 HB.out)
   clear BK226
   clear HB
   have BK226 := n0_
   have HB := n1_
   clear n0_ n1_
   refine start_ (n := 15) (S := fun w' => True) (ds := []) #[false, false, false, false, false, false, false, false, false, false, false, false, false, false, false] (by kernel_rfl) rfl rfl trivial (fun hHeld => ?_); refine with_tabW lodgerlaw03_QueueDoes.tab1 lodgerlaw03_QueueDoes.bits1 (fun HT_ HW_ => ?_)
   generalize w5.drew = w17 at BK226 HB hHeld ⊢
   refine one_ (i := 0) (N := some 21) #[true, false, false, false, false, false, false, false, false, false, false, false, false, false, false] rfl rfl (one_of HT_.out (by kernel_rfl)) (by decide) (fun K hK => ?_)
   refine goes_ Try.func12 (by kernel_rfl) rfl #[] (by rfl) rfl rfl am_ ?_
   with_reducible refine (lodgerlaw03_awake.calls  false _ A6.out).mono ?_
   rintro e w18 ⟨rfl, hb⟩
   refine ⟨_, rfl, ?_⟩
   have n0_ := bB_ BK226 hb
   have n1_ := Aside0.mk (below_step (hB_ HB) hb)
   clear BK226
   clear HB
   have BK226 := n0_
   have HB := n1_
   clear n0_ n1_
   (try clear hb)
   (try clear hb2)
   (try clear hk)
   (try clear hi)
   refine hK.out _ _ trivial (fun hHeld => ?_)
   clear hK K
   refine norm_ (a' := ?_) ?_ ?_
   rotate_left
   ·show Act.put _ (some 21) _ = _
    simp only [Act.put, List.setIfInBounds_toArray, List.set_cons_zero, List.set_cons_succ, i64_w, i32_w]
    rfl
   refine pu_ (i := 1) (N := some 22) (tf 15 3) HT_ ?_
   refine pu_ (i := 2) (N := some 23) (tf 15 7) HT_ ?_
   refine pure_ (i := 3) (N := some 24) (v := undef) (a' := ?_) #[true, true, true, true, false, false, false, false, false, false, false, false, false, false, false] rfl rfl (any_of HT_.out (by kernel_rfl)) (fun _ _ _ h => h) (Or.inr ⟨by rfl, rfl⟩) ?_ ?_
   rotate_left
   ·simp only [Act.put, List.setIfInBounds_toArray, List.set_cons_zero, List.set_cons_succ, i64_w, i32_w]
    rfl
   refine pure_ (i := 4) (N := some 25) (v := undef) (a' := ?_) #[true, true, true, true, true, false, false, false, false, false, false, false, false, false, false] rfl rfl (any_of HT_.out (by kernel_rfl)) (fun _ _ _ h => h) (Or.inr ⟨by rfl, rfl⟩) ?_ ?_
   rotate_left
   ·simp only [Act.put, List.setIfInBounds_toArray, List.set_cons_zero, List.set_cons_succ, i64_w, i32_w]
    rfl
   refine pure_ (i := 5) (N := some 26) (v := undef) (a' := ?_) #[true, true, true, true, true, true, false, false, false, false, false, false, false, false, false] rfl rfl (any_of HT_.out (by kernel_rfl)) (fun _ _ _ h => h) (Or.inr ⟨by rfl, rfl⟩) ?_ ?_
   rotate_left
   ·simp only [Act.put, List.setIfInBounds_toArray, List.set_cons_zero, List.set_cons_succ, i64_w, i32_w]
    rfl
   refine pure_ (i := 6) (N := some 27) (v := undef) (a' := ?_) #[true, true, true, true, true, true, true, false, false, false, false, false, false, false, false] rfl rfl (any_of HT_.out (by kernel_rfl)) (fun _ _ _ h => h) (Or.inr ⟨by rfl, rfl⟩) ?_ ?_
   rotate_left
   ·simp only [Act.put, List.setIfInBounds_toArray, List.set_cons_zero, List.set_cons_succ, i64_w, i32_w]
    rfl
   refine pu_ (i := 7) (N := some 28) (tf 15 255) HT_ ?_
   refine pu_ (i := 8) (N := some 29) (tf 15 511) HT_ ?_
   refine pure_ (i := 9) (N := some 30) (v := undef) (a' := ?_) #[true, true, true, true, true, true, true, true, true, true, false, false, false, false, false] rfl rfl (any_of HT_.out (by kernel_rfl)) (fun _ _ _ h => h) (Or.inr ⟨by rfl, rfl⟩) ?_ ?_
   rotate_left
   ·simp only [Act.put, List.setIfInBounds_toArray, List.set_cons_zero, List.set_cons_succ, i64_w, i32_w]
    rfl
   refine pure_ (i := 10) (N := some 31) (v := undef) (a' := ?_) #[true, true, true, true, true, true, true, true, true, true, true, false, false, false, false] rfl rfl (any_of HT_.out (by kernel_rfl)) (fun _ _ _ h => h) (Or.inr ⟨by rfl, rfl⟩) ?_ ?_
   rotate_left
   ·simp only [Act.put, List.setIfInBounds_toArray, List.set_cons_zero, List.set_cons_succ, i64_w, i32_w]
    rfl
   refine pure_ (i := 11) (N := some 32) (v := undef) (a' := ?_) #[true, true, true, true, true, true, true, true, true, true, true, true, false, false, false] rfl rfl (any_of HT_.out (by kernel_rfl)) (fun _ _ _ h => h) (Or.inr ⟨by rfl, rfl⟩) ?_ ?_
   rotate_left
   ·simp only [Act.put, List.setIfInBounds_toArray, List.set_cons_zero, List.set_cons_succ, i64_w, i32_w]
    rfl
   refine pure_ (i := 12) (N := some 33) (v := undef) (a' := ?_) #[true, true, true, true, true, true, true, true, true, true, true, true, true, false, false] rfl rfl (any_of HT_.out (by kernel_rfl)) (fun _ _ _ h => h) (Or.inr ⟨by rfl, rfl⟩) ?_ ?_
   rotate_left
   ·simp only [Act.put, List.setIfInBounds_toArray, List.set_cons_zero, List.set_cons_succ, i64_w, i32_w]
    rfl
   refine pure_ (i := 13) (N := some 34) (v := undef) (a' := ?_) #[true, true, true, true, true, true, true, true, true, true, true, true, true, true, false] rfl rfl (any_of HT_.out (by kernel_rfl)) (fun _ _ _ h => h) (Or.inr ⟨by rfl, rfl⟩) ?_ ?_
   rotate_left
   ·simp only [Act.put, List.setIfInBounds_toArray, List.set_cons_zero, List.set_cons_succ, i64_w, i32_w]
    rfl
   refine pu_ (i := 14) (N := some 35) (tf 15 32767) HT_ ?_
   refine done_ (done_of HT_.out (by kernel_rfl)) ?_
   try go_wp2
   go_meet
   case rel => exact ⟨_, (true), (by first | rfl | (simp; done) | (simp [*]; done)), H', ⟨by first | omega | exact Nat.le_refl _⟩, ⟨by (with_reducible repeat (first | refine blk_drewN ?_ _ | refine blk_drew ?_ | refine blk_alloc ?_ _)); exact BK226.out⟩, ⟨by repeat (first | (with_reducible first | exact HB.out | apply below_alloc | apply pw_below_drewN | apply below_drew1 | refine below_set ?_ GE226.out) | exact HB.out)⟩⟩
 case rest =>
  clear HC4
  try clear c1
  try clear p2
  try clear c4
  try clear c7
  try clear c8
  try clear c8b0
  try clear c8b1
  try clear c12
  try clear c13
  try clear c14
  obtain ⟨kq, x35_3, rfl, HA, HJ3, BK226, HB⟩ := hcut
  cases kq with
  | zero => exact absurd HA.out (by simp [lodgerlaw03_QueueDoes.j0])
  | succ kj3 =>
   have H := HA.out
   clear HA
   simp only [lodgerlaw03_QueueDoes.j0] at H
   by_cases c19 : x35_3 = true
   ·subst c19
    have H1 : ((lodgerlaw03_awake.f).bind fun t230 => (if t230 = true then (some (decide ((l0_1.length : Int) > 200))) else (some false))) = some r := by rw [if_pos rfl] at H; exact H
    clear H
    have H := H1
    clear H1
    replace H := Option.bind_eq_some_iff.mp H
    obtain ⟨t230, A200, H⟩ := H
    replace H : (if t230 = true then (some (decide ((l0_1.length : Int) > 200))) else (some false)) = some r := H
    have A20 := Aside0.mk A200
    clear A200
    by_cases c21 : t230 = true
    ·subst c21
     have H1 : (some (decide ((l0_1.length : Int) > 200))) = some r := by rw [if_pos rfl] at H; exact H
     clear H
     have H := H1
     clear H1
     first | (exfalso; rw [hr_.out] at H; exact absurd (Option.some.inj H) (by decide)) | (try clear hr_)
     all_goals
      obtain rfl := Option.some.inj H
      go_wp2_with (first | ((with_reducible refine gate_callee (f := 12) rfl ?_); refine goesL_ (some 36) rfl rfl Try.func12 (by kernel_rfl) rfl #[] rfl am_ ?_; (with_reducible refine (lodgerlaw03_awake.calls  true _ A20.out).mono ?_); rintro e w22 ⟨rfl, hb⟩; refine ⟨_, rfl, ?_⟩; have n0_ := bB_ BK226 hb; have n1_ := Aside0.mk (below_step (hB_ HB) hb); clear BK226; clear HB; have BK226 := n0_; have HB := n1_; clear n0_ n1_; (try clear hb); (try clear hb2); (try clear hk); (try clear hi); have hcz23_0 : w22.cell? ⟨gb226, 0, none⟩ = some (.int .i64 a0_0) := (blk_cell BK226.out 0).trans rfl; have hcz23_1 : w22.cell? ⟨gb226, 1, none⟩ = some (.slice A0_1 l0_1.length c0_1) := (blk_cell BK226.out 1).trans rfl; have hcz23_2 : w22.cell? ⟨gb226, 2, none⟩ = some (.bool a0_2) := (blk_cell BK226.out 2).trans rfl; have hfz23_0 := blk_frozen BK226.out 0; have hfz23_1 := blk_frozen BK226.out 1; have hfz23_2 := blk_frozen BK226.out 2))
      go_ret
      exact ⟨by first | rfl | (simp [errW_none, errW_some] <;> rfl) | (simp [*, errW_none, errW_some] <;> rfl), by repeat (first | (with_reducible first | exact HB.out | apply below_alloc | apply pw_below_drewN | apply below_drew1 | refine below_set ?_ GE226.out) | exact HB.out)⟩
    ·replace c21 := Bool.eq_false_iff.mpr c21
     subst c21
     have H1 : (some false) = some r := by rw [if_neg (show ¬ (false = true) by decide)] at H; exact H
     rw [hr_.out] at H1
     exact absurd (Option.some.inj H1) (by decide)
   ·replace c19 := Bool.eq_false_iff.mpr c19
    subst c19
    have H1 : ((queue_New.f a2).bind fun bt231 => (if a2 ≥ 1 then (lodgerlaw03_QueueDoes.j1 kj3 a1 a2 bt231.2.2.2 (decide (a2 ≤ 64)) a0_0 l0_1 a0_2 bt231.1 bt231.2.1 bt231.2.2.1) else (lodgerlaw03_QueueDoes.j1 kj3 a1 a2 bt231.2.2.2 false a0_0 l0_1 a0_2 bt231.1 bt231.2.1 bt231.2.2.1))) = some r := by rw [if_neg (show ¬ (false = true) by decide)] at H; exact H
    clear H
    have H := H1
    clear H1
    replace H := Option.bind_eq_some_iff.mp H
    obtain ⟨⟨t231, t232, t235, t236⟩, A250, H⟩ := H
    replace H : (if a2 ≥ 1 then (lodgerlaw03_QueueDoes.j1 kj3 a1 a2 t236 (decide (a2 ≤ 64)) a0_0 l0_1 a0_2 t231 t232 t235) else (lodgerlaw03_QueueDoes.j1 kj3 a1 a2 t236 false a0_0 l0_1 a0_2 t231 t232 t235)) = some r := H
    have A25 := Aside0.mk A250
    clear A250
    have HC26 := Aside0.mk H
    clear H
    go_upto_region 4 with (first | ((with_reducible refine gate_callee (f := 15) rfl ?_); refine goesL_ (some 45) rfl rfl Try.func15 (by kernel_rfl) rfl #[.int .i64 a2] rfl am_ ?_; (with_reducible refine (queue_New.calls a2 t231 t232 t235 t236 _ A25.out).mono ?_); rintro e w27 ⟨v233, rfl, ho0, hb⟩; refine ⟨_, rfl, ?_⟩; have n0_ := Aside0.mk (Kd.R_lower ho0 (below_size (hB_ HB))); have n1_ := bB_ BK226 hb; have n2_ := Aside0.mk (below_step (hB_ HB) hb); clear BK226; clear HB; have HO234 := n0_; have BK226 := n1_; have HB := n2_; clear n0_ n1_ n2_; (try clear hb); (try clear hb2); (try clear hk); (try clear hi); (try clear ho0)) | ((with_reducible refine gate_dst (N := 7) rfl ?_); (try (refine gate_guard (by rfl) ?_; dsimp only)); refine box_event ?hg (N := 7) ?hd (cs := #[.int .i64 0, .slice none 0 0, .bool false]) (t := 34) ?hr ?_; (case hd => rfl); (case hg => rfl); (case hr => first | (go_simp; done) | (go_simp; rfl)); intro gb237 hg w28 hbox hb; have n0_ := Aside0.mk (Kd.R_below (rR_ HO234) hb); have n1_ := bB_ BK226 hb; have n2_ := Aside0.mk (below_step (hB_ HB) hb); have n3_ := Aside0.mk (hbox); have n4_ := Aside0.mk ((by rw [hg]; exact (below_size (hB_ HB)) : w.heap.size ≤ gb237)); have n5_ := Aside0.mk ((by rw [hg]; exact (below_size (hB_ HB)) : w.heap.size ≤ gb237)); have n6_ := Aside0.mk ((by rw [hg]; exact Nat.ne_of_lt (blk_lt (g := gb226) (o := .cells #[.int .i64 a0_0, .slice A0_1 l0_1.length c0_1, .bool a0_2] 34 (0, 0)) (bk_ BK226)) : gb226 ≠ gb237)); have n7_ := Aside0.mk ((by rw [hg]; exact Nat.ne_of_gt (blk_lt (g := gb226) (o := .cells #[.int .i64 a0_0, .slice A0_1 l0_1.length c0_1, .bool a0_2] 34 (0, 0)) (bk_ BK226)) : gb237 ≠ gb226)); clear HO234; clear BK226; clear HB; have HO234 := n0_; have BK226 := n1_; have HB := n2_; have BK237 := n3_; have GW237 := n4_; have GE237 := n5_; have NB226_237 := n6_; have NB237_226 := n7_; clear n0_ n1_ n2_ n3_ n4_ n5_ n6_ n7_; clear hb hbox hg; have hnb29 := NB237_226.out; have hnc29 := NB226_237.out; have hcz30_0 : w28.cell? ⟨gb237, 0, none⟩ = some (.int .i64 0) := (blk_cell BK237.out 0).trans rfl; have hcz30_1 : w28.cell? ⟨gb237, 1, none⟩ = some (.slice none 0 0) := (blk_cell BK237.out 1).trans rfl; have hcz30_2 : w28.cell? ⟨gb237, 2, none⟩ = some (.bool false) := (blk_cell BK237.out 2).trans rfl; have hfz30_0 := blk_frozen BK237.out 0; have hfz30_1 := blk_frozen BK237.out 1; have hfz30_2 := blk_frozen BK237.out 2; obtain ⟨Ao31, co31, eo31⟩ := Kd.R_slice HO234.out; subst eo31))
    (try simp only [Act.put, List.setIfInBounds_toArray, List.set_cons_zero, List.set_cons_succ])
    go_cut [9] (fun v9 wc => ∃ (kq : Nat) (x9_25 : Bool), v9 = .bool x9_25 ∧ Aside0 (lodgerlaw03_QueueDoes.j1 kq a1 a2 t236 x9_25 a0_0 l0_1 a0_2 t231 t232 t235 = some r) ∧ Aside0 (kq ≤ kj3) ∧ Aside0 (Kd.R (Kd.int .i64) 3 wc w.heap.size (fun _ => True) (.slice Ao31 t232.length co31) t232) ∧ Aside0 (wc.heap[gb226]? = some (.cells #[.int .i64 a0_0, (.slice A0_1 l0_1.length c0_1), .bool a0_2] 34 (0, 0))) ∧ Aside0 (wc.heap[gb237]? = some (.cells #[.int .i64 t231, (.slice Ao31 t232.length co31), .bool t235] 34 (0, 0))) ∧ Aside0 (Below w.heap.size w wc))
    case first =>
     have H := HC26.out
     clear HC26
     by_cases c32 : a2 ≥ 1
     ·rw [if_pos c32] at H
      have c32b0 : decide (1 ≤ a2) = true := decide_eq_true c32
      clear c32
      (first | rw [c32b0] | (simp only [i64_w, i32_w]; rw [c32b0]) | skip)
      have H' := Aside0.mk H
      clear H
      go_wp2
      go_meet
      case rel => exact ⟨_, (decide (a2 ≤ 64)), (by first | rfl | (simp; done) | (simp [*]; done)), H', ⟨by have := HJ3.out; first | omega | exact Nat.le_refl _⟩, ⟨by (with_reducible repeat (first | apply Kd.R_alloc | apply Kd.R_drewN | apply Kd.R_drew)); exact Kd.R_mono (Kd.R_far (p := ⟨gb237, 2, none⟩) (Kd.R_far (p := ⟨gb237, 1, none⟩) (Kd.R_far (p := ⟨gb237, 0, none⟩) (Kd.R_types HO234.out BK237.out (by decide)) (fun _ hk => hk.2) (.int .i64 t231)) (fun _ hk => hk.2) (.slice Ao31 t232.length co31)) (fun _ hk => hk.2) (.bool t235)) (fun _ hk => trivial)⟩, ⟨by (with_reducible repeat (first | refine blk_drewN ?_ _ | refine blk_drew ?_ | refine blk_alloc ?_ _)); refine blk_far ?_ NB226_237.out _; (with_reducible repeat (first | refine blk_drewN ?_ _ | refine blk_drew ?_ | refine blk_alloc ?_ _)); refine blk_far ?_ NB226_237.out _; (with_reducible repeat (first | refine blk_drewN ?_ _ | refine blk_drew ?_ | refine blk_alloc ?_ _)); refine blk_far ?_ NB226_237.out _; (with_reducible repeat (first | refine blk_drewN ?_ _ | refine blk_drew ?_ | refine blk_alloc ?_ _)); exact BK226.out⟩, ⟨by (with_reducible repeat (first | refine blk_drewN ?_ _ | refine blk_drew ?_ | refine blk_alloc ?_ _)); refine blk_put (cs := #[.int .i64 t231, .slice Ao31 t232.length co31, .bool false]) ?_ 2 _ rfl; (with_reducible repeat (first | refine blk_drewN ?_ _ | refine blk_drew ?_ | refine blk_alloc ?_ _)); refine blk_put (cs := #[.int .i64 t231, .slice none 0 0, .bool false]) ?_ 1 _ rfl; (with_reducible repeat (first | refine blk_drewN ?_ _ | refine blk_drew ?_ | refine blk_alloc ?_ _)); refine blk_put (cs := #[.int .i64 0, .slice none 0 0, .bool false]) ?_ 0 _ rfl; (with_reducible repeat (first | refine blk_drewN ?_ _ | refine blk_drew ?_ | refine blk_alloc ?_ _)); exact BK237.out⟩, ⟨by repeat (first | (with_reducible first | exact HB.out | apply below_alloc | apply pw_below_drewN | apply below_drew1 | refine below_set ?_ GE226.out | refine below_set ?_ GE237.out) | exact HB.out)⟩⟩
     ·rw [if_neg c32] at H
      have c32b0 : decide (1 ≤ a2) = false := decide_eq_false c32
      clear c32
      (first | rw [c32b0] | (simp only [i64_w, i32_w]; rw [c32b0]) | skip)
      have H' := Aside0.mk H
      clear H
      go_wp2
      go_meet
      case rel => exact ⟨_, (false), (by first | rfl | (simp; done) | (simp [*]; done)), H', ⟨by have := HJ3.out; first | omega | exact Nat.le_refl _⟩, ⟨by (with_reducible repeat (first | apply Kd.R_alloc | apply Kd.R_drewN | apply Kd.R_drew)); exact Kd.R_mono (Kd.R_far (p := ⟨gb237, 2, none⟩) (Kd.R_far (p := ⟨gb237, 1, none⟩) (Kd.R_far (p := ⟨gb237, 0, none⟩) (Kd.R_types HO234.out BK237.out (by decide)) (fun _ hk => hk.2) (.int .i64 t231)) (fun _ hk => hk.2) (.slice Ao31 t232.length co31)) (fun _ hk => hk.2) (.bool t235)) (fun _ hk => trivial)⟩, ⟨by (with_reducible repeat (first | refine blk_drewN ?_ _ | refine blk_drew ?_ | refine blk_alloc ?_ _)); refine blk_far ?_ NB226_237.out _; (with_reducible repeat (first | refine blk_drewN ?_ _ | refine blk_drew ?_ | refine blk_alloc ?_ _)); refine blk_far ?_ NB226_237.out _; (with_reducible repeat (first | refine blk_drewN ?_ _ | refine blk_drew ?_ | refine blk_alloc ?_ _)); refine blk_far ?_ NB226_237.out _; (with_reducible repeat (first | refine blk_drewN ?_ _ | refine blk_drew ?_ | refine blk_alloc ?_ _)); exact BK226.out⟩, ⟨by (with_reducible repeat (first | refine blk_drewN ?_ _ | refine blk_drew ?_ | refine blk_alloc ?_ _)); refine blk_put (cs := #[.int .i64 t231, .slice Ao31 t232.length co31, .bool false]) ?_ 2 _ rfl; (with_reducible repeat (first | refine blk_drewN ?_ _ | refine blk_drew ?_ | refine blk_alloc ?_ _)); refine blk_put (cs := #[.int .i64 t231, .slice none 0 0, .bool false]) ?_ 1 _ rfl; (with_reducible repeat (first | refine blk_drewN ?_ _ | refine blk_drew ?_ | refine blk_alloc ?_ _)); refine blk_put (cs := #[.int .i64 0, .slice none 0 0, .bool false]) ?_ 0 _ rfl; (with_reducible repeat (first | refine blk_drewN ?_ _ | refine blk_drew ?_ | refine blk_alloc ?_ _)); exact BK237.out⟩, ⟨by repeat (first | (with_reducible first | exact HB.out | apply below_alloc | apply pw_below_drewN | apply below_drew1 | refine below_set ?_ GE226.out | refine below_set ?_ GE237.out) | exact HB.out)⟩⟩
    case rest =>
     clear HC26
     try clear c1
     try clear c2
     try clear p2
     try clear c3
     try clear c4
     try clear c7
     try clear c8
     try clear c8b0
     try clear c8b1
     try clear c12
     try clear c13
     try clear c14
     try clear c15
     try clear c19
     try clear c21
     try clear c29
     try clear c32
     try clear c32b0
     try clear hcz23_0
     try clear hcz23_1
     try clear hcz23_2
     try clear hcz30_0
     try clear hcz30_1
     try clear hcz30_2
     try clear hfz23_0
     try clear hfz23_1
     try clear hfz23_2
     try clear hfz30_0
     try clear hfz30_1
     try clear hfz30_2
     try clear p2
     obtain ⟨kq, x9_25, rfl, HA, HJ25, HO_238001, BK226, BK237, HB⟩ := hcut
     cases kq with
     | zero => exact absurd HA.out (by simp [lodgerlaw03_QueueDoes.j1])
     | succ kj25 =>
      have H := HA.out
      clear HA
      simp only [lodgerlaw03_QueueDoes.j1] at H
      have HC33 := Aside0.mk H
      clear H
      go_upto_region 5 with (fail)
      go_cut [81] (fun v81 wc => ∃ (kq : Nat) (x81_32 : Bool), v81 = .bool x81_32 ∧ Aside0 (lodgerlaw03_QueueDoes.j2 kq a1 x81_32 a0_0 l0_1 a0_2 = some r) ∧ Aside0 (kq ≤ kj25) ∧ Aside0 (Kd.R (Kd.int .i64) 3 wc w.heap.size (fun _ => True) (.slice Ao31 t232.length co31) t232) ∧ Aside0 (wc.heap[gb226]? = some (.cells #[.int .i64 a0_0, (.slice A0_1 l0_1.length c0_1), .bool a0_2] 34 (0, 0))) ∧ Aside0 (wc.heap[gb237]? = some (.cells #[.int .i64 t231, (.slice Ao31 t232.length co31), .bool t235] 34 (0, 0))) ∧ Aside0 (Below w.heap.size w wc))
      case first =>
       have H := HC33.out
       clear HC33
       by_cases c34 : ((t236 == 0) != x9_25) = true
       ·rw [if_pos c34] at H
        have c34b0 : ((t236 == 0) != x9_25) = true := c34
        (try (have c34b1 : decide ((t236 == 0) = x9_25) = false := by simpa using c34))
        (try (have c34b2 : ((t236 == 0) == x9_25) = false := by simpa using c34))
        (try (have c34b3 : ¬ ((t236 == 0) = x9_25) := by simpa using c34))
        clear c34
        (first | rw [c34b0] | (simp only [i64_w, i32_w]; rw [c34b0]) | skip)
        have H' := Aside0.mk H
        clear H
        go_wp2
        go_meet
        case rel => exact ⟨_, (true), (by first | rfl | (simp; done) | (simp [*]; done)), H', ⟨by have := HJ3.out; have := HJ25.out; first | omega | exact Nat.le_refl _⟩, ⟨by (with_reducible repeat (first | apply Kd.R_alloc | apply Kd.R_drewN | apply Kd.R_drew)); exact HO_238001.out⟩, ⟨by (with_reducible repeat (first | refine blk_drewN ?_ _ | refine blk_drew ?_ | refine blk_alloc ?_ _)); exact BK226.out⟩, ⟨by (with_reducible repeat (first | refine blk_drewN ?_ _ | refine blk_drew ?_ | refine blk_alloc ?_ _)); exact BK237.out⟩, ⟨by repeat (first | (with_reducible first | exact HB.out | apply below_alloc | apply pw_below_drewN | apply below_drew1 | refine below_set ?_ GE226.out | refine below_set ?_ GE237.out) | exact HB.out)⟩⟩
       ·rw [if_neg c34] at H
        have c34b0 : ((t236 == 0) != x9_25) = false := by simpa using c34
        (try (have c34b1 : decide ((t236 == 0) = x9_25) = true := by simpa using c34))
        (try (have c34b2 : ((t236 == 0) == x9_25) = true := by simpa using c34))
        clear c34
        (first | rw [c34b0] | (simp only [i64_w, i32_w]; rw [c34b0]) | skip)
        by_cases c35 : x9_25 = true
        ·subst c35
         have H1 : ((lodgerref03_Same.f kj25 t231 t232 t235 a2 ([] : List Int) false).bind fun t238 => (if t238 = true then (lodgerlaw03_QueueDoes.j2 kj25 a1 false a0_0 l0_1 a0_2) else (lodgerlaw03_QueueDoes.j2 kj25 a1 true a0_0 l0_1 a0_2))) = some r := by rw [if_pos rfl] at H; exact H
         clear H
         have H := H1
         clear H1
         replace H := Option.bind_eq_some_iff.mp H
         obtain ⟨t238, A360, H⟩ := H
         replace H : (if t238 = true then (lodgerlaw03_QueueDoes.j2 kj25 a1 false a0_0 l0_1 a0_2) else (lodgerlaw03_QueueDoes.j2 kj25 a1 true a0_0 l0_1 a0_2)) = some r := H
         have A36 := Aside0.mk A360
         clear A360
         by_cases c37 : t238 = true
         ·subst c37
          have H1 : (lodgerlaw03_QueueDoes.j2 kj25 a1 false a0_0 l0_1 a0_2) = some r := by rw [if_pos rfl] at H; exact H
          clear H
          have H := H1
          clear H1
          have H' := Aside0.mk H
          clear H
          have hnb38 := NB237_226.out
          have hnc38 := NB226_237.out
          have hcz39_0 : wc.cell? ⟨gb237, 0, none⟩ = some (.int .i64 t231) := (blk_cell BK237.out 0).trans rfl
          have hcz39_1 : wc.cell? ⟨gb237, 1, none⟩ = some (.slice Ao31 t232.length co31) := (blk_cell BK237.out 1).trans rfl
          have hcz39_2 : wc.cell? ⟨gb237, 2, none⟩ = some (.bool t235) := (blk_cell BK237.out 2).trans rfl
          have hfz39_0 := blk_frozen BK237.out 0
          have hfz39_1 := blk_frozen BK237.out 1
          have hfz39_2 := blk_frozen BK237.out 2
          go_wp2_with (first | (go_at_call 16; (refine (lodgerref03_Same.calls kj25 t231 _ _ t232 t235 a2 _ _ ([] : List Int) false true _ ?side1 ?side2 ?side3 ?side4 A36.out).mono ?_); (case side1 => repeat (first | exact (Kd.R_reads' HO_238001.out).2.2 | (with_reducible refine Kd.C_alloc ?_ _) | (with_reducible refine Kd.C_drewN ?_ _) | (with_reducible refine Kd.C_drew ?_))); (case side2 => exact (Kd.R_reads' HO_238001.out).2.1); (case side3 => exact Kd.C_nil _ _); (case side4 => exact Nat.le_refl _); rintro e w40 ⟨rfl, hb⟩; have n0_ := Aside0.mk (Kd.R_below (rR_ HO_238001) hb); have n1_ := bB_ BK226 hb; have n2_ := bB_ BK237 hb; have n3_ := Aside0.mk (below_step (hB_ HB) hb); clear HO_238001; clear BK226; clear BK237; clear HB; have HO_238001 := n0_; have BK226 := n1_; have BK237 := n2_; have HB := n3_; clear n0_ n1_ n2_ n3_; (try clear hb); (try clear hb2); (try clear hk); (try clear hi)))
          go_meet
          case rel => exact ⟨_, (false), (by first | rfl | (simp; done) | (simp [*]; done)), H', ⟨by have := HJ3.out; have := HJ25.out; first | omega | exact Nat.le_refl _⟩, ⟨by (with_reducible repeat (first | apply Kd.R_alloc | apply Kd.R_drewN | apply Kd.R_drew)); exact HO_238001.out⟩, ⟨by (with_reducible repeat (first | refine blk_drewN ?_ _ | refine blk_drew ?_ | refine blk_alloc ?_ _)); exact BK226.out⟩, ⟨by (with_reducible repeat (first | refine blk_drewN ?_ _ | refine blk_drew ?_ | refine blk_alloc ?_ _)); exact BK237.out⟩, ⟨by repeat (first | (with_reducible first | exact HB.out | apply below_alloc | apply pw_below_drewN | apply below_drew1 | refine below_set ?_ GE226.out | refine below_set ?_ GE237.out) | exact HB.out)⟩⟩
         ·replace c37 := Bool.eq_false_iff.mpr c37
          subst c37
          have H1 : (lodgerlaw03_QueueDoes.j2 kj25 a1 true a0_0 l0_1 a0_2) = some r := by rw [if_neg (show ¬ (false = true) by decide)] at H; exact H
          clear H
          have H := H1
          clear H1
          have H' := Aside0.mk H
          clear H
          have hnb41 := NB237_226.out
          have hnc41 := NB226_237.out
          have hcz42_0 : wc.cell? ⟨gb237, 0, none⟩ = some (.int .i64 t231) := (blk_cell BK237.out 0).trans rfl
          have hcz42_1 : wc.cell? ⟨gb237, 1, none⟩ = some (.slice Ao31 t232.length co31) := (blk_cell BK237.out 1).trans rfl
          have hcz42_2 : wc.cell? ⟨gb237, 2, none⟩ = some (.bool t235) := (blk_cell BK237.out 2).trans rfl
          have hfz42_0 := blk_frozen BK237.out 0
          have hfz42_1 := blk_frozen BK237.out 1
          have hfz42_2 := blk_frozen BK237.out 2
          go_wp2_with (first | (go_at_call 16; (refine (lodgerref03_Same.calls kj25 t231 _ _ t232 t235 a2 _ _ ([] : List Int) false false _ ?side1 ?side2 ?side3 ?side4 A36.out).mono ?_); (case side1 => repeat (first | exact (Kd.R_reads' HO_238001.out).2.2 | (with_reducible refine Kd.C_alloc ?_ _) | (with_reducible refine Kd.C_drewN ?_ _) | (with_reducible refine Kd.C_drew ?_))); (case side2 => exact (Kd.R_reads' HO_238001.out).2.1); (case side3 => exact Kd.C_nil _ _); (case side4 => exact Nat.le_refl _); rintro e w43 ⟨rfl, hb⟩; have n0_ := Aside0.mk (Kd.R_below (rR_ HO_238001) hb); have n1_ := bB_ BK226 hb; have n2_ := bB_ BK237 hb; have n3_ := Aside0.mk (below_step (hB_ HB) hb); clear HO_238001; clear BK226; clear BK237; clear HB; have HO_238001 := n0_; have BK226 := n1_; have BK237 := n2_; have HB := n3_; clear n0_ n1_ n2_ n3_; (try clear hb); (try clear hb2); (try clear hk); (try clear hi)))
          go_meet
          case rel => exact ⟨_, (true), (by first | rfl | (simp; done) | (simp [*]; done)), H', ⟨by have := HJ3.out; have := HJ25.out; first | omega | exact Nat.le_refl _⟩, ⟨by (with_reducible repeat (first | apply Kd.R_alloc | apply Kd.R_drewN | apply Kd.R_drew)); exact HO_238001.out⟩, ⟨by (with_reducible repeat (first | refine blk_drewN ?_ _ | refine blk_drew ?_ | refine blk_alloc ?_ _)); exact BK226.out⟩, ⟨by (with_reducible repeat (first | refine blk_drewN ?_ _ | refine blk_drew ?_ | refine blk_alloc ?_ _)); exact BK237.out⟩, ⟨by repeat (first | (with_reducible first | exact HB.out | apply below_alloc | apply pw_below_drewN | apply below_drew1 | refine below_set ?_ GE226.out | refine below_set ?_ GE237.out) | exact HB.out)⟩⟩
        ·replace c35 := Bool.eq_false_iff.mpr c35
         subst c35
         have H1 : (if t236 = 1 then ((lodgerref03_Same.f kj25 t231 t232 t235 0 ([] : List Int) false).bind fun t239 => (lodgerlaw03_QueueDoes.j2 kj25 a1 (!t239) a0_0 l0_1 a0_2)) else (lodgerlaw03_QueueDoes.j2 kj25 a1 true a0_0 l0_1 a0_2)) = some r := by rw [if_neg (show ¬ (false = true) by decide)] at H; exact H
         clear H
         have H := H1
         clear H1
         by_cases c44 : t236 = 1
         ·rw [if_pos c44] at H
          have c44b0 : (t236 == 1) = true := beq_iff_eq.mpr c44
          have c44b1 : (t236 != 1) = false := bne_eq_false_iff_eq.mpr c44
          clear c44
          replace H := Option.bind_eq_some_iff.mp H
          obtain ⟨t239, A450, H⟩ := H
          replace H : (lodgerlaw03_QueueDoes.j2 kj25 a1 (!t239) a0_0 l0_1 a0_2) = some r := H
          have A45 := Aside0.mk A450
          clear A450
          have H' := Aside0.mk H
          clear H
          have hnb46 := NB237_226.out
          have hnc46 := NB226_237.out
          have hcz47_0 : wc.cell? ⟨gb237, 0, none⟩ = some (.int .i64 t231) := (blk_cell BK237.out 0).trans rfl
          have hcz47_1 : wc.cell? ⟨gb237, 1, none⟩ = some (.slice Ao31 t232.length co31) := (blk_cell BK237.out 1).trans rfl
          have hcz47_2 : wc.cell? ⟨gb237, 2, none⟩ = some (.bool t235) := (blk_cell BK237.out 2).trans rfl
          have hfz47_0 := blk_frozen BK237.out 0
          have hfz47_1 := blk_frozen BK237.out 1
          have hfz47_2 := blk_frozen BK237.out 2
          go_wp2_with (first | (go_at_call 16; (refine (lodgerref03_Same.calls kj25 t231 _ _ t232 t235 0 _ _ ([] : List Int) false t239 _ ?side1 ?side2 ?side3 ?side4 A45.out).mono ?_); (case side1 => repeat (first | exact (Kd.R_reads' HO_238001.out).2.2 | (with_reducible refine Kd.C_alloc ?_ _) | (with_reducible refine Kd.C_drewN ?_ _) | (with_reducible refine Kd.C_drew ?_))); (case side2 => exact (Kd.R_reads' HO_238001.out).2.1); (case side3 => exact Kd.C_nil _ _); (case side4 => exact Nat.le_refl _); rintro e w48 ⟨rfl, hb⟩; have n0_ := Aside0.mk (Kd.R_below (rR_ HO_238001) hb); have n1_ := bB_ BK226 hb; have n2_ := bB_ BK237 hb; have n3_ := Aside0.mk (below_step (hB_ HB) hb); clear HO_238001; clear BK226; clear BK237; clear HB; have HO_238001 := n0_; have BK226 := n1_; have BK237 := n2_; have HB := n3_; clear n0_ n1_ n2_ n3_; (try clear hb); (try clear hb2); (try clear hk); (try clear hi)))
          go_meet
          case rel => exact ⟨_, (!t239), (by first | rfl | (simp; done) | (simp [*]; done)), H', ⟨by have := HJ3.out; have := HJ25.out; first | omega | exact Nat.le_refl _⟩, ⟨by (with_reducible repeat (first | apply Kd.R_alloc | apply Kd.R_drewN | apply Kd.R_drew)); exact HO_238001.out⟩, ⟨by (with_reducible repeat (first | refine blk_drewN ?_ _ | refine blk_drew ?_ | refine blk_alloc ?_ _)); exact BK226.out⟩, ⟨by (with_reducible repeat (first | refine blk_drewN ?_ _ | refine blk_drew ?_ | refine blk_alloc ?_ _)); exact BK237.out⟩, ⟨by repeat (first | (with_reducible first | exact HB.out | apply below_alloc | apply pw_below_drewN | apply below_drew1 | refine below_set ?_ GE226.out | refine below_set ?_ GE237.out) | exact HB.out)⟩⟩
         ·rw [if_neg c44] at H
          have c44b0 : (t236 == 1) = false := beq_eq_false_iff_ne.mpr c44
          have c44b1 : (t236 != 1) = true := bne_iff_ne.mpr c44
          have H' := Aside0.mk H
          clear H
          go_wp2
          go_meet
          case rel => exact ⟨_, (true), (by first | rfl | (simp; done) | (simp [*]; done)), H', ⟨by have := HJ3.out; have := HJ25.out; first | omega | exact Nat.le_refl _⟩, ⟨by (with_reducible repeat (first | apply Kd.R_alloc | apply Kd.R_drewN | apply Kd.R_drew)); exact HO_238001.out⟩, ⟨by (with_reducible repeat (first | refine blk_drewN ?_ _ | refine blk_drew ?_ | refine blk_alloc ?_ _)); exact BK226.out⟩, ⟨by (with_reducible repeat (first | refine blk_drewN ?_ _ | refine blk_drew ?_ | refine blk_alloc ?_ _)); exact BK237.out⟩, ⟨by repeat (first | (with_reducible first | exact HB.out | apply below_alloc | apply pw_below_drewN | apply below_drew1 | refine below_set ?_ GE226.out | refine below_set ?_ GE237.out) | exact HB.out)⟩⟩
      case rest =>
       clear HC33
       try clear c1
       try clear c2
       try clear p2
       try clear c3
       try clear c4
       try clear c7
       try clear c8
       try clear c8b0
       try clear c8b1
       try clear c12
       try clear c13
       try clear c14
       try clear c15
       try clear c19
       try clear c21
       try clear c29
       try clear c32
       try clear c32b0
       try clear c34
       try clear c34b0
       try clear c34b1
       try clear c34b2
       try clear c35
       try clear c37
       try clear c38
       try clear c41
       try clear c44
       try clear c44b0
       try clear c44b1
       try clear c46
       try clear hcz23_0
       try clear hcz23_1
       try clear hcz23_2
       try clear hcz30_0
       try clear hcz30_1
       try clear hcz30_2
       try clear hcz39_0
       try clear hcz39_1
       try clear hcz39_2
       try clear hcz42_0
       try clear hcz42_1
       try clear hcz42_2
       try clear hcz47_0
       try clear hcz47_1
       try clear hcz47_2
       try clear hfz23_0
       try clear hfz23_1
       try clear hfz23_2
       try clear hfz30_0
       try clear hfz30_1
       try clear hfz30_2
       try clear hfz39_0
       try clear hfz39_1
       try clear hfz39_2
       try clear hfz42_0
       try clear hfz42_1
       try clear hfz42_2
       try clear hfz47_0
       try clear hfz47_1
       try clear hfz47_2
       try clear p2
       obtain ⟨kq, x81_32, rfl, HA, HJ32, HO_238001, BK226, BK237, HB⟩ := hcut
       cases kq with
       | zero => exact absurd HA.out (by simp [lodgerlaw03_QueueDoes.j2])
       | succ kj32 =>
        have H := HA.out
        clear HA
        simp only [lodgerlaw03_QueueDoes.j2] at H
        by_cases c49 : x81_32 = true
        ·subst c49
         have H1 : (some false) = some r := by rw [if_pos rfl] at H; exact H
         rw [hr_.out] at H1
         exact absurd (Option.some.inj H1) (by decide)
        ·replace c49 := Bool.eq_false_iff.mpr c49
         subst c49
         have H1 : ((lodgerref03_May.f a0_0 l0_1 a0_2).bind fun t240 => (if t240 = true then ((queue_Put.f a0_0 l0_1 a0_2 a1).bind fun bt241 => ((lodgerref03_Put.f a0_0 l0_1 a0_2 a1).bind fun bt248 => ((queue_Take.f a0_0 l0_1 a0_2).bind fun bt255 => ((lodgerref03_Take.f a0_0 l0_1 a0_2).bind fun bt263 => ((lodgerref03_Same.f kj32 bt241.1 bt241.2.1 bt241.2.2.1 bt248.1 bt248.2.1 bt248.2.2.1).bind fun t272 => (if t272 = true then (if bt241.2.2.2 = bt248.2.2.2 then ((lodgerref03_Same.f kj32 bt255.1 bt255.2.1 bt255.2.2.1 bt263.1 bt263.2.1 bt263.2.2.1).bind fun t273 => (if t273 = true then (if bt255.2.2.2.1 = bt263.2.2.2.1 then (if (bt255.2.2.2.2 == bt263.2.2.2.2) = true then ((queue_Close.f a0_0 l0_1 a0_2).bind fun bt274 => ((lodgerref03_Same.f kj32 bt274.1 bt274.2.1 bt274.2.2 a0_0 l0_1 true).bind fun t279 => (if t279 = true then ((queue_Ends.f a0_0 l0_1 a0_2).bind fun t280 => (if a0_2 = true then (some (t280 == ((l0_1.length : Int) == 0))) else (some (t280 == false)))) else (some false)))) else (some false)) else (some false)) else (some false))) else (some false)) else (some false))))))) else (some true))) = some r := by rw [if_neg (show ¬ (false = true) by decide)] at H; exact H
         clear H
         have H := H1
         clear H1
         replace H := Option.bind_eq_some_iff.mp H
         obtain ⟨t240, A500, H⟩ := H
         replace H : (if t240 = true then ((queue_Put.f a0_0 l0_1 a0_2 a1).bind fun bt241 => ((lodgerref03_Put.f a0_0 l0_1 a0_2 a1).bind fun bt248 => ((queue_Take.f a0_0 l0_1 a0_2).bind fun bt255 => ((lodgerref03_Take.f a0_0 l0_1 a0_2).bind fun bt263 => ((lodgerref03_Same.f kj32 bt241.1 bt241.2.1 bt241.2.2.1 bt248.1 bt248.2.1 bt248.2.2.1).bind fun t272 => (if t272 = true then (if bt241.2.2.2 = bt248.2.2.2 then ((lodgerref03_Same.f kj32 bt255.1 bt255.2.1 bt255.2.2.1 bt263.1 bt263.2.1 bt263.2.2.1).bind fun t273 => (if t273 = true then (if bt255.2.2.2.1 = bt263.2.2.2.1 then (if (bt255.2.2.2.2 == bt263.2.2.2.2) = true then ((queue_Close.f a0_0 l0_1 a0_2).bind fun bt274 => ((lodgerref03_Same.f kj32 bt274.1 bt274.2.1 bt274.2.2 a0_0 l0_1 true).bind fun t279 => (if t279 = true then ((queue_Ends.f a0_0 l0_1 a0_2).bind fun t280 => (if a0_2 = true then (some (t280 == ((l0_1.length : Int) == 0))) else (some (t280 == false)))) else (some false)))) else (some false)) else (some false)) else (some false))) else (some false)) else (some false))))))) else (some true)) = some r := H
         have A50 := Aside0.mk A500
         clear A500
         by_cases c51 : t240 = true
         ·subst c51
          have H1 : ((queue_Put.f a0_0 l0_1 a0_2 a1).bind fun bt241 => ((lodgerref03_Put.f a0_0 l0_1 a0_2 a1).bind fun bt248 => ((queue_Take.f a0_0 l0_1 a0_2).bind fun bt255 => ((lodgerref03_Take.f a0_0 l0_1 a0_2).bind fun bt263 => ((lodgerref03_Same.f kj32 bt241.1 bt241.2.1 bt241.2.2.1 bt248.1 bt248.2.1 bt248.2.2.1).bind fun t272 => (if t272 = true then (if bt241.2.2.2 = bt248.2.2.2 then ((lodgerref03_Same.f kj32 bt255.1 bt255.2.1 bt255.2.2.1 bt263.1 bt263.2.1 bt263.2.2.1).bind fun t273 => (if t273 = true then (if bt255.2.2.2.1 = bt263.2.2.2.1 then (if (bt255.2.2.2.2 == bt263.2.2.2.2) = true then ((queue_Close.f a0_0 l0_1 a0_2).bind fun bt274 => ((lodgerref03_Same.f kj32 bt274.1 bt274.2.1 bt274.2.2 a0_0 l0_1 true).bind fun t279 => (if t279 = true then ((queue_Ends.f a0_0 l0_1 a0_2).bind fun t280 => (if a0_2 = true then (some (t280 == ((l0_1.length : Int) == 0))) else (some (t280 == false)))) else (some false)))) else (some false)) else (some false)) else (some false))) else (some false)) else (some false))))))) = some r := by rw [if_pos rfl] at H; exact H
          clear H
          have H := H1
          clear H1
          replace H := Option.bind_eq_some_iff.mp H
          obtain ⟨⟨t241, t242, t245, t246⟩, A520, H⟩ := H
          replace H : ((lodgerref03_Put.f a0_0 l0_1 a0_2 a1).bind fun bt248 => ((queue_Take.f a0_0 l0_1 a0_2).bind fun bt255 => ((lodgerref03_Take.f a0_0 l0_1 a0_2).bind fun bt263 => ((lodgerref03_Same.f kj32 t241 t242 t245 bt248.1 bt248.2.1 bt248.2.2.1).bind fun t272 => (if t272 = true then (if t246 = bt248.2.2.2 then ((lodgerref03_Same.f kj32 bt255.1 bt255.2.1 bt255.2.2.1 bt263.1 bt263.2.1 bt263.2.2.1).bind fun t273 => (if t273 = true then (if bt255.2.2.2.1 = bt263.2.2.2.1 then (if (bt255.2.2.2.2 == bt263.2.2.2.2) = true then ((queue_Close.f a0_0 l0_1 a0_2).bind fun bt274 => ((lodgerref03_Same.f kj32 bt274.1 bt274.2.1 bt274.2.2 a0_0 l0_1 true).bind fun t279 => (if t279 = true then ((queue_Ends.f a0_0 l0_1 a0_2).bind fun t280 => (if a0_2 = true then (some (t280 == ((l0_1.length : Int) == 0))) else (some (t280 == false)))) else (some false)))) else (some false)) else (some false)) else (some false))) else (some false)) else (some false)))))) = some r := H
          have A52 := Aside0.mk A520
          clear A520
          replace H := Option.bind_eq_some_iff.mp H
          obtain ⟨⟨t248, t249, t252, t253⟩, A530, H⟩ := H
          replace H : ((queue_Take.f a0_0 l0_1 a0_2).bind fun bt255 => ((lodgerref03_Take.f a0_0 l0_1 a0_2).bind fun bt263 => ((lodgerref03_Same.f kj32 t241 t242 t245 t248 t249 t252).bind fun t272 => (if t272 = true then (if t246 = t253 then ((lodgerref03_Same.f kj32 bt255.1 bt255.2.1 bt255.2.2.1 bt263.1 bt263.2.1 bt263.2.2.1).bind fun t273 => (if t273 = true then (if bt255.2.2.2.1 = bt263.2.2.2.1 then (if (bt255.2.2.2.2 == bt263.2.2.2.2) = true then ((queue_Close.f a0_0 l0_1 a0_2).bind fun bt274 => ((lodgerref03_Same.f kj32 bt274.1 bt274.2.1 bt274.2.2 a0_0 l0_1 true).bind fun t279 => (if t279 = true then ((queue_Ends.f a0_0 l0_1 a0_2).bind fun t280 => (if a0_2 = true then (some (t280 == ((l0_1.length : Int) == 0))) else (some (t280 == false)))) else (some false)))) else (some false)) else (some false)) else (some false))) else (some false)) else (some false))))) = some r := H
          have A53 := Aside0.mk A530
          clear A530
          replace H := Option.bind_eq_some_iff.mp H
          obtain ⟨⟨t255, t256, t259, t260, t261⟩, A540, H⟩ := H
          replace H : ((lodgerref03_Take.f a0_0 l0_1 a0_2).bind fun bt263 => ((lodgerref03_Same.f kj32 t241 t242 t245 t248 t249 t252).bind fun t272 => (if t272 = true then (if t246 = t253 then ((lodgerref03_Same.f kj32 t255 t256 t259 bt263.1 bt263.2.1 bt263.2.2.1).bind fun t273 => (if t273 = true then (if t260 = bt263.2.2.2.1 then (if (t261 == bt263.2.2.2.2) = true then ((queue_Close.f a0_0 l0_1 a0_2).bind fun bt274 => ((lodgerref03_Same.f kj32 bt274.1 bt274.2.1 bt274.2.2 a0_0 l0_1 true).bind fun t279 => (if t279 = true then ((queue_Ends.f a0_0 l0_1 a0_2).bind fun t280 => (if a0_2 = true then (some (t280 == ((l0_1.length : Int) == 0))) else (some (t280 == false)))) else (some false)))) else (some false)) else (some false)) else (some false))) else (some false)) else (some false)))) = some r := H
          have A54 := Aside0.mk A540
          clear A540
          replace H := Option.bind_eq_some_iff.mp H
          obtain ⟨⟨t263, t264, t267, t268, t269⟩, A550, H⟩ := H
          replace H : ((lodgerref03_Same.f kj32 t241 t242 t245 t248 t249 t252).bind fun t272 => (if t272 = true then (if t246 = t253 then ((lodgerref03_Same.f kj32 t255 t256 t259 t263 t264 t267).bind fun t273 => (if t273 = true then (if t260 = t268 then (if (t261 == t269) = true then ((queue_Close.f a0_0 l0_1 a0_2).bind fun bt274 => ((lodgerref03_Same.f kj32 bt274.1 bt274.2.1 bt274.2.2 a0_0 l0_1 true).bind fun t279 => (if t279 = true then ((queue_Ends.f a0_0 l0_1 a0_2).bind fun t280 => (if a0_2 = true then (some (t280 == ((l0_1.length : Int) == 0))) else (some (t280 == false)))) else (some false)))) else (some false)) else (some false)) else (some false))) else (some false)) else (some false))) = some r := H
          have A55 := Aside0.mk A550
          clear A550
          replace H := Option.bind_eq_some_iff.mp H
          obtain ⟨t272, A560, H⟩ := H
          replace H : (if t272 = true then (if t246 = t253 then ((lodgerref03_Same.f kj32 t255 t256 t259 t263 t264 t267).bind fun t273 => (if t273 = true then (if t260 = t268 then (if (t261 == t269) = true then ((queue_Close.f a0_0 l0_1 a0_2).bind fun bt274 => ((lodgerref03_Same.f kj32 bt274.1 bt274.2.1 bt274.2.2 a0_0 l0_1 true).bind fun t279 => (if t279 = true then ((queue_Ends.f a0_0 l0_1 a0_2).bind fun t280 => (if a0_2 = true then (some (t280 == ((l0_1.length : Int) == 0))) else (some (t280 == false)))) else (some false)))) else (some false)) else (some false)) else (some false))) else (some false)) else (some false)) = some r := H
          have A56 := Aside0.mk A560
          clear A560
          by_cases c57 : t272 = true
          ·subst c57
           have H1 : (if t246 = t253 then ((lodgerref03_Same.f kj32 t255 t256 t259 t263 t264 t267).bind fun t273 => (if t273 = true then (if t260 = t268 then (if (t261 == t269) = true then ((queue_Close.f a0_0 l0_1 a0_2).bind fun bt274 => ((lodgerref03_Same.f kj32 bt274.1 bt274.2.1 bt274.2.2 a0_0 l0_1 true).bind fun t279 => (if t279 = true then ((queue_Ends.f a0_0 l0_1 a0_2).bind fun t280 => (if a0_2 = true then (some (t280 == ((l0_1.length : Int) == 0))) else (some (t280 == false)))) else (some false)))) else (some false)) else (some false)) else (some false))) else (some false)) = some r := by rw [if_pos rfl] at H; exact H
           clear H
           have H := H1
           clear H1
           by_cases c58 : t246 = t253
           ·rw [if_pos c58] at H
            have c58b0 : (t246 == t253) = true := beq_iff_eq.mpr c58
            have c58b1 : (t246 != t253) = false := bne_eq_false_iff_eq.mpr c58
            clear c58
            replace H := Option.bind_eq_some_iff.mp H
            obtain ⟨t273, A590, H⟩ := H
            replace H : (if t273 = true then (if t260 = t268 then (if (t261 == t269) = true then ((queue_Close.f a0_0 l0_1 a0_2).bind fun bt274 => ((lodgerref03_Same.f kj32 bt274.1 bt274.2.1 bt274.2.2 a0_0 l0_1 true).bind fun t279 => (if t279 = true then ((queue_Ends.f a0_0 l0_1 a0_2).bind fun t280 => (if a0_2 = true then (some (t280 == ((l0_1.length : Int) == 0))) else (some (t280 == false)))) else (some false)))) else (some false)) else (some false)) else (some false)) = some r := H
            have A59 := Aside0.mk A590
            clear A590
            by_cases c60 : t273 = true
            ·subst c60
             have H1 : (if t260 = t268 then (if (t261 == t269) = true then ((queue_Close.f a0_0 l0_1 a0_2).bind fun bt274 => ((lodgerref03_Same.f kj32 bt274.1 bt274.2.1 bt274.2.2 a0_0 l0_1 true).bind fun t279 => (if t279 = true then ((queue_Ends.f a0_0 l0_1 a0_2).bind fun t280 => (if a0_2 = true then (some (t280 == ((l0_1.length : Int) == 0))) else (some (t280 == false)))) else (some false)))) else (some false)) else (some false)) = some r := by rw [if_pos rfl] at H; exact H
             clear H
             have H := H1
             clear H1
             by_cases c61 : t260 = t268
             ·rw [if_pos c61] at H
              have c61b0 : (t260 == t268) = true := beq_iff_eq.mpr c61
              have c61b1 : (t260 != t268) = false := bne_eq_false_iff_eq.mpr c61
              clear c61
              by_cases c62 : (t261 == t269) = true
              ·rw [if_pos c62] at H
               have c62b0 : (t261 == t269) = true := c62
               (try (have c62b1 : decide (t261 = t269) = true := by simpa using c62))
               (try (have c62b2 : (t261 == t269) = true := by simpa using c62))
               clear c62
               replace H := Option.bind_eq_some_iff.mp H
               obtain ⟨⟨t274, t275, t278⟩, A630, H⟩ := H
               replace H : ((lodgerref03_Same.f kj32 t274 t275 t278 a0_0 l0_1 true).bind fun t279 => (if t279 = true then ((queue_Ends.f a0_0 l0_1 a0_2).bind fun t280 => (if a0_2 = true then (some (t280 == ((l0_1.length : Int) == 0))) else (some (t280 == false)))) else (some false))) = some r := H
               have A63 := Aside0.mk A630
               clear A630
               replace H := Option.bind_eq_some_iff.mp H
               obtain ⟨t279, A640, H⟩ := H
               replace H : (if t279 = true then ((queue_Ends.f a0_0 l0_1 a0_2).bind fun t280 => (if a0_2 = true then (some (t280 == ((l0_1.length : Int) == 0))) else (some (t280 == false)))) else (some false)) = some r := H
               have A64 := Aside0.mk A640
               clear A640
               by_cases c65 : t279 = true
               ·subst c65
                have H1 : ((queue_Ends.f a0_0 l0_1 a0_2).bind fun t280 => (if a0_2 = true then (some (t280 == ((l0_1.length : Int) == 0))) else (some (t280 == false)))) = some r := by rw [if_pos rfl] at H; exact H
                clear H
                have H := H1
                clear H1
                replace H := Option.bind_eq_some_iff.mp H
                obtain ⟨t280, A660, H⟩ := H
                replace H : (if a0_2 = true then (some (t280 == ((l0_1.length : Int) == 0))) else (some (t280 == false))) = some r := H
                have A66 := Aside0.mk A660
                clear A660
                by_cases c67 : a0_2 = true
                ·subst c67
                 have H1 : (some (t280 == ((l0_1.length : Int) == 0))) = some r := by rw [if_pos rfl] at H; exact H
                 clear H
                 have H := H1
                 clear H1
                 first | (exfalso; rw [hr_.out] at H; exact absurd (Option.some.inj H) (by decide)) | (try clear hr_)
                 all_goals
                  obtain rfl := Option.some.inj H
                  have hnb68 := NB226_237.out
                  have hnc68 := NB237_226.out
                  have hcz69_0 : wc.cell? ⟨gb226, 0, none⟩ = some (.int .i64 a0_0) := (blk_cell BK226.out 0).trans rfl
                  have hcz69_1 : wc.cell? ⟨gb226, 1, none⟩ = some (.slice A0_1 l0_1.length c0_1) := (blk_cell BK226.out 1).trans rfl
                  have hcz69_2 : wc.cell? ⟨gb226, 2, none⟩ = some (.bool true) := (blk_cell BK226.out 2).trans rfl
                  have hfz69_0 := blk_frozen BK226.out 0
                  have hfz69_1 := blk_frozen BK226.out 1
                  have hfz69_2 := blk_frozen BK226.out 2
                  try go_wp2_with (first | ((with_reducible refine gate_callee (f := 14) rfl ?_); refine goesL_ (some 83) rfl rfl Try.func14 (by kernel_rfl) rfl #[.agg #[.int .i64 a0_0, .slice A0_1 l0_1.length c0_1, .bool true]] rfl am_ ?_; (with_reducible refine (lodgerref03_May.calls a0_0 _ _ l0_1 true true _ ?side1 ?side2 A50.out).mono ?_); (case side1 => repeat (first | exact (Kd.C_below HR0_1.out HB.out) | (with_reducible refine Kd.C_alloc ?_ _) | (with_reducible refine Kd.C_drewN ?_ _) | (with_reducible refine Kd.C_drew ?_))); (case side2 => exact HC0_1.out); rintro e w70 ⟨rfl, hb⟩; refine ⟨_, rfl, ?_⟩; have n0_ := Aside0.mk (Kd.R_below (rR_ HO_238001) hb); have n1_ := bB_ BK226 hb; have n2_ := bB_ BK237 hb; have n3_ := Aside0.mk (below_step (hB_ HB) hb); clear HO_238001; clear BK226; clear BK237; clear HB; have HO_238001 := n0_; have BK226 := n1_; have BK237 := n2_; have HB := n3_; clear n0_ n1_ n2_ n3_; (try clear hb); (try clear hb2); (try clear hk); (try clear hi); have hcz71_0 : w70.cell? ⟨gb226, 0, none⟩ = some (.int .i64 a0_0) := (blk_cell BK226.out 0).trans rfl; have hcz71_1 : w70.cell? ⟨gb226, 1, none⟩ = some (.slice A0_1 l0_1.length c0_1) := (blk_cell BK226.out 1).trans rfl; have hcz71_2 : w70.cell? ⟨gb226, 2, none⟩ = some (.bool true) := (blk_cell BK226.out 2).trans rfl; have hfz71_0 := blk_frozen BK226.out 0; have hfz71_1 := blk_frozen BK226.out 1; have hfz71_2 := blk_frozen BK226.out 2) | ((with_reducible refine gate_callee (f := 17) rfl ?_); refine goesL_ (some 88) rfl rfl Try.func17 (by kernel_rfl) rfl #[.agg #[.int .i64 a0_0, .slice A0_1 l0_1.length c0_1, .bool true], .int .i64 a1] rfl am_ ?_; (with_reducible refine (queue_Put.calls a0_0 (fun k_ => k_ < w.heap.size) _ _ l0_1 true a1 t241 t242 t245 t246 _ ?side1 A52.out).mono ?_); (case side1 => exact Kd.V_mk HC0_1.out (Kd.F_below (Kd.C_F (Kd.heap_int .i64) HR0_1.out) (hB_ HB))); rintro e w72 ⟨v243, rfl, ho0, hb⟩; refine ⟨_, rfl, ?_⟩; have n0_ := Aside0.mk (Kd.R_below (rR_ HO_238001) hb); have n1_ := Aside0.mk (Kd.V_lower (Kd.V_mono (ok' := fun k_ => some k_ ≠ (.slice Ao31 t232.length co31 : Value).ownBlock ∧ k_ ≠ gb226 ∧ k_ ≠ gb237) ho0 (fun k_ hk_ => ⟨Or.elim hk_ (fun hs_ => fun e_ => Nat.not_le.2 hs_ (Kd.R_base HO_238001.out k_ e_.symm)) (fun hn_ => (Kd.fresh' (Kd.R_lt (rR_ HO_238001)) k_ hn_)), Or.elim hk_ (fun hs_ => fun e_ => Nat.not_le.2 hs_ (by rw [e_]; exact GW226.out)) (fun hn_ => (Kd.freshB (g := gb226) (o := .cells #[.int .i64 a0_0, .slice A0_1 l0_1.length c0_1, .bool true] 34 (0, 0)) (bk_ BK226) k_ hn_)), Or.elim hk_ (fun hs_ => fun e_ => Nat.not_le.2 hs_ (by rw [e_]; exact GW237.out)) (fun hn_ => (Kd.freshB (g := gb237) (o := .cells #[.int .i64 t231, .slice Ao31 t232.length co31, .bool t235] 34 (0, 0)) (bk_ BK237) k_ hn_))⟩)) (below_size (hB_ HB))); have n2_ := bB_ BK226 hb; have n3_ := bB_ BK237 hb; have n4_ := Aside0.mk (below_step (hB_ HB) hb); clear HO_238001; clear BK226; clear BK237; clear HB; have HO_238001 := n0_; have HO244 := n1_; have BK226 := n2_; have BK237 := n3_; have HB := n4_; clear n0_ n1_ n2_ n3_ n4_; (try clear hb); (try clear hb2); (try clear hk); (try clear hi); (try clear ho0)) | ((with_reducible refine gate_dst (N := 10) rfl ?_); (try (refine gate_guard (by rfl) ?_; dsimp only)); refine box_event ?hg (N := 10) ?hd (cs := #[.int .i64 0, .slice none 0 0, .bool false]) (t := 34) ?hr ?_; (case hd => rfl); (case hg => rfl); (case hr => first | (go_simp; done) | (go_simp; rfl)); intro gb247 hg w73 hbox hb; have n0_ := Aside0.mk (Kd.R_below (rR_ HO_238001) hb); have n1_ := Aside0.mk (Kd.V_below (Kd.V_elderB (vV_ HO244) gb247 (Nat.le_of_eq hg.symm)) hb); have n2_ := bB_ BK226 hb; have n3_ := bB_ BK237 hb; have n4_ := Aside0.mk (below_step (hB_ HB) hb); have n5_ := Aside0.mk (hbox); have n6_ := Aside0.mk ((by rw [hg]; exact (below_size (hB_ HB)) : w.heap.size ≤ gb247)); have n7_ := Aside0.mk ((by rw [hg]; exact (below_size (hB_ HB)) : w.heap.size ≤ gb247)); have n8_ := Aside0.mk ((by rw [hg]; exact Nat.ne_of_lt (blk_lt (g := gb226) (o := .cells #[.int .i64 a0_0, .slice A0_1 l0_1.length c0_1, .bool true] 34 (0, 0)) (bk_ BK226)) : gb226 ≠ gb247)); have n9_ := Aside0.mk ((by rw [hg]; exact Nat.ne_of_gt (blk_lt (g := gb226) (o := .cells #[.int .i64 a0_0, .slice A0_1 l0_1.length c0_1, .bool true] 34 (0, 0)) (bk_ BK226)) : gb247 ≠ gb226)); have n10_ := Aside0.mk ((by rw [hg]; exact Nat.ne_of_lt (blk_lt (g := gb237) (o := .cells #[.int .i64 t231, .slice Ao31 t232.length co31, .bool t235] 34 (0, 0)) (bk_ BK237)) : gb237 ≠ gb247)); have n11_ := Aside0.mk ((by rw [hg]; exact Nat.ne_of_gt (blk_lt (g := gb237) (o := .cells #[.int .i64 t231, .slice Ao31 t232.length co31, .bool t235] 34 (0, 0)) (bk_ BK237)) : gb247 ≠ gb237)); clear HO_238001; clear HO244; clear BK226; clear BK237; clear HB; have HO_238001 := n0_; have HO244 := n1_; have BK226 := n2_; have BK237 := n3_; have HB := n4_; have BK247 := n5_; have GW247 := n6_; have GE247 := n7_; have NB226_247 := n8_; have NB247_226 := n9_; have NB237_247 := n10_; have NB247_237 := n11_; clear n0_ n1_ n2_ n3_ n4_ n5_ n6_ n7_ n8_ n9_ n10_ n11_; clear hb hbox hg; have hnb74 := NB247_226.out; have hnc74 := NB226_247.out; have hnb75 := NB247_237.out; have hnc75 := NB237_247.out; have hcz76_0 : w73.cell? ⟨gb247, 0, none⟩ = some (.int .i64 0) := (blk_cell BK247.out 0).trans rfl; have hcz76_1 : w73.cell? ⟨gb247, 1, none⟩ = some (.slice none 0 0) := (blk_cell BK247.out 1).trans rfl; have hcz76_2 : w73.cell? ⟨gb247, 2, none⟩ = some (.bool false) := (blk_cell BK247.out 2).trans rfl; have hfz76_0 := blk_frozen BK247.out 0; have hfz76_1 := blk_frozen BK247.out 1; have hfz76_2 := blk_frozen BK247.out 2; obtain ⟨Ao77, co77, eo77⟩ := Kd.V_slice HO244.out; subst eo77) | ((with_reducible refine gate_store (t := 34) (p := 10) rfl ?_); refine store_event (t := 34) (p := 10) (v := ?vo_w78) (w1 := (((w73.setCell ⟨gb247, 0, none⟩ (.int .i64 t241)).setCell ⟨gb247, 1, none⟩ (.slice Ao77 t242.length co77)).setCell ⟨gb247, 2, none⟩ (.bool t245))) ?hg ?ho ?hn ?hr ?_; (case ho => rfl); (case hg => rfl); (case hn => rfl); (case hr => first | (go_simp; done) | (go_simp; rfl)); intro w78 hw; have n0_ : Aside0 (Kd.R (Kd.int .i64) 3 w78 w.heap.size (fun _ => True) (.slice Ao31 t232.length co31) t232) := ⟨(by rw [hw]; exact (by (with_reducible repeat (first | apply Kd.R_alloc | apply Kd.R_drewN | apply Kd.R_drew)); exact Kd.R_mono (Kd.R_far (p := ⟨gb247, 2, none⟩) (Kd.R_far (p := ⟨gb247, 1, none⟩) (Kd.R_far (p := ⟨gb247, 0, none⟩) (Kd.R_types HO_238001.out BK247.out (by decide)) (fun _ hk => hk.2) (.int .i64 t241)) (fun _ hk => hk.2) (.slice Ao77 t242.length co77)) (fun _ hk => hk.2) (.bool t245)) (fun _ hk => trivial)))⟩; have n1_ : Aside0 (Kd.V (Kd.int .i64) 3 w78 w.heap.size (fun k_ => some k_ ≠ (.slice Ao31 t232.length co31 : Value).ownBlock ∧ k_ ≠ gb226 ∧ k_ ≠ gb237 ∧ k_ ≠ gb247) (.slice Ao77 t242.length co77) t242) := ⟨(by rw [hw]; exact (by (with_reducible repeat (first | apply Kd.V_alloc | apply Kd.V_drewN | apply Kd.V_drew)); exact Kd.V_mono (Kd.V_far (p := ⟨gb247, 2, none⟩) (Kd.V_far (p := ⟨gb247, 1, none⟩) (Kd.V_far (p := ⟨gb247, 0, none⟩) (Kd.V_mono HO244.out (fun k_ hk => (⟨hk, hk.2⟩ : _ ∧ k_ ≠ gb247))) (fun _ hk => hk.2) (.int .i64 t241)) (fun _ hk => hk.2) (.slice Ao77 t242.length co77)) (fun _ hk => hk.2) (.bool t245)) (fun _ hk => ⟨hk.1.1.1, ⟨hk.1.1.2.1, ⟨hk.1.1.2.2, hk.1.2⟩⟩⟩)))⟩; have n2_ : Aside0 (w78.heap[gb226]? = some (.cells #[.int .i64 a0_0, .slice A0_1 l0_1.length c0_1, .bool true] 34 (0, 0))) := ⟨(by rw [hw]; exact (by (with_reducible repeat (first | refine blk_drewN ?_ _ | refine blk_drew ?_ | refine blk_alloc ?_ _)); refine blk_far ?_ NB226_247.out _; (with_reducible repeat (first | refine blk_drewN ?_ _ | refine blk_drew ?_ | refine blk_alloc ?_ _)); refine blk_far ?_ NB226_247.out _; (with_reducible repeat (first | refine blk_drewN ?_ _ | refine blk_drew ?_ | refine blk_alloc ?_ _)); refine blk_far ?_ NB226_247.out _; (with_reducible repeat (first | refine blk_drewN ?_ _ | refine blk_drew ?_ | refine blk_alloc ?_ _)); exact BK226.out))⟩; have n3_ : Aside0 (w78.heap[gb237]? = some (.cells #[.int .i64 t231, .slice Ao31 t232.length co31, .bool t235] 34 (0, 0))) := ⟨(by rw [hw]; exact (by (with_reducible repeat (first | refine blk_drewN ?_ _ | refine blk_drew ?_ | refine blk_alloc ?_ _)); refine blk_far ?_ NB237_247.out _; (with_reducible repeat (first | refine blk_drewN ?_ _ | refine blk_drew ?_ | refine blk_alloc ?_ _)); refine blk_far ?_ NB237_247.out _; (with_reducible repeat (first | refine blk_drewN ?_ _ | refine blk_drew ?_ | refine blk_alloc ?_ _)); refine blk_far ?_ NB237_247.out _; (with_reducible repeat (first | refine blk_drewN ?_ _ | refine blk_drew ?_ | refine blk_alloc ?_ _)); exact BK237.out))⟩; have n4_ : Aside0 (w78.heap[gb247]? = some (.cells #[.int .i64 t241, .slice Ao77 t242.length co77, .bool t245] 34 (0, 0))) := ⟨(by rw [hw]; exact (by (with_reducible repeat (first | refine blk_drewN ?_ _ | refine blk_drew ?_ | refine blk_alloc ?_ _)); refine blk_put (cs := #[.int .i64 t241, .slice Ao77 t242.length co77, .bool false]) ?_ 2 _ rfl; (with_reducible repeat (first | refine blk_drewN ?_ _ | refine blk_drew ?_ | refine blk_alloc ?_ _)); refine blk_put (cs := #[.int .i64 t241, .slice none 0 0, .bool false]) ?_ 1 _ rfl; (with_reducible repeat (first | refine blk_drewN ?_ _ | refine blk_drew ?_ | refine blk_alloc ?_ _)); refine blk_put (cs := #[.int .i64 0, .slice none 0 0, .bool false]) ?_ 0 _ rfl; (with_reducible repeat (first | refine blk_drewN ?_ _ | refine blk_drew ?_ | refine blk_alloc ?_ _)); exact BK247.out))⟩; have n5_ : Aside0 (Below w.heap.size w w78) := ⟨(by rw [hw]; exact (hB_ HB))⟩; clear hw; clear HO_238001; clear HO244; clear BK226; clear BK237; clear BK247; clear HB; have HO_238001 := n0_; have HO244 := n1_; have BK226 := n2_; have BK237 := n3_; have BK247 := n4_; have HB := n5_; clear n0_ n1_ n2_ n3_ n4_ n5_; have hcz79_0 : w78.cell? ⟨gb226, 0, none⟩ = some (.int .i64 a0_0) := (blk_cell BK226.out 0).trans rfl; have hcz79_1 : w78.cell? ⟨gb226, 1, none⟩ = some (.slice A0_1 l0_1.length c0_1) := (blk_cell BK226.out 1).trans rfl; have hcz79_2 : w78.cell? ⟨gb226, 2, none⟩ = some (.bool true) := (blk_cell BK226.out 2).trans rfl; have hfz79_0 := blk_frozen BK226.out 0; have hfz79_1 := blk_frozen BK226.out 1; have hfz79_2 := blk_frozen BK226.out 2) | ((with_reducible refine gate_callee (f := 18) rfl ?_); refine goesL_ (some 94) rfl rfl Try.func18 (by kernel_rfl) rfl #[.agg #[.int .i64 a0_0, .slice A0_1 l0_1.length c0_1, .bool true], .int .i64 a1] rfl am_ ?_; (with_reducible refine (lodgerref03_Put.calls a0_0 (fun k_ => k_ < w.heap.size) _ _ l0_1 true a1 t248 t249 t252 t253 _ ?side1 A53.out).mono ?_); (case side1 => exact Kd.V_mk HC0_1.out (Kd.F_below (Kd.C_F (Kd.heap_int .i64) HR0_1.out) (hB_ HB))); rintro e w80 ⟨v250, rfl, ho0, hb⟩; refine ⟨_, rfl, ?_⟩; have n0_ := Aside0.mk (Kd.R_below (rR_ HO_238001) hb); have n1_ := Aside0.mk (Kd.V_below (vV_ HO244) hb); have n2_ := Aside0.mk (Kd.V_lower (Kd.V_mono (ok' := fun k_ => some k_ ≠ (.slice Ao31 t232.length co31 : Value).ownBlock ∧ k_ ≠ gb226 ∧ k_ ≠ gb237 ∧ k_ ≠ gb247) ho0 (fun k_ hk_ => ⟨Or.elim hk_ (fun hs_ => fun e_ => Nat.not_le.2 hs_ (Kd.R_base HO_238001.out k_ e_.symm)) (fun hn_ => (Kd.fresh' (Kd.R_lt (rR_ HO_238001)) k_ hn_)), Or.elim hk_ (fun hs_ => fun e_ => Nat.not_le.2 hs_ (by rw [e_]; exact GW226.out)) (fun hn_ => (Kd.freshB (g := gb226) (o := .cells #[.int .i64 a0_0, .slice A0_1 l0_1.length c0_1, .bool true] 34 (0, 0)) (bk_ BK226) k_ hn_)), Or.elim hk_ (fun hs_ => fun e_ => Nat.not_le.2 hs_ (by rw [e_]; exact GW237.out)) (fun hn_ => (Kd.freshB (g := gb237) (o := .cells #[.int .i64 t231, .slice Ao31 t232.length co31, .bool t235] 34 (0, 0)) (bk_ BK237) k_ hn_)), Or.elim hk_ (fun hs_ => fun e_ => Nat.not_le.2 hs_ (by rw [e_]; exact GW247.out)) (fun hn_ => (Kd.freshB (g := gb247) (o := .cells #[.int .i64 t241, .slice Ao77 t242.length co77, .bool t245] 34 (0, 0)) (bk_ BK247) k_ hn_))⟩)) (below_size (hB_ HB))); have n3_ := bB_ BK226 hb; have n4_ := bB_ BK237 hb; have n5_ := bB_ BK247 hb; have n6_ := Aside0.mk (below_step (hB_ HB) hb); clear HO_238001; clear HO244; clear BK226; clear BK237; clear BK247; clear HB; have HO_238001 := n0_; have HO244 := n1_; have HO251 := n2_; have BK226 := n3_; have BK237 := n4_; have BK247 := n5_; have HB := n6_; clear n0_ n1_ n2_ n3_ n4_ n5_ n6_; (try clear hb); (try clear hb2); (try clear hk); (try clear hi); (try clear ho0)) | ((with_reducible refine gate_dst (N := 12) rfl ?_); (try (refine gate_guard (by rfl) ?_; dsimp only)); refine box_event ?hg (N := 12) ?hd (cs := #[.int .i64 0, .slice none 0 0, .bool false]) (t := 34) ?hr ?_; (case hd => rfl); (case hg => rfl); (case hr => first | (go_simp; done) | (go_simp; rfl)); intro gb254 hg w81 hbox hb; have n0_ := Aside0.mk (Kd.R_below (rR_ HO_238001) hb); have n1_ := Aside0.mk (Kd.V_below (Kd.V_elderB (vV_ HO244) gb254 (Nat.le_of_eq hg.symm)) hb); have n2_ := Aside0.mk (Kd.V_below (Kd.V_elderB (vV_ HO251) gb254 (Nat.le_of_eq hg.symm)) hb); have n3_ := bB_ BK226 hb; have n4_ := bB_ BK237 hb; have n5_ := bB_ BK247 hb; have n6_ := Aside0.mk (below_step (hB_ HB) hb); have n7_ := Aside0.mk (hbox); have n8_ := Aside0.mk ((by rw [hg]; exact (below_size (hB_ HB)) : w.heap.size ≤ gb254)); have n9_ := Aside0.mk ((by rw [hg]; exact (below_size (hB_ HB)) : w.heap.size ≤ gb254)); have n10_ := Aside0.mk ((by rw [hg]; exact Nat.ne_of_lt (blk_lt (g := gb226) (o := .cells #[.int .i64 a0_0, .slice A0_1 l0_1.length c0_1, .bool true] 34 (0, 0)) (bk_ BK226)) : gb226 ≠ gb254)); have n11_ := Aside0.mk ((by rw [hg]; exact Nat.ne_of_gt (blk_lt (g := gb226) (o := .cells #[.int .i64 a0_0, .slice A0_1 l0_1.length c0_1, .bool true] 34 (0, 0)) (bk_ BK226)) : gb254 ≠ gb226)); have n12_ := Aside0.mk ((by rw [hg]; exact Nat.ne_of_lt (blk_lt (g := gb237) (o := .cells #[.int .i64 t231, .slice Ao31 t232.length co31, .bool t235] 34 (0, 0)) (bk_ BK237)) : gb237 ≠ gb254)); have n13_ := Aside0.mk ((by rw [hg]; exact Nat.ne_of_gt (blk_lt (g := gb237) (o := .cells #[.int .i64 t231, .slice Ao31 t232.length co31, .bool t235] 34 (0, 0)) (bk_ BK237)) : gb254 ≠ gb237)); have n14_ := Aside0.mk ((by rw [hg]; exact Nat.ne_of_lt (blk_lt (g := gb247) (o := .cells #[.int .i64 t241, .slice Ao77 t242.length co77, .bool t245] 34 (0, 0)) (bk_ BK247)) : gb247 ≠ gb254)); have n15_ := Aside0.mk ((by rw [hg]; exact Nat.ne_of_gt (blk_lt (g := gb247) (o := .cells #[.int .i64 t241, .slice Ao77 t242.length co77, .bool t245] 34 (0, 0)) (bk_ BK247)) : gb254 ≠ gb247)); clear HO_238001; clear HO244; clear HO251; clear BK226; clear BK237; clear BK247; clear HB; have HO_238001 := n0_; have HO244 := n1_; have HO251 := n2_; have BK226 := n3_; have BK237 := n4_; have BK247 := n5_; have HB := n6_; have BK254 := n7_; have GW254 := n8_; have GE254 := n9_; have NB226_254 := n10_; have NB254_226 := n11_; have NB237_254 := n12_; have NB254_237 := n13_; have NB247_254 := n14_; have NB254_247 := n15_; clear n0_ n1_ n2_ n3_ n4_ n5_ n6_ n7_ n8_ n9_ n10_ n11_ n12_ n13_ n14_ n15_; clear hb hbox hg; have hnb82 := NB254_226.out; have hnc82 := NB226_254.out; have hnb83 := NB254_237.out; have hnc83 := NB237_254.out; have hnb84 := NB254_247.out; have hnc84 := NB247_254.out; have hcz85_0 : w81.cell? ⟨gb254, 0, none⟩ = some (.int .i64 0) := (blk_cell BK254.out 0).trans rfl; have hcz85_1 : w81.cell? ⟨gb254, 1, none⟩ = some (.slice none 0 0) := (blk_cell BK254.out 1).trans rfl; have hcz85_2 : w81.cell? ⟨gb254, 2, none⟩ = some (.bool false) := (blk_cell BK254.out 2).trans rfl; have hfz85_0 := blk_frozen BK254.out 0; have hfz85_1 := blk_frozen BK254.out 1; have hfz85_2 := blk_frozen BK254.out 2; obtain ⟨Ao86, co86, eo86⟩ := Kd.V_slice HO251.out; subst eo86) | ((with_reducible refine gate_store (t := 34) (p := 12) rfl ?_); refine store_event (t := 34) (p := 12) (v := ?vo_w87) (w1 := (((w81.setCell ⟨gb254, 0, none⟩ (.int .i64 t248)).setCell ⟨gb254, 1, none⟩ (.slice Ao86 t249.length co86)).setCell ⟨gb254, 2, none⟩ (.bool t252))) ?hg ?ho ?hn ?hr ?_; (case ho => rfl); (case hg => rfl); (case hn => rfl); (case hr => first | (go_simp; done) | (go_simp; rfl)); intro w87 hw; have n0_ : Aside0 (Kd.R (Kd.int .i64) 3 w87 w.heap.size (fun _ => True) (.slice Ao31 t232.length co31) t232) := ⟨(by rw [hw]; exact (by (with_reducible repeat (first | apply Kd.R_alloc | apply Kd.R_drewN | apply Kd.R_drew)); exact Kd.R_mono (Kd.R_far (p := ⟨gb254, 2, none⟩) (Kd.R_far (p := ⟨gb254, 1, none⟩) (Kd.R_far (p := ⟨gb254, 0, none⟩) (Kd.R_types HO_238001.out BK254.out (by decide)) (fun _ hk => hk.2) (.int .i64 t248)) (fun _ hk => hk.2) (.slice Ao86 t249.length co86)) (fun _ hk => hk.2) (.bool t252)) (fun _ hk => trivial)))⟩; have n1_ : Aside0 (Kd.V (Kd.int .i64) 3 w87 w.heap.size (fun k_ => some k_ ≠ (.slice Ao31 t232.length co31 : Value).ownBlock ∧ k_ ≠ gb226 ∧ k_ ≠ gb237 ∧ k_ ≠ gb247 ∧ k_ ≠ gb254) (.slice Ao77 t242.length co77) t242) := ⟨(by rw [hw]; exact (by (with_reducible repeat (first | apply Kd.V_alloc | apply Kd.V_drewN | apply Kd.V_drew)); exact Kd.V_mono (Kd.V_far (p := ⟨gb254, 2, none⟩) (Kd.V_far (p := ⟨gb254, 1, none⟩) (Kd.V_far (p := ⟨gb254, 0, none⟩) (Kd.V_mono HO244.out (fun k_ hk => (⟨hk, hk.2⟩ : _ ∧ k_ ≠ gb254))) (fun _ hk => hk.2) (.int .i64 t248)) (fun _ hk => hk.2) (.slice Ao86 t249.length co86)) (fun _ hk => hk.2) (.bool t252)) (fun _ hk => ⟨hk.1.1.1, ⟨hk.1.1.2.1, ⟨hk.1.1.2.2.1, ⟨hk.1.1.2.2.2, hk.1.2⟩⟩⟩⟩)))⟩; have n2_ : Aside0 (Kd.V (Kd.int .i64) 3 w87 w.heap.size (fun k_ => some k_ ≠ (.slice Ao31 t232.length co31 : Value).ownBlock ∧ k_ ≠ gb226 ∧ k_ ≠ gb237 ∧ k_ ≠ gb247 ∧ k_ ≠ gb254) (.slice Ao86 t249.length co86) t249) := ⟨(by rw [hw]; exact (by (with_reducible repeat (first | apply Kd.V_alloc | apply Kd.V_drewN | apply Kd.V_drew)); exact Kd.V_mono (Kd.V_far (p := ⟨gb254, 2, none⟩) (Kd.V_far (p := ⟨gb254, 1, none⟩) (Kd.V_far (p := ⟨gb254, 0, none⟩) (Kd.V_mono HO251.out (fun k_ hk => (⟨hk, hk.2⟩ : _ ∧ k_ ≠ gb254))) (fun _ hk => hk.2) (.int .i64 t248)) (fun _ hk => hk.2) (.slice Ao86 t249.length co86)) (fun _ hk => hk.2) (.bool t252)) (fun _ hk => ⟨hk.1.1.1, ⟨hk.1.1.2.1, ⟨hk.1.1.2.2.1, ⟨hk.1.1.2.2.2, hk.1.2⟩⟩⟩⟩)))⟩; have n3_ : Aside0 (w87.heap[gb226]? = some (.cells #[.int .i64 a0_0, .slice A0_1 l0_1.length c0_1, .bool true] 34 (0, 0))) := ⟨(by rw [hw]; exact (by (with_reducible repeat (first | refine blk_drewN ?_ _ | refine blk_drew ?_ | refine blk_alloc ?_ _)); refine blk_far ?_ NB226_254.out _; (with_reducible repeat (first | refine blk_drewN ?_ _ | refine blk_drew ?_ | refine blk_alloc ?_ _)); refine blk_far ?_ NB226_254.out _; (with_reducible repeat (first | refine blk_drewN ?_ _ | refine blk_drew ?_ | refine blk_alloc ?_ _)); refine blk_far ?_ NB226_254.out _; (with_reducible repeat (first | refine blk_drewN ?_ _ | refine blk_drew ?_ | refine blk_alloc ?_ _)); exact BK226.out))⟩; have n4_ : Aside0 (w87.heap[gb237]? = some (.cells #[.int .i64 t231, .slice Ao31 t232.length co31, .bool t235] 34 (0, 0))) := ⟨(by rw [hw]; exact (by (with_reducible repeat (first | refine blk_drewN ?_ _ | refine blk_drew ?_ | refine blk_alloc ?_ _)); refine blk_far ?_ NB237_254.out _; (with_reducible repeat (first | refine blk_drewN ?_ _ | refine blk_drew ?_ | refine blk_alloc ?_ _)); refine blk_far ?_ NB237_254.out _; (with_reducible repeat (first | refine blk_drewN ?_ _ | refine blk_drew ?_ | refine blk_alloc ?_ _)); refine blk_far ?_ NB237_254.out _; (with_reducible repeat (first | refine blk_drewN ?_ _ | refine blk_drew ?_ | refine blk_alloc ?_ _)); exact BK237.out))⟩; have n5_ : Aside0 (w87.heap[gb247]? = some (.cells #[.int .i64 t241, .slice Ao77 t242.length co77, .bool t245] 34 (0, 0))) := ⟨(by rw [hw]; exact (by (with_reducible repeat (first | refine blk_drewN ?_ _ | refine blk_drew ?_ | refine blk_alloc ?_ _)); refine blk_far ?_ NB247_254.out _; (with_reducible repeat (first | refine blk_drewN ?_ _ | refine blk_drew ?_ | refine blk_alloc ?_ _)); refine blk_far ?_ NB247_254.out _; (with_reducible repeat (first | refine blk_drewN ?_ _ | refine blk_drew ?_ | refine blk_alloc ?_ _)); refine blk_far ?_ NB247_254.out _; (with_reducible repeat (first | refine blk_drewN ?_ _ | refine blk_drew ?_ | refine blk_alloc ?_ _)); exact BK247.out))⟩; have n6_ : Aside0 (w87.heap[gb254]? = some (.cells #[.int .i64 t248, .slice Ao86 t249.length co86, .bool t252] 34 (0, 0))) := ⟨(by rw [hw]; exact (by (with_reducible repeat (first | refine blk_drewN ?_ _ | refine blk_drew ?_ | refine blk_alloc ?_ _)); refine blk_put (cs := #[.int .i64 t248, .slice Ao86 t249.length co86, .bool false]) ?_ 2 _ rfl; (with_reducible repeat (first | refine blk_drewN ?_ _ | refine blk_drew ?_ | refine blk_alloc ?_ _)); refine blk_put (cs := #[.int .i64 t248, .slice none 0 0, .bool false]) ?_ 1 _ rfl; (with_reducible repeat (first | refine blk_drewN ?_ _ | refine blk_drew ?_ | refine blk_alloc ?_ _)); refine blk_put (cs := #[.int .i64 0, .slice none 0 0, .bool false]) ?_ 0 _ rfl; (with_reducible repeat (first | refine blk_drewN ?_ _ | refine blk_drew ?_ | refine blk_alloc ?_ _)); exact BK254.out))⟩; have n7_ : Aside0 (Below w.heap.size w w87) := ⟨(by rw [hw]; exact (hB_ HB))⟩; clear hw; clear HO_238001; clear HO244; clear HO251; clear BK226; clear BK237; clear BK247; clear BK254; clear HB; have HO_238001 := n0_; have HO244 := n1_; have HO251 := n2_; have BK226 := n3_; have BK237 := n4_; have BK247 := n5_; have BK254 := n6_; have HB := n7_; clear n0_ n1_ n2_ n3_ n4_ n5_ n6_ n7_; have hcz88_0 : w87.cell? ⟨gb226, 0, none⟩ = some (.int .i64 a0_0) := (blk_cell BK226.out 0).trans rfl; have hcz88_1 : w87.cell? ⟨gb226, 1, none⟩ = some (.slice A0_1 l0_1.length c0_1) := (blk_cell BK226.out 1).trans rfl; have hcz88_2 : w87.cell? ⟨gb226, 2, none⟩ = some (.bool true) := (blk_cell BK226.out 2).trans rfl; have hfz88_0 := blk_frozen BK226.out 0; have hfz88_1 := blk_frozen BK226.out 1; have hfz88_2 := blk_frozen BK226.out 2) | ((with_reducible refine gate_callee (f := 19) rfl ?_); refine goesL_ (some 99) rfl rfl Try.func19 (by kernel_rfl) rfl #[.agg #[.int .i64 a0_0, .slice A0_1 l0_1.length c0_1, .bool true]] rfl am_ ?_; (with_reducible refine (queue_Take.calls a0_0 (fun k_ => k_ < w.heap.size) _ _ l0_1 true t255 t256 t259 t260 t261 _ ?side1 A54.out).mono ?_); (case side1 => exact Kd.V_mk HC0_1.out (Kd.F_below (Kd.C_F (Kd.heap_int .i64) HR0_1.out) (hB_ HB))); rintro e w89 ⟨v257, rfl, ho0, hb⟩; refine ⟨_, rfl, ?_⟩; have n0_ := Aside0.mk (Kd.R_below (rR_ HO_238001) hb); have n1_ := Aside0.mk (Kd.V_below (vV_ HO244) hb); have n2_ := Aside0.mk (Kd.V_below (vV_ HO251) hb); have n3_ := Aside0.mk (Kd.V_lower (Kd.V_mono (ok' := fun k_ => some k_ ≠ (.slice Ao31 t232.length co31 : Value).ownBlock ∧ k_ ≠ gb226 ∧ k_ ≠ gb237 ∧ k_ ≠ gb247 ∧ k_ ≠ gb254) ho0 (fun k_ hk_ => ⟨Or.elim hk_ (fun hs_ => fun e_ => Nat.not_le.2 hs_ (Kd.R_base HO_238001.out k_ e_.symm)) (fun hn_ => (Kd.fresh' (Kd.R_lt (rR_ HO_238001)) k_ hn_)), Or.elim hk_ (fun hs_ => fun e_ => Nat.not_le.2 hs_ (by rw [e_]; exact GW226.out)) (fun hn_ => (Kd.freshB (g := gb226) (o := .cells #[.int .i64 a0_0, .slice A0_1 l0_1.length c0_1, .bool true] 34 (0, 0)) (bk_ BK226) k_ hn_)), Or.elim hk_ (fun hs_ => fun e_ => Nat.not_le.2 hs_ (by rw [e_]; exact GW237.out)) (fun hn_ => (Kd.freshB (g := gb237) (o := .cells #[.int .i64 t231, .slice Ao31 t232.length co31, .bool t235] 34 (0, 0)) (bk_ BK237) k_ hn_)), Or.elim hk_ (fun hs_ => fun e_ => Nat.not_le.2 hs_ (by rw [e_]; exact GW247.out)) (fun hn_ => (Kd.freshB (g := gb247) (o := .cells #[.int .i64 t241, .slice Ao77 t242.length co77, .bool t245] 34 (0, 0)) (bk_ BK247) k_ hn_)), Or.elim hk_ (fun hs_ => fun e_ => Nat.not_le.2 hs_ (by rw [e_]; exact GW254.out)) (fun hn_ => (Kd.freshB (g := gb254) (o := .cells #[.int .i64 t248, .slice Ao86 t249.length co86, .bool t252] 34 (0, 0)) (bk_ BK254) k_ hn_))⟩)) (below_size (hB_ HB))); have n4_ := bB_ BK226 hb; have n5_ := bB_ BK237 hb; have n6_ := bB_ BK247 hb; have n7_ := bB_ BK254 hb; have n8_ := Aside0.mk (below_step (hB_ HB) hb); clear HO_238001; clear HO244; clear HO251; clear BK226; clear BK237; clear BK247; clear BK254; clear HB; have HO_238001 := n0_; have HO244 := n1_; have HO251 := n2_; have HO258 := n3_; have BK226 := n4_; have BK237 := n5_; have BK247 := n6_; have BK254 := n7_; have HB := n8_; clear n0_ n1_ n2_ n3_ n4_ n5_ n6_ n7_ n8_; (try clear hb); (try clear hb2); (try clear hk); (try clear hi); (try clear ho0)) | ((with_reducible refine gate_dst (N := 14) rfl ?_); (try (refine gate_guard (by rfl) ?_; dsimp only)); refine box_event ?hg (N := 14) ?hd (cs := #[.int .i64 0, .slice none 0 0, .bool false]) (t := 34) ?hr ?_; (case hd => rfl); (case hg => rfl); (case hr => first | (go_simp; done) | (go_simp; rfl)); intro gb262 hg w90 hbox hb; have n0_ := Aside0.mk (Kd.R_below (rR_ HO_238001) hb); have n1_ := Aside0.mk (Kd.V_below (Kd.V_elderB (vV_ HO244) gb262 (Nat.le_of_eq hg.symm)) hb); have n2_ := Aside0.mk (Kd.V_below (Kd.V_elderB (vV_ HO251) gb262 (Nat.le_of_eq hg.symm)) hb); have n3_ := Aside0.mk (Kd.V_below (Kd.V_elderB (vV_ HO258) gb262 (Nat.le_of_eq hg.symm)) hb); have n4_ := bB_ BK226 hb; have n5_ := bB_ BK237 hb; have n6_ := bB_ BK247 hb; have n7_ := bB_ BK254 hb; have n8_ := Aside0.mk (below_step (hB_ HB) hb); have n9_ := Aside0.mk (hbox); have n10_ := Aside0.mk ((by rw [hg]; exact (below_size (hB_ HB)) : w.heap.size ≤ gb262)); have n11_ := Aside0.mk ((by rw [hg]; exact (below_size (hB_ HB)) : w.heap.size ≤ gb262)); have n12_ := Aside0.mk ((by rw [hg]; exact Nat.ne_of_lt (blk_lt (g := gb226) (o := .cells #[.int .i64 a0_0, .slice A0_1 l0_1.length c0_1, .bool true] 34 (0, 0)) (bk_ BK226)) : gb226 ≠ gb262)); have n13_ := Aside0.mk ((by rw [hg]; exact Nat.ne_of_gt (blk_lt (g := gb226) (o := .cells #[.int .i64 a0_0, .slice A0_1 l0_1.length c0_1, .bool true] 34 (0, 0)) (bk_ BK226)) : gb262 ≠ gb226)); have n14_ := Aside0.mk ((by rw [hg]; exact Nat.ne_of_lt (blk_lt (g := gb237) (o := .cells #[.int .i64 t231, .slice Ao31 t232.length co31, .bool t235] 34 (0, 0)) (bk_ BK237)) : gb237 ≠ gb262)); have n15_ := Aside0.mk ((by rw [hg]; exact Nat.ne_of_gt (blk_lt (g := gb237) (o := .cells #[.int .i64 t231, .slice Ao31 t232.length co31, .bool t235] 34 (0, 0)) (bk_ BK237)) : gb262 ≠ gb237)); have n16_ := Aside0.mk ((by rw [hg]; exact Nat.ne_of_lt (blk_lt (g := gb247) (o := .cells #[.int .i64 t241, .slice Ao77 t242.length co77, .bool t245] 34 (0, 0)) (bk_ BK247)) : gb247 ≠ gb262)); have n17_ := Aside0.mk ((by rw [hg]; exact Nat.ne_of_gt (blk_lt (g := gb247) (o := .cells #[.int .i64 t241, .slice Ao77 t242.length co77, .bool t245] 34 (0, 0)) (bk_ BK247)) : gb262 ≠ gb247)); have n18_ := Aside0.mk ((by rw [hg]; exact Nat.ne_of_lt (blk_lt (g := gb254) (o := .cells #[.int .i64 t248, .slice Ao86 t249.length co86, .bool t252] 34 (0, 0)) (bk_ BK254)) : gb254 ≠ gb262)); have n19_ := Aside0.mk ((by rw [hg]; exact Nat.ne_of_gt (blk_lt (g := gb254) (o := .cells #[.int .i64 t248, .slice Ao86 t249.length co86, .bool t252] 34 (0, 0)) (bk_ BK254)) : gb262 ≠ gb254)); clear HO_238001; clear HO244; clear HO251; clear HO258; clear BK226; clear BK237; clear BK247; clear BK254; clear HB; have HO_238001 := n0_; have HO244 := n1_; have HO251 := n2_; have HO258 := n3_; have BK226 := n4_; have BK237 := n5_; have BK247 := n6_; have BK254 := n7_; have HB := n8_; have BK262 := n9_; have GW262 := n10_; have GE262 := n11_; have NB226_262 := n12_; have NB262_226 := n13_; have NB237_262 := n14_; have NB262_237 := n15_; have NB247_262 := n16_; have NB262_247 := n17_; have NB254_262 := n18_; have NB262_254 := n19_; clear n0_ n1_ n2_ n3_ n4_ n5_ n6_ n7_ n8_ n9_ n10_ n11_ n12_ n13_ n14_ n15_ n16_ n17_ n18_ n19_; clear hb hbox hg; have hnb91 := NB262_226.out; have hnc91 := NB226_262.out; have hnb92 := NB262_237.out; have hnc92 := NB237_262.out; have hnb93 := NB262_247.out; have hnc93 := NB247_262.out; have hnb94 := NB262_254.out; have hnc94 := NB254_262.out; have hcz95_0 : w90.cell? ⟨gb262, 0, none⟩ = some (.int .i64 0) := (blk_cell BK262.out 0).trans rfl; have hcz95_1 : w90.cell? ⟨gb262, 1, none⟩ = some (.slice none 0 0) := (blk_cell BK262.out 1).trans rfl; have hcz95_2 : w90.cell? ⟨gb262, 2, none⟩ = some (.bool false) := (blk_cell BK262.out 2).trans rfl; have hfz95_0 := blk_frozen BK262.out 0; have hfz95_1 := blk_frozen BK262.out 1; have hfz95_2 := blk_frozen BK262.out 2; obtain ⟨Ao96, co96, eo96⟩ := Kd.V_slice HO258.out; subst eo96) | ((with_reducible refine gate_store (t := 34) (p := 14) rfl ?_); refine store_event (t := 34) (p := 14) (v := ?vo_w97) (w1 := (((w90.setCell ⟨gb262, 0, none⟩ (.int .i64 t255)).setCell ⟨gb262, 1, none⟩ (.slice Ao96 t256.length co96)).setCell ⟨gb262, 2, none⟩ (.bool t259))) ?hg ?ho ?hn ?hr ?_; (case ho => rfl); (case hg => rfl); (case hn => rfl); (case hr => first | (go_simp; done) | (go_simp; rfl)); intro w97 hw; have n0_ : Aside0 (Kd.R (Kd.int .i64) 3 w97 w.heap.size (fun _ => True) (.slice Ao31 t232.length co31) t232) := ⟨(by rw [hw]; exact (by (with_reducible repeat (first | apply Kd.R_alloc | apply Kd.R_drewN | apply Kd.R_drew)); exact Kd.R_mono (Kd.R_far (p := ⟨gb262, 2, none⟩) (Kd.R_far (p := ⟨gb262, 1, none⟩) (Kd.R_far (p := ⟨gb262, 0, none⟩) (Kd.R_types HO_238001.out BK262.out (by decide)) (fun _ hk => hk.2) (.int .i64 t255)) (fun _ hk => hk.2) (.slice Ao96 t256.length co96)) (fun _ hk => hk.2) (.bool t259)) (fun _ hk => trivial)))⟩; have n1_ : Aside0 (Kd.V (Kd.int .i64) 3 w97 w.heap.size (fun k_ => some k_ ≠ (.slice Ao31 t232.length co31 : Value).ownBlock ∧ k_ ≠ gb226 ∧ k_ ≠ gb237 ∧ k_ ≠ gb247 ∧ k_ ≠ gb254 ∧ k_ ≠ gb262) (.slice Ao77 t242.length co77) t242) := ⟨(by rw [hw]; exact (by (with_reducible repeat (first | apply Kd.V_alloc | apply Kd.V_drewN | apply Kd.V_drew)); exact Kd.V_mono (Kd.V_far (p := ⟨gb262, 2, none⟩) (Kd.V_far (p := ⟨gb262, 1, none⟩) (Kd.V_far (p := ⟨gb262, 0, none⟩) (Kd.V_mono HO244.out (fun k_ hk => (⟨hk, hk.2⟩ : _ ∧ k_ ≠ gb262))) (fun _ hk => hk.2) (.int .i64 t255)) (fun _ hk => hk.2) (.slice Ao96 t256.length co96)) (fun _ hk => hk.2) (.bool t259)) (fun _ hk => ⟨hk.1.1.1, ⟨hk.1.1.2.1, ⟨hk.1.1.2.2.1, ⟨hk.1.1.2.2.2.1, ⟨hk.1.1.2.2.2.2, hk.1.2⟩⟩⟩⟩⟩)))⟩; have n2_ : Aside0 (Kd.V (Kd.int .i64) 3 w97 w.heap.size (fun k_ => some k_ ≠ (.slice Ao31 t232.length co31 : Value).ownBlock ∧ k_ ≠ gb226 ∧ k_ ≠ gb237 ∧ k_ ≠ gb247 ∧ k_ ≠ gb254 ∧ k_ ≠ gb262) (.slice Ao86 t249.length co86) t249) := ⟨(by rw [hw]; exact (by (with_reducible repeat (first | apply Kd.V_alloc | apply Kd.V_drewN | apply Kd.V_drew)); exact Kd.V_mono (Kd.V_far (p := ⟨gb262, 2, none⟩) (Kd.V_far (p := ⟨gb262, 1, none⟩) (Kd.V_far (p := ⟨gb262, 0, none⟩) (Kd.V_mono HO251.out (fun k_ hk => (⟨hk, hk.2⟩ : _ ∧ k_ ≠ gb262))) (fun _ hk => hk.2) (.int .i64 t255)) (fun _ hk => hk.2) (.slice Ao96 t256.length co96)) (fun _ hk => hk.2) (.bool t259)) (fun _ hk => ⟨hk.1.1.1, ⟨hk.1.1.2.1, ⟨hk.1.1.2.2.1, ⟨hk.1.1.2.2.2.1, ⟨hk.1.1.2.2.2.2, hk.1.2⟩⟩⟩⟩⟩)))⟩; have n3_ : Aside0 (Kd.V (Kd.int .i64) 3 w97 w.heap.size (fun k_ => some k_ ≠ (.slice Ao31 t232.length co31 : Value).ownBlock ∧ k_ ≠ gb226 ∧ k_ ≠ gb237 ∧ k_ ≠ gb247 ∧ k_ ≠ gb254 ∧ k_ ≠ gb262) (.slice Ao96 t256.length co96) t256) := ⟨(by rw [hw]; exact (by (with_reducible repeat (first | apply Kd.V_alloc | apply Kd.V_drewN | apply Kd.V_drew)); exact Kd.V_mono (Kd.V_far (p := ⟨gb262, 2, none⟩) (Kd.V_far (p := ⟨gb262, 1, none⟩) (Kd.V_far (p := ⟨gb262, 0, none⟩) (Kd.V_mono HO258.out (fun k_ hk => (⟨hk, hk.2⟩ : _ ∧ k_ ≠ gb262))) (fun _ hk => hk.2) (.int .i64 t255)) (fun _ hk => hk.2) (.slice Ao96 t256.length co96)) (fun _ hk => hk.2) (.bool t259)) (fun _ hk => ⟨hk.1.1.1, ⟨hk.1.1.2.1, ⟨hk.1.1.2.2.1, ⟨hk.1.1.2.2.2.1, ⟨hk.1.1.2.2.2.2, hk.1.2⟩⟩⟩⟩⟩)))⟩; have n4_ : Aside0 (w97.heap[gb226]? = some (.cells #[.int .i64 a0_0, .slice A0_1 l0_1.length c0_1, .bool true] 34 (0, 0))) := ⟨(by rw [hw]; exact (by (with_reducible repeat (first | refine blk_drewN ?_ _ | refine blk_drew ?_ | refine blk_alloc ?_ _)); refine blk_far ?_ NB226_262.out _; (with_reducible repeat (first | refine blk_drewN ?_ _ | refine blk_drew ?_ | refine blk_alloc ?_ _)); refine blk_far ?_ NB226_262.out _; (with_reducible repeat (first | refine blk_drewN ?_ _ | refine blk_drew ?_ | refine blk_alloc ?_ _)); refine blk_far ?_ NB226_262.out _; (with_reducible repeat (first | refine blk_drewN ?_ _ | refine blk_drew ?_ | refine blk_alloc ?_ _)); exact BK226.out))⟩; have n5_ : Aside0 (w97.heap[gb237]? = some (.cells #[.int .i64 t231, .slice Ao31 t232.length co31, .bool t235] 34 (0, 0))) := ⟨(by rw [hw]; exact (by (with_reducible repeat (first | refine blk_drewN ?_ _ | refine blk_drew ?_ | refine blk_alloc ?_ _)); refine blk_far ?_ NB237_262.out _; (with_reducible repeat (first | refine blk_drewN ?_ _ | refine blk_drew ?_ | refine blk_alloc ?_ _)); refine blk_far ?_ NB237_262.out _; (with_reducible repeat (first | refine blk_drewN ?_ _ | refine blk_drew ?_ | refine blk_alloc ?_ _)); refine blk_far ?_ NB237_262.out _; (with_reducible repeat (first | refine blk_drewN ?_ _ | refine blk_drew ?_ | refine blk_alloc ?_ _)); exact BK237.out))⟩; have n6_ : Aside0 (w97.heap[gb247]? = some (.cells #[.int .i64 t241, .slice Ao77 t242.length co77, .bool t245] 34 (0, 0))) := ⟨(by rw [hw]; exact (by (with_reducible repeat (first | refine blk_drewN ?_ _ | refine blk_drew ?_ | refine blk_alloc ?_ _)); refine blk_far ?_ NB247_262.out _; (with_reducible repeat (first | refine blk_drewN ?_ _ | refine blk_drew ?_ | refine blk_alloc ?_ _)); refine blk_far ?_ NB247_262.out _; (with_reducible repeat (first | refine blk_drewN ?_ _ | refine blk_drew ?_ | refine blk_alloc ?_ _)); refine blk_far ?_ NB247_262.out _; (with_reducible repeat (first | refine blk_drewN ?_ _ | refine blk_drew ?_ | refine blk_alloc ?_ _)); exact BK247.out))⟩; have n7_ : Aside0 (w97.heap[gb254]? = some (.cells #[.int .i64 t248, .slice Ao86 t249.length co86, .bool t252] 34 (0, 0))) := ⟨(by rw [hw]; exact (by (with_reducible repeat (first | refine blk_drewN ?_ _ | refine blk_drew ?_ | refine blk_alloc ?_ _)); refine blk_far ?_ NB254_262.out _; (with_reducible repeat (first | refine blk_drewN ?_ _ | refine blk_drew ?_ | refine blk_alloc ?_ _)); refine blk_far ?_ NB254_262.out _; (with_reducible repeat (first | refine blk_drewN ?_ _ | refine blk_drew ?_ | refine blk_alloc ?_ _)); refine blk_far ?_ NB254_262.out _; (with_reducible repeat (first | refine blk_drewN ?_ _ | refine blk_drew ?_ | refine blk_alloc ?_ _)); exact BK254.out))⟩; have n8_ : Aside0 (w97.heap[gb262]? = some (.cells #[.int .i64 t255, .slice Ao96 t256.length co96, .bool t259] 34 (0, 0))) := ⟨(by rw [hw]; exact (by (with_reducible repeat (first | refine blk_drewN ?_ _ | refine blk_drew ?_ | refine blk_alloc ?_ _)); refine blk_put (cs := #[.int .i64 t255, .slice Ao96 t256.length co96, .bool false]) ?_ 2 _ rfl; (with_reducible repeat (first | refine blk_drewN ?_ _ | refine blk_drew ?_ | refine blk_alloc ?_ _)); refine blk_put (cs := #[.int .i64 t255, .slice none 0 0, .bool false]) ?_ 1 _ rfl; (with_reducible repeat (first | refine blk_drewN ?_ _ | refine blk_drew ?_ | refine blk_alloc ?_ _)); refine blk_put (cs := #[.int .i64 0, .slice none 0 0, .bool false]) ?_ 0 _ rfl; (with_reducible repeat (first | refine blk_drewN ?_ _ | refine blk_drew ?_ | refine blk_alloc ?_ _)); exact BK262.out))⟩; have n9_ : Aside0 (Below w.heap.size w w97) := ⟨(by rw [hw]; exact (hB_ HB))⟩; clear hw; clear HO_238001; clear HO244; clear HO251; clear HO258; clear BK226; clear BK237; clear BK247; clear BK254; clear BK262; clear HB; have HO_238001 := n0_; have HO244 := n1_; have HO251 := n2_; have HO258 := n3_; have BK226 := n4_; have BK237 := n5_; have BK247 := n6_; have BK254 := n7_; have BK262 := n8_; have HB := n9_; clear n0_ n1_ n2_ n3_ n4_ n5_ n6_ n7_ n8_ n9_; have hcz98_0 : w97.cell? ⟨gb226, 0, none⟩ = some (.int .i64 a0_0) := (blk_cell BK226.out 0).trans rfl; have hcz98_1 : w97.cell? ⟨gb226, 1, none⟩ = some (.slice A0_1 l0_1.length c0_1) := (blk_cell BK226.out 1).trans rfl; have hcz98_2 : w97.cell? ⟨gb226, 2, none⟩ = some (.bool true) := (blk_cell BK226.out 2).trans rfl; have hfz98_0 := blk_frozen BK226.out 0; have hfz98_1 := blk_frozen BK226.out 1; have hfz98_2 := blk_frozen BK226.out 2) | ((with_reducible refine gate_callee (f := 20) rfl ?_); refine goesL_ (some 105) rfl rfl Try.func20 (by kernel_rfl) rfl #[.agg #[.int .i64 a0_0, .slice A0_1 l0_1.length c0_1, .bool true]] rfl am_ ?_; (with_reducible refine (lodgerref03_Take.calls a0_0 (fun k_ => k_ < w.heap.size) _ _ l0_1 true t263 t264 t267 t268 t269 _ ?side1 A55.out).mono ?_); (case side1 => exact Kd.V_mk HC0_1.out (Kd.F_below (Kd.C_F (Kd.heap_int .i64) HR0_1.out) (hB_ HB))); rintro e w99 ⟨v265, rfl, ho0, hb⟩; refine ⟨_, rfl, ?_⟩; have n0_ := Aside0.mk (Kd.R_below (rR_ HO_238001) hb); have n1_ := Aside0.mk (Kd.V_below (vV_ HO244) hb); have n2_ := Aside0.mk (Kd.V_below (vV_ HO251) hb); have n3_ := Aside0.mk (Kd.V_below (vV_ HO258) hb); have n4_ := Aside0.mk (Kd.V_lower (Kd.V_mono (ok' := fun k_ => some k_ ≠ (.slice Ao31 t232.length co31 : Value).ownBlock ∧ k_ ≠ gb226 ∧ k_ ≠ gb237 ∧ k_ ≠ gb247 ∧ k_ ≠ gb254 ∧ k_ ≠ gb262) ho0 (fun k_ hk_ => ⟨Or.elim hk_ (fun hs_ => fun e_ => Nat.not_le.2 hs_ (Kd.R_base HO_238001.out k_ e_.symm)) (fun hn_ => (Kd.fresh' (Kd.R_lt (rR_ HO_238001)) k_ hn_)), Or.elim hk_ (fun hs_ => fun e_ => Nat.not_le.2 hs_ (by rw [e_]; exact GW226.out)) (fun hn_ => (Kd.freshB (g := gb226) (o := .cells #[.int .i64 a0_0, .slice A0_1 l0_1.length c0_1, .bool true] 34 (0, 0)) (bk_ BK226) k_ hn_)), Or.elim hk_ (fun hs_ => fun e_ => Nat.not_le.2 hs_ (by rw [e_]; exact GW237.out)) (fun hn_ => (Kd.freshB (g := gb237) (o := .cells #[.int .i64 t231, .slice Ao31 t232.length co31, .bool t235] 34 (0, 0)) (bk_ BK237) k_ hn_)), Or.elim hk_ (fun hs_ => fun e_ => Nat.not_le.2 hs_ (by rw [e_]; exact GW247.out)) (fun hn_ => (Kd.freshB (g := gb247) (o := .cells #[.int .i64 t241, .slice Ao77 t242.length co77, .bool t245] 34 (0, 0)) (bk_ BK247) k_ hn_)), Or.elim hk_ (fun hs_ => fun e_ => Nat.not_le.2 hs_ (by rw [e_]; exact GW254.out)) (fun hn_ => (Kd.freshB (g := gb254) (o := .cells #[.int .i64 t248, .slice Ao86 t249.length co86, .bool t252] 34 (0, 0)) (bk_ BK254) k_ hn_)), Or.elim hk_ (fun hs_ => fun e_ => Nat.not_le.2 hs_ (by rw [e_]; exact GW262.out)) (fun hn_ => (Kd.freshB (g := gb262) (o := .cells #[.int .i64 t255, .slice Ao96 t256.length co96, .bool t259] 34 (0, 0)) (bk_ BK262) k_ hn_))⟩)) (below_size (hB_ HB))); have n5_ := bB_ BK226 hb; have n6_ := bB_ BK237 hb; have n7_ := bB_ BK247 hb; have n8_ := bB_ BK254 hb; have n9_ := bB_ BK262 hb; have n10_ := Aside0.mk (below_step (hB_ HB) hb); clear HO_238001; clear HO244; clear HO251; clear HO258; clear BK226; clear BK237; clear BK247; clear BK254; clear BK262; clear HB; have HO_238001 := n0_; have HO244 := n1_; have HO251 := n2_; have HO258 := n3_; have HO266 := n4_; have BK226 := n5_; have BK237 := n6_; have BK247 := n7_; have BK254 := n8_; have BK262 := n9_; have HB := n10_; clear n0_ n1_ n2_ n3_ n4_ n5_ n6_ n7_ n8_ n9_ n10_; (try clear hb); (try clear hb2); (try clear hk); (try clear hi); (try clear ho0)) | ((with_reducible refine gate_dst (N := 17) rfl ?_); (try (refine gate_guard (by rfl) ?_; dsimp only)); refine box_event ?hg (N := 17) ?hd (cs := #[.int .i64 0, .slice none 0 0, .bool false]) (t := 34) ?hr ?_; (case hd => rfl); (case hg => rfl); (case hr => first | (go_simp; done) | (go_simp; rfl)); intro gb270 hg w100 hbox hb; have n0_ := Aside0.mk (Kd.R_below (rR_ HO_238001) hb); have n1_ := Aside0.mk (Kd.V_below (Kd.V_elderB (vV_ HO244) gb270 (Nat.le_of_eq hg.symm)) hb); have n2_ := Aside0.mk (Kd.V_below (Kd.V_elderB (vV_ HO251) gb270 (Nat.le_of_eq hg.symm)) hb); have n3_ := Aside0.mk (Kd.V_below (Kd.V_elderB (vV_ HO258) gb270 (Nat.le_of_eq hg.symm)) hb); have n4_ := Aside0.mk (Kd.V_below (Kd.V_elderB (vV_ HO266) gb270 (Nat.le_of_eq hg.symm)) hb); have n5_ := bB_ BK226 hb; have n6_ := bB_ BK237 hb; have n7_ := bB_ BK247 hb; have n8_ := bB_ BK254 hb; have n9_ := bB_ BK262 hb; have n10_ := Aside0.mk (below_step (hB_ HB) hb); have n11_ := Aside0.mk (hbox); have n12_ := Aside0.mk ((by rw [hg]; exact (below_size (hB_ HB)) : w.heap.size ≤ gb270)); have n13_ := Aside0.mk ((by rw [hg]; exact (below_size (hB_ HB)) : w.heap.size ≤ gb270)); have n14_ := Aside0.mk ((by rw [hg]; exact Nat.ne_of_lt (blk_lt (g := gb226) (o := .cells #[.int .i64 a0_0, .slice A0_1 l0_1.length c0_1, .bool true] 34 (0, 0)) (bk_ BK226)) : gb226 ≠ gb270)); have n15_ := Aside0.mk ((by rw [hg]; exact Nat.ne_of_gt (blk_lt (g := gb226) (o := .cells #[.int .i64 a0_0, .slice A0_1 l0_1.length c0_1, .bool true] 34 (0, 0)) (bk_ BK226)) : gb270 ≠ gb226)); have n16_ := Aside0.mk ((by rw [hg]; exact Nat.ne_of_lt (blk_lt (g := gb237) (o := .cells #[.int .i64 t231, .slice Ao31 t232.length co31, .bool t235] 34 (0, 0)) (bk_ BK237)) : gb237 ≠ gb270)); have n17_ := Aside0.mk ((by rw [hg]; exact Nat.ne_of_gt (blk_lt (g := gb237) (o := .cells #[.int .i64 t231, .slice Ao31 t232.length co31, .bool t235] 34 (0, 0)) (bk_ BK237)) : gb270 ≠ gb237)); have n18_ := Aside0.mk ((by rw [hg]; exact Nat.ne_of_lt (blk_lt (g := gb247) (o := .cells #[.int .i64 t241, .slice Ao77 t242.length co77, .bool t245] 34 (0, 0)) (bk_ BK247)) : gb247 ≠ gb270)); have n19_ := Aside0.mk ((by rw [hg]; exact Nat.ne_of_gt (blk_lt (g := gb247) (o := .cells #[.int .i64 t241, .slice Ao77 t242.length co77, .bool t245] 34 (0, 0)) (bk_ BK247)) : gb270 ≠ gb247)); have n20_ := Aside0.mk ((by rw [hg]; exact Nat.ne_of_lt (blk_lt (g := gb254) (o := .cells #[.int .i64 t248, .slice Ao86 t249.length co86, .bool t252] 34 (0, 0)) (bk_ BK254)) : gb254 ≠ gb270)); have n21_ := Aside0.mk ((by rw [hg]; exact Nat.ne_of_gt (blk_lt (g := gb254) (o := .cells #[.int .i64 t248, .slice Ao86 t249.length co86, .bool t252] 34 (0, 0)) (bk_ BK254)) : gb270 ≠ gb254)); have n22_ := Aside0.mk ((by rw [hg]; exact Nat.ne_of_lt (blk_lt (g := gb262) (o := .cells #[.int .i64 t255, .slice Ao96 t256.length co96, .bool t259] 34 (0, 0)) (bk_ BK262)) : gb262 ≠ gb270)); have n23_ := Aside0.mk ((by rw [hg]; exact Nat.ne_of_gt (blk_lt (g := gb262) (o := .cells #[.int .i64 t255, .slice Ao96 t256.length co96, .bool t259] 34 (0, 0)) (bk_ BK262)) : gb270 ≠ gb262)); clear HO_238001; clear HO244; clear HO251; clear HO258; clear HO266; clear BK226; clear BK237; clear BK247; clear BK254; clear BK262; clear HB; have HO_238001 := n0_; have HO244 := n1_; have HO251 := n2_; have HO258 := n3_; have HO266 := n4_; have BK226 := n5_; have BK237 := n6_; have BK247 := n7_; have BK254 := n8_; have BK262 := n9_; have HB := n10_; have BK270 := n11_; have GW270 := n12_; have GE270 := n13_; have NB226_270 := n14_; have NB270_226 := n15_; have NB237_270 := n16_; have NB270_237 := n17_; have NB247_270 := n18_; have NB270_247 := n19_; have NB254_270 := n20_; have NB270_254 := n21_; have NB262_270 := n22_; have NB270_262 := n23_; clear n0_ n1_ n2_ n3_ n4_ n5_ n6_ n7_ n8_ n9_ n10_ n11_ n12_ n13_ n14_ n15_ n16_ n17_ n18_ n19_ n20_ n21_ n22_ n23_; clear hb hbox hg; have hnb101 := NB270_226.out; have hnc101 := NB226_270.out; have hnb102 := NB270_237.out; have hnc102 := NB237_270.out; have hnb103 := NB270_247.out; have hnc103 := NB247_270.out; have hnb104 := NB270_254.out; have hnc104 := NB254_270.out; have hnb105 := NB270_262.out; have hnc105 := NB262_270.out; have hcz106_0 : w100.cell? ⟨gb270, 0, none⟩ = some (.int .i64 0) := (blk_cell BK270.out 0).trans rfl; have hcz106_1 : w100.cell? ⟨gb270, 1, none⟩ = some (.slice none 0 0) := (blk_cell BK270.out 1).trans rfl; have hcz106_2 : w100.cell? ⟨gb270, 2, none⟩ = some (.bool false) := (blk_cell BK270.out 2).trans rfl; have hfz106_0 := blk_frozen BK270.out 0; have hfz106_1 := blk_frozen BK270.out 1; have hfz106_2 := blk_frozen BK270.out 2; obtain ⟨Ao107, co107, eo107⟩ := Kd.V_slice HO266.out; subst eo107; have hcz108_0 : w100.cell? ⟨gb226, 0, none⟩ = some (.int .i64 a0_0) := (blk_cell BK226.out 0).trans rfl; have hcz108_1 : w100.cell? ⟨gb226, 1, none⟩ = some (.slice A0_1 l0_1.length c0_1) := (blk_cell BK226.out 1).trans rfl; have hcz108_2 : w100.cell? ⟨gb226, 2, none⟩ = some (.bool true) := (blk_cell BK226.out 2).trans rfl; have hfz108_0 := blk_frozen BK226.out 0; have hfz108_1 := blk_frozen BK226.out 1; have hfz108_2 := blk_frozen BK226.out 2) | ((with_reducible refine gate_dst (N := 20) rfl ?_); (try (refine gate_guard (by rfl) ?_; dsimp only)); refine box_event ?hg (N := 20) ?hd (cs := #[.int .i64 0, .slice none 0 0, .bool false]) (t := 34) ?hr ?_; (case hd => rfl); (case hg => rfl); (case hr => first | (go_simp; done) | (go_simp; rfl)); intro gb271 hg w109 hbox hb; have n0_ := Aside0.mk (Kd.R_below (by (with_reducible repeat (first | apply Kd.R_alloc | apply Kd.R_drewN | apply Kd.R_drew)); exact (Kd.R_mono (Kd.R_far (p := ⟨gb270, 2, none⟩) (Kd.R_far (p := ⟨gb270, 1, none⟩) (Kd.R_far (p := ⟨gb270, 0, none⟩) (Kd.R_types HO_238001.out BK270.out (by decide)) (fun _ hk => hk.2) (.int .i64 t263)) (fun _ hk => hk.2) (.slice Ao107 t264.length co107)) (fun _ hk => hk.2) (.bool t267)) (fun _ h_ => h_.1))) hb); have n1_ := Aside0.mk (Kd.V_below (Kd.V_elderB (by (with_reducible repeat (first | apply Kd.V_alloc | apply Kd.V_drewN | apply Kd.V_drew)); exact (Kd.V_mono (Kd.V_far (p := ⟨gb270, 2, none⟩) (Kd.V_far (p := ⟨gb270, 1, none⟩) (Kd.V_far (p := ⟨gb270, 0, none⟩) (Kd.V_mono HO244.out (fun k_ hk => (⟨hk, hk.2⟩ : _ ∧ k_ ≠ gb270))) (fun _ hk => hk.2) (.int .i64 t263)) (fun _ hk => hk.2) (.slice Ao107 t264.length co107)) (fun _ hk => hk.2) (.bool t267)) (fun _ h_ => h_.1))) gb271 (Nat.le_of_eq hg.symm)) hb); have n2_ := Aside0.mk (Kd.V_below (Kd.V_elderB (by (with_reducible repeat (first | apply Kd.V_alloc | apply Kd.V_drewN | apply Kd.V_drew)); exact (Kd.V_mono (Kd.V_far (p := ⟨gb270, 2, none⟩) (Kd.V_far (p := ⟨gb270, 1, none⟩) (Kd.V_far (p := ⟨gb270, 0, none⟩) (Kd.V_mono HO251.out (fun k_ hk => (⟨hk, hk.2⟩ : _ ∧ k_ ≠ gb270))) (fun _ hk => hk.2) (.int .i64 t263)) (fun _ hk => hk.2) (.slice Ao107 t264.length co107)) (fun _ hk => hk.2) (.bool t267)) (fun _ h_ => h_.1))) gb271 (Nat.le_of_eq hg.symm)) hb); have n3_ := Aside0.mk (Kd.V_below (Kd.V_elderB (by (with_reducible repeat (first | apply Kd.V_alloc | apply Kd.V_drewN | apply Kd.V_drew)); exact (Kd.V_mono (Kd.V_far (p := ⟨gb270, 2, none⟩) (Kd.V_far (p := ⟨gb270, 1, none⟩) (Kd.V_far (p := ⟨gb270, 0, none⟩) (Kd.V_mono HO258.out (fun k_ hk => (⟨hk, hk.2⟩ : _ ∧ k_ ≠ gb270))) (fun _ hk => hk.2) (.int .i64 t263)) (fun _ hk => hk.2) (.slice Ao107 t264.length co107)) (fun _ hk => hk.2) (.bool t267)) (fun _ h_ => h_.1))) gb271 (Nat.le_of_eq hg.symm)) hb); have n4_ := Aside0.mk (Kd.V_below (Kd.V_elderB (by (with_reducible repeat (first | apply Kd.V_alloc | apply Kd.V_drewN | apply Kd.V_drew)); exact (Kd.V_mono (Kd.V_far (p := ⟨gb270, 2, none⟩) (Kd.V_far (p := ⟨gb270, 1, none⟩) (Kd.V_far (p := ⟨gb270, 0, none⟩) (Kd.V_mono HO266.out (fun k_ hk => (⟨hk, hk.2⟩ : _ ∧ k_ ≠ gb270))) (fun _ hk => hk.2) (.int .i64 t263)) (fun _ hk => hk.2) (.slice Ao107 t264.length co107)) (fun _ hk => hk.2) (.bool t267)) (fun _ h_ => h_.1))) gb271 (Nat.le_of_eq hg.symm)) hb); have n5_ := Aside0.mk (blk_below (g := gb226) (o := .cells #[.int .i64 a0_0, .slice A0_1 l0_1.length c0_1, .bool true] 34 (0, 0)) (by (with_reducible repeat (first | refine blk_drewN ?_ _ | refine blk_drew ?_ | refine blk_alloc ?_ _)); refine blk_far ?_ NB226_270.out _; (with_reducible repeat (first | refine blk_drewN ?_ _ | refine blk_drew ?_ | refine blk_alloc ?_ _)); refine blk_far ?_ NB226_270.out _; (with_reducible repeat (first | refine blk_drewN ?_ _ | refine blk_drew ?_ | refine blk_alloc ?_ _)); refine blk_far ?_ NB226_270.out _; (with_reducible repeat (first | refine blk_drewN ?_ _ | refine blk_drew ?_ | refine blk_alloc ?_ _)); exact BK226.out) hb); have n6_ := Aside0.mk (blk_below (g := gb237) (o := .cells #[.int .i64 t231, .slice Ao31 t232.length co31, .bool t235] 34 (0, 0)) (by (with_reducible repeat (first | refine blk_drewN ?_ _ | refine blk_drew ?_ | refine blk_alloc ?_ _)); refine blk_far ?_ NB237_270.out _; (with_reducible repeat (first | refine blk_drewN ?_ _ | refine blk_drew ?_ | refine blk_alloc ?_ _)); refine blk_far ?_ NB237_270.out _; (with_reducible repeat (first | refine blk_drewN ?_ _ | refine blk_drew ?_ | refine blk_alloc ?_ _)); refine blk_far ?_ NB237_270.out _; (with_reducible repeat (first | refine blk_drewN ?_ _ | refine blk_drew ?_ | refine blk_alloc ?_ _)); exact BK237.out) hb); have n7_ := Aside0.mk (blk_below (g := gb247) (o := .cells #[.int .i64 t241, .slice Ao77 t242.length co77, .bool t245] 34 (0, 0)) (by (with_reducible repeat (first | refine blk_drewN ?_ _ | refine blk_drew ?_ | refine blk_alloc ?_ _)); refine blk_far ?_ NB247_270.out _; (with_reducible repeat (first | refine blk_drewN ?_ _ | refine blk_drew ?_ | refine blk_alloc ?_ _)); refine blk_far ?_ NB247_270.out _; (with_reducible repeat (first | refine blk_drewN ?_ _ | refine blk_drew ?_ | refine blk_alloc ?_ _)); refine blk_far ?_ NB247_270.out _; (with_reducible repeat (first | refine blk_drewN ?_ _ | refine blk_drew ?_ | refine blk_alloc ?_ _)); exact BK247.out) hb); have n8_ := Aside0.mk (blk_below (g := gb254) (o := .cells #[.int .i64 t248, .slice Ao86 t249.length co86, .bool t252] 34 (0, 0)) (by (with_reducible repeat (first | refine blk_drewN ?_ _ | refine blk_drew ?_ | refine blk_alloc ?_ _)); refine blk_far ?_ NB254_270.out _; (with_reducible repeat (first | refine blk_drewN ?_ _ | refine blk_drew ?_ | refine blk_alloc ?_ _)); refine blk_far ?_ NB254_270.out _; (with_reducible repeat (first | refine blk_drewN ?_ _ | refine blk_drew ?_ | refine blk_alloc ?_ _)); refine blk_far ?_ NB254_270.out _; (with_reducible repeat (first | refine blk_drewN ?_ _ | refine blk_drew ?_ | refine blk_alloc ?_ _)); exact BK254.out) hb); have n9_ := Aside0.mk (blk_below (g := gb262) (o := .cells #[.int .i64 t255, .slice Ao96 t256.length co96, .bool t259] 34 (0, 0)) (by (with_reducible repeat (first | refine blk_drewN ?_ _ | refine blk_drew ?_ | refine blk_alloc ?_ _)); refine blk_far ?_ NB262_270.out _; (with_reducible repeat (first | refine blk_drewN ?_ _ | refine blk_drew ?_ | refine blk_alloc ?_ _)); refine blk_far ?_ NB262_270.out _; (with_reducible repeat (first | refine blk_drewN ?_ _ | refine blk_drew ?_ | refine blk_alloc ?_ _)); refine blk_far ?_ NB262_270.out _; (with_reducible repeat (first | refine blk_drewN ?_ _ | refine blk_drew ?_ | refine blk_alloc ?_ _)); exact BK262.out) hb); have n10_ := Aside0.mk (blk_below (g := gb270) (o := .cells #[.int .i64 t263, .slice Ao107 t264.length co107, .bool t267] 34 (0, 0)) (by (with_reducible repeat (first | refine blk_drewN ?_ _ | refine blk_drew ?_ | refine blk_alloc ?_ _)); refine blk_put (cs := #[.int .i64 t263, .slice Ao107 t264.length co107, .bool false]) ?_ 2 _ rfl; (with_reducible repeat (first | refine blk_drewN ?_ _ | refine blk_drew ?_ | refine blk_alloc ?_ _)); refine blk_put (cs := #[.int .i64 t263, .slice none 0 0, .bool false]) ?_ 1 _ rfl; (with_reducible repeat (first | refine blk_drewN ?_ _ | refine blk_drew ?_ | refine blk_alloc ?_ _)); refine blk_put (cs := #[.int .i64 0, .slice none 0 0, .bool false]) ?_ 0 _ rfl; (with_reducible repeat (first | refine blk_drewN ?_ _ | refine blk_drew ?_ | refine blk_alloc ?_ _)); exact BK270.out) hb); have n11_ := Aside0.mk (below_step (hB_ HB) hb); have n12_ := Aside0.mk (hbox); have n13_ := Aside0.mk ((by rw [hg]; exact (below_size (hB_ HB)) : w.heap.size ≤ gb271)); have n14_ := Aside0.mk ((by rw [hg]; exact (below_size (hB_ HB)) : w.heap.size ≤ gb271)); have n15_ := Aside0.mk ((by rw [hg]; exact Nat.ne_of_lt (blk_lt (g := gb226) (o := .cells #[.int .i64 a0_0, .slice A0_1 l0_1.length c0_1, .bool true] 34 (0, 0)) (by (with_reducible repeat (first | refine blk_drewN ?_ _ | refine blk_drew ?_ | refine blk_alloc ?_ _)); refine blk_far ?_ NB226_270.out _; (with_reducible repeat (first | refine blk_drewN ?_ _ | refine blk_drew ?_ | refine blk_alloc ?_ _)); refine blk_far ?_ NB226_270.out _; (with_reducible repeat (first | refine blk_drewN ?_ _ | refine blk_drew ?_ | refine blk_alloc ?_ _)); refine blk_far ?_ NB226_270.out _; (with_reducible repeat (first | refine blk_drewN ?_ _ | refine blk_drew ?_ | refine blk_alloc ?_ _)); exact BK226.out)) : gb226 ≠ gb271)); have n16_ := Aside0.mk ((by rw [hg]; exact Nat.ne_of_gt (blk_lt (g := gb226) (o := .cells #[.int .i64 a0_0, .slice A0_1 l0_1.length c0_1, .bool true] 34 (0, 0)) (by (with_reducible repeat (first | refine blk_drewN ?_ _ | refine blk_drew ?_ | refine blk_alloc ?_ _)); refine blk_far ?_ NB226_270.out _; (with_reducible repeat (first | refine blk_drewN ?_ _ | refine blk_drew ?_ | refine blk_alloc ?_ _)); refine blk_far ?_ NB226_270.out _; (with_reducible repeat (first | refine blk_drewN ?_ _ | refine blk_drew ?_ | refine blk_alloc ?_ _)); refine blk_far ?_ NB226_270.out _; (with_reducible repeat (first | refine blk_drewN ?_ _ | refine blk_drew ?_ | refine blk_alloc ?_ _)); exact BK226.out)) : gb271 ≠ gb226)); have n17_ := Aside0.mk ((by rw [hg]; exact Nat.ne_of_lt (blk_lt (g := gb237) (o := .cells #[.int .i64 t231, .slice Ao31 t232.length co31, .bool t235] 34 (0, 0)) (by (with_reducible repeat (first | refine blk_drewN ?_ _ | refine blk_drew ?_ | refine blk_alloc ?_ _)); refine blk_far ?_ NB237_270.out _; (with_reducible repeat (first | refine blk_drewN ?_ _ | refine blk_drew ?_ | refine blk_alloc ?_ _)); refine blk_far ?_ NB237_270.out _; (with_reducible repeat (first | refine blk_drewN ?_ _ | refine blk_drew ?_ | refine blk_alloc ?_ _)); refine blk_far ?_ NB237_270.out _; (with_reducible repeat (first | refine blk_drewN ?_ _ | refine blk_drew ?_ | refine blk_alloc ?_ _)); exact BK237.out)) : gb237 ≠ gb271)); have n18_ := Aside0.mk ((by rw [hg]; exact Nat.ne_of_gt (blk_lt (g := gb237) (o := .cells #[.int .i64 t231, .slice Ao31 t232.length co31, .bool t235] 34 (0, 0)) (by (with_reducible repeat (first | refine blk_drewN ?_ _ | refine blk_drew ?_ | refine blk_alloc ?_ _)); refine blk_far ?_ NB237_270.out _; (with_reducible repeat (first | refine blk_drewN ?_ _ | refine blk_drew ?_ | refine blk_alloc ?_ _)); refine blk_far ?_ NB237_270.out _; (with_reducible repeat (first | refine blk_drewN ?_ _ | refine blk_drew ?_ | refine blk_alloc ?_ _)); refine blk_far ?_ NB237_270.out _; (with_reducible repeat (first | refine blk_drewN ?_ _ | refine blk_drew ?_ | refine blk_alloc ?_ _)); exact BK237.out)) : gb271 ≠ gb237)); have n19_ := Aside0.mk ((by rw [hg]; exact Nat.ne_of_lt (blk_lt (g := gb247) (o := .cells #[.int .i64 t241, .slice Ao77 t242.length co77, .bool t245] 34 (0, 0)) (by (with_reducible repeat (first | refine blk_drewN ?_ _ | refine blk_drew ?_ | refine blk_alloc ?_ _)); refine blk_far ?_ NB247_270.out _; (with_reducible repeat (first | refine blk_drewN ?_ _ | refine blk_drew ?_ | refine blk_alloc ?_ _)); refine blk_far ?_ NB247_270.out _; (with_reducible repeat (first | refine blk_drewN ?_ _ | refine blk_drew ?_ | refine blk_alloc ?_ _)); refine blk_far ?_ NB247_270.out _; (with_reducible repeat (first | refine blk_drewN ?_ _ | refine blk_drew ?_ | refine blk_alloc ?_ _)); exact BK247.out)) : gb247 ≠ gb271)); have n20_ := Aside0.mk ((by rw [hg]; exact Nat.ne_of_gt (blk_lt (g := gb247) (o := .cells #[.int .i64 t241, .slice Ao77 t242.length co77, .bool t245] 34 (0, 0)) (by (with_reducible repeat (first | refine blk_drewN ?_ _ | refine blk_drew ?_ | refine blk_alloc ?_ _)); refine blk_far ?_ NB247_270.out _; (with_reducible repeat (first | refine blk_drewN ?_ _ | refine blk_drew ?_ | refine blk_alloc ?_ _)); refine blk_far ?_ NB247_270.out _; (with_reducible repeat (first | refine blk_drewN ?_ _ | refine blk_drew ?_ | refine blk_alloc ?_ _)); refine blk_far ?_ NB247_270.out _; (with_reducible repeat (first | refine blk_drewN ?_ _ | refine blk_drew ?_ | refine blk_alloc ?_ _)); exact BK247.out)) : gb271 ≠ gb247)); have n21_ := Aside0.mk ((by rw [hg]; exact Nat.ne_of_lt (blk_lt (g := gb254) (o := .cells #[.int .i64 t248, .slice Ao86 t249.length co86, .bool t252] 34 (0, 0)) (by (with_reducible repeat (first | refine blk_drewN ?_ _ | refine blk_drew ?_ | refine blk_alloc ?_ _)); refine blk_far ?_ NB254_270.out _; (with_reducible repeat (first | refine blk_drewN ?_ _ | refine blk_drew ?_ | refine blk_alloc ?_ _)); refine blk_far ?_ NB254_270.out _; (with_reducible repeat (first | refine blk_drewN ?_ _ | refine blk_drew ?_ | refine blk_alloc ?_ _)); refine blk_far ?_ NB254_270.out _; (with_reducible repeat (first | refine blk_drewN ?_ _ | refine blk_drew ?_ | refine blk_alloc ?_ _)); exact BK254.out)) : gb254 ≠ gb271)); have n22_ := Aside0.mk ((by rw [hg]; exact Nat.ne_of_gt (blk_lt (g := gb254) (o := .cells #[.int .i64 t248, .slice Ao86 t249.length co86, .bool t252] 34 (0, 0)) (by (with_reducible repeat (first | refine blk_drewN ?_ _ | refine blk_drew ?_ | refine blk_alloc ?_ _)); refine blk_far ?_ NB254_270.out _; (with_reducible repeat (first | refine blk_drewN ?_ _ | refine blk_drew ?_ | refine blk_alloc ?_ _)); refine blk_far ?_ NB254_270.out _; (with_reducible repeat (first | refine blk_drewN ?_ _ | refine blk_drew ?_ | refine blk_alloc ?_ _)); refine blk_far ?_ NB254_270.out _; (with_reducible repeat (first | refine blk_drewN ?_ _ | refine blk_drew ?_ | refine blk_alloc ?_ _)); exact BK254.out)) : gb271 ≠ gb254)); have n23_ := Aside0.mk ((by rw [hg]; exact Nat.ne_of_lt (blk_lt (g := gb262) (o := .cells #[.int .i64 t255, .slice Ao96 t256.length co96, .bool t259] 34 (0, 0)) (by (with_reducible repeat (first | refine blk_drewN ?_ _ | refine blk_drew ?_ | refine blk_alloc ?_ _)); refine blk_far ?_ NB262_270.out _; (with_reducible repeat (first | refine blk_drewN ?_ _ | refine blk_drew ?_ | refine blk_alloc ?_ _)); refine blk_far ?_ NB262_270.out _; (with_reducible repeat (first | refine blk_drewN ?_ _ | refine blk_drew ?_ | refine blk_alloc ?_ _)); refine blk_far ?_ NB262_270.out _; (with_reducible repeat (first | refine blk_drewN ?_ _ | refine blk_drew ?_ | refine blk_alloc ?_ _)); exact BK262.out)) : gb262 ≠ gb271)); have n24_ := Aside0.mk ((by rw [hg]; exact Nat.ne_of_gt (blk_lt (g := gb262) (o := .cells #[.int .i64 t255, .slice Ao96 t256.length co96, .bool t259] 34 (0, 0)) (by (with_reducible repeat (first | refine blk_drewN ?_ _ | refine blk_drew ?_ | refine blk_alloc ?_ _)); refine blk_far ?_ NB262_270.out _; (with_reducible repeat (first | refine blk_drewN ?_ _ | refine blk_drew ?_ | refine blk_alloc ?_ _)); refine blk_far ?_ NB262_270.out _; (with_reducible repeat (first | refine blk_drewN ?_ _ | refine blk_drew ?_ | refine blk_alloc ?_ _)); refine blk_far ?_ NB262_270.out _; (with_reducible repeat (first | refine blk_drewN ?_ _ | refine blk_drew ?_ | refine blk_alloc ?_ _)); exact BK262.out)) : gb271 ≠ gb262)); have n25_ := Aside0.mk ((by rw [hg]; exact Nat.ne_of_lt (blk_lt (g := gb270) (o := .cells #[.int .i64 t263, .slice Ao107 t264.length co107, .bool t267] 34 (0, 0)) (by (with_reducible repeat (first | refine blk_drewN ?_ _ | refine blk_drew ?_ | refine blk_alloc ?_ _)); refine blk_put (cs := #[.int .i64 t263, .slice Ao107 t264.length co107, .bool false]) ?_ 2 _ rfl; (with_reducible repeat (first | refine blk_drewN ?_ _ | refine blk_drew ?_ | refine blk_alloc ?_ _)); refine blk_put (cs := #[.int .i64 t263, .slice none 0 0, .bool false]) ?_ 1 _ rfl; (with_reducible repeat (first | refine blk_drewN ?_ _ | refine blk_drew ?_ | refine blk_alloc ?_ _)); refine blk_put (cs := #[.int .i64 0, .slice none 0 0, .bool false]) ?_ 0 _ rfl; (with_reducible repeat (first | refine blk_drewN ?_ _ | refine blk_drew ?_ | refine blk_alloc ?_ _)); exact BK270.out)) : gb270 ≠ gb271)); have n26_ := Aside0.mk ((by rw [hg]; exact Nat.ne_of_gt (blk_lt (g := gb270) (o := .cells #[.int .i64 t263, .slice Ao107 t264.length co107, .bool t267] 34 (0, 0)) (by (with_reducible repeat (first | refine blk_drewN ?_ _ | refine blk_drew ?_ | refine blk_alloc ?_ _)); refine blk_put (cs := #[.int .i64 t263, .slice Ao107 t264.length co107, .bool false]) ?_ 2 _ rfl; (with_reducible repeat (first | refine blk_drewN ?_ _ | refine blk_drew ?_ | refine blk_alloc ?_ _)); refine blk_put (cs := #[.int .i64 t263, .slice none 0 0, .bool false]) ?_ 1 _ rfl; (with_reducible repeat (first | refine blk_drewN ?_ _ | refine blk_drew ?_ | refine blk_alloc ?_ _)); refine blk_put (cs := #[.int .i64 0, .slice none 0 0, .bool false]) ?_ 0 _ rfl; (with_reducible repeat (first | refine blk_drewN ?_ _ | refine blk_drew ?_ | refine blk_alloc ?_ _)); exact BK270.out)) : gb271 ≠ gb270)); clear HO_238001; clear HO244; clear HO251; clear HO258; clear HO266; clear BK226; clear BK237; clear BK247; clear BK254; clear BK262; clear BK270; clear HB; have HO_238001 := n0_; have HO244 := n1_; have HO251 := n2_; have HO258 := n3_; have HO266 := n4_; have BK226 := n5_; have BK237 := n6_; have BK247 := n7_; have BK254 := n8_; have BK262 := n9_; have BK270 := n10_; have HB := n11_; have BK271 := n12_; have GW271 := n13_; have GE271 := n14_; have NB226_271 := n15_; have NB271_226 := n16_; have NB237_271 := n17_; have NB271_237 := n18_; have NB247_271 := n19_; have NB271_247 := n20_; have NB254_271 := n21_; have NB271_254 := n22_; have NB262_271 := n23_; have NB271_262 := n24_; have NB270_271 := n25_; have NB271_270 := n26_; clear n0_ n1_ n2_ n3_ n4_ n5_ n6_ n7_ n8_ n9_ n10_ n11_ n12_ n13_ n14_ n15_ n16_ n17_ n18_ n19_ n20_ n21_ n22_ n23_ n24_ n25_ n26_; clear hb hbox hg; have hnb110 := NB271_226.out; have hnc110 := NB226_271.out; have hnb111 := NB271_237.out; have hnc111 := NB237_271.out; have hnb112 := NB271_247.out; have hnc112 := NB247_271.out; have hnb113 := NB271_254.out; have hnc113 := NB254_271.out; have hnb114 := NB271_262.out; have hnc114 := NB262_271.out; have hnb115 := NB271_270.out; have hnc115 := NB270_271.out; have hcz116_0 : w109.cell? ⟨gb271, 0, none⟩ = some (.int .i64 0) := (blk_cell BK271.out 0).trans rfl; have hcz116_1 : w109.cell? ⟨gb271, 1, none⟩ = some (.slice none 0 0) := (blk_cell BK271.out 1).trans rfl; have hcz116_2 : w109.cell? ⟨gb271, 2, none⟩ = some (.bool false) := (blk_cell BK271.out 2).trans rfl; have hfz116_0 := blk_frozen BK271.out 0; have hfz116_1 := blk_frozen BK271.out 1; have hfz116_2 := blk_frozen BK271.out 2))
                  have n0_ : Aside0 (Kd.R (Kd.int .i64) 3 ((((w109.setCell ⟨gb271, 0, none⟩ (.int .i64 a0_0)).setCell ⟨gb271, 1, none⟩ (.slice A0_1 l0_1.length c0_1)).setCell ⟨gb271, 2, none⟩ (.bool true)).setCell ⟨gb271, 2, none⟩ (.bool true)) w.heap.size (fun _ => True) (.slice Ao31 t232.length co31) t232) := ⟨by (with_reducible repeat (first | apply Kd.R_alloc | apply Kd.R_drewN | apply Kd.R_drew)); exact Kd.R_mono (Kd.R_far (p := ⟨gb271, 2, none⟩) (Kd.R_far (p := ⟨gb271, 2, none⟩) (Kd.R_far (p := ⟨gb271, 1, none⟩) (Kd.R_far (p := ⟨gb271, 0, none⟩) (Kd.R_types HO_238001.out BK271.out (by decide)) (fun _ hk => hk.2) (.int .i64 a0_0)) (fun _ hk => hk.2) (.slice A0_1 l0_1.length c0_1)) (fun _ hk => hk.2) (.bool true)) (fun _ hk => hk.2) (.bool true)) (fun _ hk => trivial)⟩
                  have n1_ : Aside0 (Kd.V (Kd.int .i64) 3 ((((w109.setCell ⟨gb271, 0, none⟩ (.int .i64 a0_0)).setCell ⟨gb271, 1, none⟩ (.slice A0_1 l0_1.length c0_1)).setCell ⟨gb271, 2, none⟩ (.bool true)).setCell ⟨gb271, 2, none⟩ (.bool true)) w.heap.size (fun k_ => some k_ ≠ (.slice Ao31 t232.length co31 : Value).ownBlock ∧ k_ ≠ gb226 ∧ k_ ≠ gb237 ∧ k_ ≠ gb247 ∧ k_ ≠ gb254 ∧ k_ ≠ gb262 ∧ k_ ≠ gb270 ∧ k_ ≠ gb271) (.slice Ao77 t242.length co77) t242) := ⟨by (with_reducible repeat (first | apply Kd.V_alloc | apply Kd.V_drewN | apply Kd.V_drew)); exact Kd.V_mono (Kd.V_far (p := ⟨gb271, 2, none⟩) (Kd.V_far (p := ⟨gb271, 2, none⟩) (Kd.V_far (p := ⟨gb271, 1, none⟩) (Kd.V_far (p := ⟨gb271, 0, none⟩) (Kd.V_mono HO244.out (fun k_ hk => (⟨hk, hk.2⟩ : _ ∧ k_ ≠ gb271))) (fun _ hk => hk.2) (.int .i64 a0_0)) (fun _ hk => hk.2) (.slice A0_1 l0_1.length c0_1)) (fun _ hk => hk.2) (.bool true)) (fun _ hk => hk.2) (.bool true)) (fun _ hk => ⟨hk.1.1.1.1, ⟨hk.1.1.1.2.1, ⟨hk.1.1.1.2.2.1, ⟨hk.1.1.1.2.2.2.1, ⟨hk.1.1.1.2.2.2.2.1, ⟨hk.1.1.1.2.2.2.2.2, ⟨hk.1.1.2, hk.1.2⟩⟩⟩⟩⟩⟩⟩)⟩
                  have n2_ : Aside0 (Kd.V (Kd.int .i64) 3 ((((w109.setCell ⟨gb271, 0, none⟩ (.int .i64 a0_0)).setCell ⟨gb271, 1, none⟩ (.slice A0_1 l0_1.length c0_1)).setCell ⟨gb271, 2, none⟩ (.bool true)).setCell ⟨gb271, 2, none⟩ (.bool true)) w.heap.size (fun k_ => some k_ ≠ (.slice Ao31 t232.length co31 : Value).ownBlock ∧ k_ ≠ gb226 ∧ k_ ≠ gb237 ∧ k_ ≠ gb247 ∧ k_ ≠ gb254 ∧ k_ ≠ gb262 ∧ k_ ≠ gb270 ∧ k_ ≠ gb271) (.slice Ao86 t249.length co86) t249) := ⟨by (with_reducible repeat (first | apply Kd.V_alloc | apply Kd.V_drewN | apply Kd.V_drew)); exact Kd.V_mono (Kd.V_far (p := ⟨gb271, 2, none⟩) (Kd.V_far (p := ⟨gb271, 2, none⟩) (Kd.V_far (p := ⟨gb271, 1, none⟩) (Kd.V_far (p := ⟨gb271, 0, none⟩) (Kd.V_mono HO251.out (fun k_ hk => (⟨hk, hk.2⟩ : _ ∧ k_ ≠ gb271))) (fun _ hk => hk.2) (.int .i64 a0_0)) (fun _ hk => hk.2) (.slice A0_1 l0_1.length c0_1)) (fun _ hk => hk.2) (.bool true)) (fun _ hk => hk.2) (.bool true)) (fun _ hk => ⟨hk.1.1.1.1, ⟨hk.1.1.1.2.1, ⟨hk.1.1.1.2.2.1, ⟨hk.1.1.1.2.2.2.1, ⟨hk.1.1.1.2.2.2.2.1, ⟨hk.1.1.1.2.2.2.2.2, ⟨hk.1.1.2, hk.1.2⟩⟩⟩⟩⟩⟩⟩)⟩
                  have n3_ : Aside0 (Kd.V (Kd.int .i64) 3 ((((w109.setCell ⟨gb271, 0, none⟩ (.int .i64 a0_0)).setCell ⟨gb271, 1, none⟩ (.slice A0_1 l0_1.length c0_1)).setCell ⟨gb271, 2, none⟩ (.bool true)).setCell ⟨gb271, 2, none⟩ (.bool true)) w.heap.size (fun k_ => some k_ ≠ (.slice Ao31 t232.length co31 : Value).ownBlock ∧ k_ ≠ gb226 ∧ k_ ≠ gb237 ∧ k_ ≠ gb247 ∧ k_ ≠ gb254 ∧ k_ ≠ gb262 ∧ k_ ≠ gb270 ∧ k_ ≠ gb271) (.slice Ao96 t256.length co96) t256) := ⟨by (with_reducible repeat (first | apply Kd.V_alloc | apply Kd.V_drewN | apply Kd.V_drew)); exact Kd.V_mono (Kd.V_far (p := ⟨gb271, 2, none⟩) (Kd.V_far (p := ⟨gb271, 2, none⟩) (Kd.V_far (p := ⟨gb271, 1, none⟩) (Kd.V_far (p := ⟨gb271, 0, none⟩) (Kd.V_mono HO258.out (fun k_ hk => (⟨hk, hk.2⟩ : _ ∧ k_ ≠ gb271))) (fun _ hk => hk.2) (.int .i64 a0_0)) (fun _ hk => hk.2) (.slice A0_1 l0_1.length c0_1)) (fun _ hk => hk.2) (.bool true)) (fun _ hk => hk.2) (.bool true)) (fun _ hk => ⟨hk.1.1.1.1, ⟨hk.1.1.1.2.1, ⟨hk.1.1.1.2.2.1, ⟨hk.1.1.1.2.2.2.1, ⟨hk.1.1.1.2.2.2.2.1, ⟨hk.1.1.1.2.2.2.2.2, ⟨hk.1.1.2, hk.1.2⟩⟩⟩⟩⟩⟩⟩)⟩
                  have n4_ : Aside0 (Kd.V (Kd.int .i64) 3 ((((w109.setCell ⟨gb271, 0, none⟩ (.int .i64 a0_0)).setCell ⟨gb271, 1, none⟩ (.slice A0_1 l0_1.length c0_1)).setCell ⟨gb271, 2, none⟩ (.bool true)).setCell ⟨gb271, 2, none⟩ (.bool true)) w.heap.size (fun k_ => some k_ ≠ (.slice Ao31 t232.length co31 : Value).ownBlock ∧ k_ ≠ gb226 ∧ k_ ≠ gb237 ∧ k_ ≠ gb247 ∧ k_ ≠ gb254 ∧ k_ ≠ gb262 ∧ k_ ≠ gb270 ∧ k_ ≠ gb271) (.slice Ao107 t264.length co107) t264) := ⟨by (with_reducible repeat (first | apply Kd.V_alloc | apply Kd.V_drewN | apply Kd.V_drew)); exact Kd.V_mono (Kd.V_far (p := ⟨gb271, 2, none⟩) (Kd.V_far (p := ⟨gb271, 2, none⟩) (Kd.V_far (p := ⟨gb271, 1, none⟩) (Kd.V_far (p := ⟨gb271, 0, none⟩) (Kd.V_mono HO266.out (fun k_ hk => (⟨hk, hk.2⟩ : _ ∧ k_ ≠ gb271))) (fun _ hk => hk.2) (.int .i64 a0_0)) (fun _ hk => hk.2) (.slice A0_1 l0_1.length c0_1)) (fun _ hk => hk.2) (.bool true)) (fun _ hk => hk.2) (.bool true)) (fun _ hk => ⟨hk.1.1.1.1, ⟨hk.1.1.1.2.1, ⟨hk.1.1.1.2.2.1, ⟨hk.1.1.1.2.2.2.1, ⟨hk.1.1.1.2.2.2.2.1, ⟨hk.1.1.1.2.2.2.2.2, ⟨hk.1.1.2, hk.1.2⟩⟩⟩⟩⟩⟩⟩)⟩
                  have n5_ : Aside0 (((((w109.setCell ⟨gb271, 0, none⟩ (.int .i64 a0_0)).setCell ⟨gb271, 1, none⟩ (.slice A0_1 l0_1.length c0_1)).setCell ⟨gb271, 2, none⟩ (.bool true)).setCell ⟨gb271, 2, none⟩ (.bool true)).heap[gb226]? = some (.cells #[.int .i64 a0_0, .slice A0_1 l0_1.length c0_1, .bool true] 34 (0, 0))) := ⟨by (with_reducible repeat (first | refine blk_drewN ?_ _ | refine blk_drew ?_ | refine blk_alloc ?_ _)); refine blk_far ?_ NB226_271.out _; (with_reducible repeat (first | refine blk_drewN ?_ _ | refine blk_drew ?_ | refine blk_alloc ?_ _)); refine blk_far ?_ NB226_271.out _; (with_reducible repeat (first | refine blk_drewN ?_ _ | refine blk_drew ?_ | refine blk_alloc ?_ _)); refine blk_far ?_ NB226_271.out _; (with_reducible repeat (first | refine blk_drewN ?_ _ | refine blk_drew ?_ | refine blk_alloc ?_ _)); refine blk_far ?_ NB226_271.out _; (with_reducible repeat (first | refine blk_drewN ?_ _ | refine blk_drew ?_ | refine blk_alloc ?_ _)); exact BK226.out⟩
                  have n6_ : Aside0 (((((w109.setCell ⟨gb271, 0, none⟩ (.int .i64 a0_0)).setCell ⟨gb271, 1, none⟩ (.slice A0_1 l0_1.length c0_1)).setCell ⟨gb271, 2, none⟩ (.bool true)).setCell ⟨gb271, 2, none⟩ (.bool true)).heap[gb237]? = some (.cells #[.int .i64 t231, .slice Ao31 t232.length co31, .bool t235] 34 (0, 0))) := ⟨by (with_reducible repeat (first | refine blk_drewN ?_ _ | refine blk_drew ?_ | refine blk_alloc ?_ _)); refine blk_far ?_ NB237_271.out _; (with_reducible repeat (first | refine blk_drewN ?_ _ | refine blk_drew ?_ | refine blk_alloc ?_ _)); refine blk_far ?_ NB237_271.out _; (with_reducible repeat (first | refine blk_drewN ?_ _ | refine blk_drew ?_ | refine blk_alloc ?_ _)); refine blk_far ?_ NB237_271.out _; (with_reducible repeat (first | refine blk_drewN ?_ _ | refine blk_drew ?_ | refine blk_alloc ?_ _)); refine blk_far ?_ NB237_271.out _; (with_reducible repeat (first | refine blk_drewN ?_ _ | refine blk_drew ?_ | refine blk_alloc ?_ _)); exact BK237.out⟩
                  have n7_ : Aside0 (((((w109.setCell ⟨gb271, 0, none⟩ (.int .i64 a0_0)).setCell ⟨gb271, 1, none⟩ (.slice A0_1 l0_1.length c0_1)).setCell ⟨gb271, 2, none⟩ (.bool true)).setCell ⟨gb271, 2, none⟩ (.bool true)).heap[gb247]? = some (.cells #[.int .i64 t241, .slice Ao77 t242.length co77, .bool t245] 34 (0, 0))) := ⟨by (with_reducible repeat (first | refine blk_drewN ?_ _ | refine blk_drew ?_ | refine blk_alloc ?_ _)); refine blk_far ?_ NB247_271.out _; (with_reducible repeat (first | refine blk_drewN ?_ _ | refine blk_drew ?_ | refine blk_alloc ?_ _)); refine blk_far ?_ NB247_271.out _; (with_reducible repeat (first | refine blk_drewN ?_ _ | refine blk_drew ?_ | refine blk_alloc ?_ _)); refine blk_far ?_ NB247_271.out _; (with_reducible repeat (first | refine blk_drewN ?_ _ | refine blk_drew ?_ | refine blk_alloc ?_ _)); refine blk_far ?_ NB247_271.out _; (with_reducible repeat (first | refine blk_drewN ?_ _ | refine blk_drew ?_ | refine blk_alloc ?_ _)); exact BK247.out⟩
                  have n8_ : Aside0 (((((w109.setCell ⟨gb271, 0, none⟩ (.int .i64 a0_0)).setCell ⟨gb271, 1, none⟩ (.slice A0_1 l0_1.length c0_1)).setCell ⟨gb271, 2, none⟩ (.bool true)).setCell ⟨gb271, 2, none⟩ (.bool true)).heap[gb254]? = some (.cells #[.int .i64 t248, .slice Ao86 t249.length co86, .bool t252] 34 (0, 0))) := ⟨by (with_reducible repeat (first | refine blk_drewN ?_ _ | refine blk_drew ?_ | refine blk_alloc ?_ _)); refine blk_far ?_ NB254_271.out _; (with_reducible repeat (first | refine blk_drewN ?_ _ | refine blk_drew ?_ | refine blk_alloc ?_ _)); refine blk_far ?_ NB254_271.out _; (with_reducible repeat (first | refine blk_drewN ?_ _ | refine blk_drew ?_ | refine blk_alloc ?_ _)); refine blk_far ?_ NB254_271.out _; (with_reducible repeat (first | refine blk_drewN ?_ _ | refine blk_drew ?_ | refine blk_alloc ?_ _)); refine blk_far ?_ NB254_271.out _; (with_reducible repeat (first | refine blk_drewN ?_ _ | refine blk_drew ?_ | refine blk_alloc ?_ _)); exact BK254.out⟩
                  have n9_ : Aside0 (((((w109.setCell ⟨gb271, 0, none⟩ (.int .i64 a0_0)).setCell ⟨gb271, 1, none⟩ (.slice A0_1 l0_1.length c0_1)).setCell ⟨gb271, 2, none⟩ (.bool true)).setCell ⟨gb271, 2, none⟩ (.bool true)).heap[gb262]? = some (.cells #[.int .i64 t255, .slice Ao96 t256.length co96, .bool t259] 34 (0, 0))) := ⟨by (with_reducible repeat (first | refine blk_drewN ?_ _ | refine blk_drew ?_ | refine blk_alloc ?_ _)); refine blk_far ?_ NB262_271.out _; (with_reducible repeat (first | refine blk_drewN ?_ _ | refine blk_drew ?_ | refine blk_alloc ?_ _)); refine blk_far ?_ NB262_271.out _; (with_reducible repeat (first | refine blk_drewN ?_ _ | refine blk_drew ?_ | refine blk_alloc ?_ _)); refine blk_far ?_ NB262_271.out _; (with_reducible repeat (first | refine blk_drewN ?_ _ | refine blk_drew ?_ | refine blk_alloc ?_ _)); refine blk_far ?_ NB262_271.out _; (with_reducible repeat (first | refine blk_drewN ?_ _ | refine blk_drew ?_ | refine blk_alloc ?_ _)); exact BK262.out⟩
                  have n10_ : Aside0 (((((w109.setCell ⟨gb271, 0, none⟩ (.int .i64 a0_0)).setCell ⟨gb271, 1, none⟩ (.slice A0_1 l0_1.length c0_1)).setCell ⟨gb271, 2, none⟩ (.bool true)).setCell ⟨gb271, 2, none⟩ (.bool true)).heap[gb270]? = some (.cells #[.int .i64 t263, .slice Ao107 t264.length co107, .bool t267] 34 (0, 0))) := ⟨by (with_reducible repeat (first | refine blk_drewN ?_ _ | refine blk_drew ?_ | refine blk_alloc ?_ _)); refine blk_far ?_ NB270_271.out _; (with_reducible repeat (first | refine blk_drewN ?_ _ | refine blk_drew ?_ | refine blk_alloc ?_ _)); refine blk_far ?_ NB270_271.out _; (with_reducible repeat (first | refine blk_drewN ?_ _ | refine blk_drew ?_ | refine blk_alloc ?_ _)); refine blk_far ?_ NB270_271.out _; (with_reducible repeat (first | refine blk_drewN ?_ _ | refine blk_drew ?_ | refine blk_alloc ?_ _)); refine blk_far ?_ NB270_271.out _; (with_reducible repeat (first | refine blk_drewN ?_ _ | refine blk_drew ?_ | refine blk_alloc ?_ _)); exact BK270.out⟩
                  have n11_ : Aside0 (((((w109.setCell ⟨gb271, 0, none⟩ (.int .i64 a0_0)).setCell ⟨gb271, 1, none⟩ (.slice A0_1 l0_1.length c0_1)).setCell ⟨gb271, 2, none⟩ (.bool true)).setCell ⟨gb271, 2, none⟩ (.bool true)).heap[gb271]? = some (.cells #[.int .i64 a0_0, .slice A0_1 l0_1.length c0_1, .bool true] 34 (0, 0))) := ⟨by (with_reducible repeat (first | refine blk_drewN ?_ _ | refine blk_drew ?_ | refine blk_alloc ?_ _)); refine blk_put (cs := #[.int .i64 a0_0, .slice A0_1 l0_1.length c0_1, .bool true]) ?_ 2 _ rfl; (with_reducible repeat (first | refine blk_drewN ?_ _ | refine blk_drew ?_ | refine blk_alloc ?_ _)); refine blk_put (cs := #[.int .i64 a0_0, .slice A0_1 l0_1.length c0_1, .bool false]) ?_ 2 _ rfl; (with_reducible repeat (first | refine blk_drewN ?_ _ | refine blk_drew ?_ | refine blk_alloc ?_ _)); refine blk_put (cs := #[.int .i64 a0_0, .slice none 0 0, .bool false]) ?_ 1 _ rfl; (with_reducible repeat (first | refine blk_drewN ?_ _ | refine blk_drew ?_ | refine blk_alloc ?_ _)); refine blk_put (cs := #[.int .i64 0, .slice none 0 0, .bool false]) ?_ 0 _ rfl; (with_reducible repeat (first | refine blk_drewN ?_ _ | refine blk_drew ?_ | refine blk_alloc ?_ _)); exact BK271.out⟩
                  have n12_ : Aside0 (Below w.heap.size w ((((w109.setCell ⟨gb271, 0, none⟩ (.int .i64 a0_0)).setCell ⟨gb271, 1, none⟩ (.slice A0_1 l0_1.length c0_1)).setCell ⟨gb271, 2, none⟩ (.bool true)).setCell ⟨gb271, 2, none⟩ (.bool true))) := ⟨by repeat (first | (with_reducible first | exact HB.out | apply below_alloc | apply pw_below_drewN | apply below_drew1 | refine below_set ?_ GE226.out | refine below_set ?_ GE237.out | refine below_set ?_ GE247.out | refine below_set ?_ GE254.out | refine below_set ?_ GE262.out | refine below_set ?_ GE270.out | refine below_set ?_ GE271.out) | exact HB.out)⟩
                  (try clear HO_238001)
                  (try clear HO244)
                  (try clear HO251)
                  (try clear HO258)
                  (try clear HO266)
                  (try clear BK226)
                  (try clear BK237)
                  (try clear BK247)
                  (try clear BK254)
                  (try clear BK262)
                  (try clear BK270)
                  (try clear BK271)
                  (try clear HB)
                  generalize ((((w109.setCell ⟨gb271, 0, none⟩ (.int .i64 a0_0)).setCell ⟨gb271, 1, none⟩ (.slice A0_1 l0_1.length c0_1)).setCell ⟨gb271, 2, none⟩ (.bool true)).setCell ⟨gb271, 2, none⟩ (.bool true)) = w117 at n0_ n1_ n2_ n3_ n4_ n5_ n6_ n7_ n8_ n9_ n10_ n11_ n12_ ⊢
                  have HO_238001 := n0_
                  have HO244 := n1_
                  have HO251 := n2_
                  have HO258 := n3_
                  have HO266 := n4_
                  have BK226 := n5_
                  have BK237 := n6_
                  have BK247 := n7_
                  have BK254 := n8_
                  have BK262 := n9_
                  have BK270 := n10_
                  have BK271 := n11_
                  have HB := n12_
                  clear n0_ n1_ n2_ n3_ n4_ n5_ n6_ n7_ n8_ n9_ n10_ n11_ n12_
                  have n0_ := Aside0.mk (Kd.R_drew HO_238001.out)
                  have n1_ := Aside0.mk (Kd.V_drew HO244.out)
                  have n2_ := Aside0.mk (Kd.V_drew HO251.out)
                  have n3_ := Aside0.mk (Kd.V_drew HO258.out)
                  have n4_ := Aside0.mk (Kd.V_drew HO266.out)
                  have n5_ := Aside0.mk (blk_drew BK226.out)
                  have n6_ := Aside0.mk (blk_drew BK237.out)
                  have n7_ := Aside0.mk (blk_drew BK247.out)
                  have n8_ := Aside0.mk (blk_drew BK254.out)
                  have n9_ := Aside0.mk (blk_drew BK262.out)
                  have n10_ := Aside0.mk (blk_drew BK270.out)
                  have n11_ := Aside0.mk (blk_drew BK271.out)
                  have n12_ := Aside0.mk (below_drew1 HB.out)
                  clear HO_238001
                  clear HO244
                  clear HO251
                  clear HO258
                  clear HO266
                  clear BK226
                  clear BK237
                  clear BK247
                  clear BK254
                  clear BK262
                  clear BK270
                  clear BK271
                  clear HB
                  have HO_238001 := n0_
                  have HO244 := n1_
                  have HO251 := n2_
                  have HO258 := n3_
                  have HO266 := n4_
                  have BK226 := n5_
                  have BK237 := n6_
                  have BK247 := n7_
                  have BK254 := n8_
                  have BK262 := n9_
                  have BK270 := n10_
                  have BK271 := n11_
                  have HB := n12_
                  clear n0_ n1_ n2_ n3_ n4_ n5_ n6_ n7_ n8_ n9_ n10_ n11_ n12_
                  refine start_ (n := 43) (S := fun w' => w'.cell? ⟨gb247, 0, none⟩ = some (.int .i64 t241) ∧ w'.cell? ⟨gb247, 1, none⟩ = some (.slice Ao77 t242.length co77) ∧ w'.cell? ⟨gb247, 2, none⟩ = some (.bool t245) ∧ w'.cell? ⟨gb254, 0, none⟩ = some (.int .i64 t248) ∧ w'.cell? ⟨gb254, 1, none⟩ = some (.slice Ao86 t249.length co86) ∧ w'.cell? ⟨gb254, 2, none⟩ = some (.bool t252) ∧ w'.cell? ⟨gb262, 0, none⟩ = some (.int .i64 t255) ∧ w'.cell? ⟨gb262, 1, none⟩ = some (.slice Ao96 t256.length co96) ∧ w'.cell? ⟨gb262, 2, none⟩ = some (.bool t259) ∧ w'.cell? ⟨gb270, 0, none⟩ = some (.int .i64 t263) ∧ w'.cell? ⟨gb270, 1, none⟩ = some (.slice Ao107 t264.length co107) ∧ w'.cell? ⟨gb270, 2, none⟩ = some (.bool t267) ∧ w'.cell? ⟨gb226, 0, none⟩ = some (.int .i64 a0_0) ∧ w'.cell? ⟨gb226, 1, none⟩ = some (.slice A0_1 l0_1.length c0_1) ∧ w'.cell? ⟨gb226, 2, none⟩ = some (.bool true) ∧ w'.cell? ⟨gb271, 0, none⟩ = some (.int .i64 a0_0) ∧ w'.cell? ⟨gb271, 1, none⟩ = some (.slice A0_1 l0_1.length c0_1) ∧ w'.cell? ⟨gb271, 2, none⟩ = some (.bool true)) (ds := []) #[false, false, false, false, false, false, false, false, false, false, false, false, false, false, false, false, false, false, false, false, false, false, false, false, false, false, false, false, false, false, false, false, false, false, false, false, false, false, false, false, false, false, false] (by kernel_rfl) rfl rfl ⟨(blk_cell BK247.out 0).trans rfl, (blk_cell BK247.out 1).trans rfl, (blk_cell BK247.out 2).trans rfl, (blk_cell BK254.out 0).trans rfl, (blk_cell BK254.out 1).trans rfl, (blk_cell BK254.out 2).trans rfl, (blk_cell BK262.out 0).trans rfl, (blk_cell BK262.out 1).trans rfl, (blk_cell BK262.out 2).trans rfl, (blk_cell BK270.out 0).trans rfl, (blk_cell BK270.out 1).trans rfl, (blk_cell BK270.out 2).trans rfl, (blk_cell BK226.out 0).trans rfl, (blk_cell BK226.out 1).trans rfl, (blk_cell BK226.out 2).trans rfl, (blk_cell BK271.out 0).trans rfl, (blk_cell BK271.out 1).trans rfl, (blk_cell BK271.out 2).trans rfl⟩ (fun hHeld => ?_); refine with_tabW lodgerlaw03_QueueDoes.tab15 lodgerlaw03_QueueDoes.bits15 (fun HT_ HW_ => ?_)
                  generalize w117.drew = w118 at HO_238001 HO244 HO251 HO258 HO266 BK226 BK237 BK247 BK254 BK262 BK270 BK271 HB hHeld ⊢
                  refine tk_ (i := 0) (N := some 111) (tf 43 1) rfl rfl HT_ HW_ hHeld (by rintro w' ⟨s0, s1, s2, s3, s4, s5, s6, s7, s8, s9, s10, s11, s12, s13, s14, s15, s16, s17⟩; go_simp; with_reducible rfl) ?_
                  refine tk_ (i := 1) (N := some 112) (tf 43 3) rfl rfl HT_ HW_ hHeld (by rintro w' ⟨s0, s1, s2, s3, s4, s5, s6, s7, s8, s9, s10, s11, s12, s13, s14, s15, s16, s17⟩; go_simp; with_reducible rfl) ?_
                  refine one_ (i := 2) (N := some 113) #[true, true, true, false, false, false, false, false, false, false, false, false, false, false, false, false, false, false, false, false, false, false, false, false, false, false, false, false, false, false, false, false, false, false, false, false, false, false, false, false, false, false, false] rfl rfl (one_of HT_.out (by kernel_rfl)) (by decide) (fun K hK => ?_)
                  refine goes_ Try.func16 (by kernel_rfl) rfl #[.agg #[.int .i64 t241, .slice Ao77 t242.length co77, .bool t245], .agg #[.int .i64 t248, .slice Ao86 t249.length co86, .bool t252]] (by rfl) rfl rfl am_ ?_
                  with_reducible refine (lodgerref03_Same.calls kj32 t241 _ _ t242 t245 t248 _ _ t249 t252 true _ ?side1 ?side2 ?side3 ?side4 A56.out).mono ?_
                  (case side1 => repeat (first | exact (Kd.V_reads' HO244.out).2.2 | (with_reducible refine Kd.C_alloc ?_ _) | (with_reducible refine Kd.C_drewN ?_ _) | (with_reducible refine Kd.C_drew ?_)))
                  (case side2 => exact (Kd.V_reads' HO244.out).2.1)
                  (case side3 => repeat (first | exact (Kd.V_reads' HO251.out).2.2 | (with_reducible refine Kd.C_alloc ?_ _) | (with_reducible refine Kd.C_drewN ?_ _) | (with_reducible refine Kd.C_drew ?_)))
                  (case side4 => exact (Kd.V_reads' HO251.out).2.1)
                  rintro e w119 ⟨rfl, hb⟩
                  refine ⟨_, rfl, ?_⟩
                  have n0_ := Aside0.mk (Kd.R_below (rR_ HO_238001) hb)
                  have n1_ := Aside0.mk (Kd.V_below (vV_ HO244) hb)
                  have n2_ := Aside0.mk (Kd.V_below (vV_ HO251) hb)
                  have n3_ := Aside0.mk (Kd.V_below (vV_ HO258) hb)
                  have n4_ := Aside0.mk (Kd.V_below (vV_ HO266) hb)
                  have n5_ := bB_ BK226 hb
                  have n6_ := bB_ BK237 hb
                  have n7_ := bB_ BK247 hb
                  have n8_ := bB_ BK254 hb
                  have n9_ := bB_ BK262 hb
                  have n10_ := bB_ BK270 hb
                  have n11_ := bB_ BK271 hb
                  have n12_ := Aside0.mk (below_step (hB_ HB) hb)
                  clear HO_238001
                  clear HO244
                  clear HO251
                  clear HO258
                  clear HO266
                  clear BK226
                  clear BK237
                  clear BK247
                  clear BK254
                  clear BK262
                  clear BK270
                  clear BK271
                  clear HB
                  have HO_238001 := n0_
                  have HO244 := n1_
                  have HO251 := n2_
                  have HO258 := n3_
                  have HO266 := n4_
                  have BK226 := n5_
                  have BK237 := n6_
                  have BK247 := n7_
                  have BK254 := n8_
                  have BK262 := n9_
                  have BK270 := n10_
                  have BK271 := n11_
                  have HB := n12_
                  clear n0_ n1_ n2_ n3_ n4_ n5_ n6_ n7_ n8_ n9_ n10_ n11_ n12_
                  (try clear hb)
                  (try clear hb2)
                  (try clear hk)
                  (try clear hi)
                  refine hK.out _ _ ⟨(blk_cell BK247.out 0).trans rfl, (blk_cell BK247.out 1).trans rfl, (blk_cell BK247.out 2).trans rfl, (blk_cell BK254.out 0).trans rfl, (blk_cell BK254.out 1).trans rfl, (blk_cell BK254.out 2).trans rfl, (blk_cell BK262.out 0).trans rfl, (blk_cell BK262.out 1).trans rfl, (blk_cell BK262.out 2).trans rfl, (blk_cell BK270.out 0).trans rfl, (blk_cell BK270.out 1).trans rfl, (blk_cell BK270.out 2).trans rfl, (blk_cell BK226.out 0).trans rfl, (blk_cell BK226.out 1).trans rfl, (blk_cell BK226.out 2).trans rfl, (blk_cell BK271.out 0).trans rfl, (blk_cell BK271.out 1).trans rfl, (blk_cell BK271.out 2).trans rfl⟩ (fun hHeld => ?_)
                  clear hK K
                  refine norm_ (a' := ?_) ?_ ?_
                  rotate_left
                  ·show Act.put _ (some 113) _ = _
                   simp only [Act.put, List.setIfInBounds_toArray, List.set_cons_zero, List.set_cons_succ, i64_w, i32_w]
                   rfl
                  refine pu_ (i := 3) (N := some 114) (tf 43 15) HT_ ?_
                  refine pu_ (i := 4) (N := some 115) (tf 43 31) HT_ ?_
                  refine pu_ (i := 5) (N := some 116) (tf 43 63) HT_ ?_
                  refine pu_ (i := 6) (N := some 117) (tf 43 127) HT_ ?_
                  refine pu_ (i := 7) (N := some 118) (tf 43 255) HT_ ?_
                  refine pu_ (i := 8) (N := some 119) (tf 43 511) HT_ ?_
                  refine tk_ (i := 9) (N := some 120) (tf 43 1023) rfl rfl HT_ HW_ hHeld (by rintro w' ⟨s0, s1, s2, s3, s4, s5, s6, s7, s8, s9, s10, s11, s12, s13, s14, s15, s16, s17⟩; go_simp; with_reducible rfl) ?_
                  refine tk_ (i := 10) (N := some 121) (tf 43 2047) rfl rfl HT_ HW_ hHeld (by rintro w' ⟨s0, s1, s2, s3, s4, s5, s6, s7, s8, s9, s10, s11, s12, s13, s14, s15, s16, s17⟩; go_simp; with_reducible rfl) ?_
                  refine one_ (i := 11) (N := some 122) #[true, true, true, true, true, true, true, true, true, true, true, true, false, false, false, false, false, false, false, false, false, false, false, false, false, false, false, false, false, false, false, false, false, false, false, false, false, false, false, false, false, false, false] rfl rfl (one_of HT_.out (by kernel_rfl)) (by decide) (fun K hK => ?_)
                  refine goes_ Try.func16 (by kernel_rfl) rfl #[.agg #[.int .i64 t255, .slice Ao96 t256.length co96, .bool t259], .agg #[.int .i64 t263, .slice Ao107 t264.length co107, .bool t267]] (by rfl) rfl rfl am_ ?_
                  with_reducible refine (lodgerref03_Same.calls kj32 t255 _ _ t256 t259 t263 _ _ t264 t267 true _ ?side1 ?side2 ?side3 ?side4 A59.out).mono ?_
                  (case side1 => repeat (first | exact (Kd.V_reads' HO258.out).2.2 | (with_reducible refine Kd.C_alloc ?_ _) | (with_reducible refine Kd.C_drewN ?_ _) | (with_reducible refine Kd.C_drew ?_)))
                  (case side2 => exact (Kd.V_reads' HO258.out).2.1)
                  (case side3 => repeat (first | exact (Kd.V_reads' HO266.out).2.2 | (with_reducible refine Kd.C_alloc ?_ _) | (with_reducible refine Kd.C_drewN ?_ _) | (with_reducible refine Kd.C_drew ?_)))
                  (case side4 => exact (Kd.V_reads' HO266.out).2.1)
                  rintro e w120 ⟨rfl, hb⟩
                  refine ⟨_, rfl, ?_⟩
                  have n0_ := Aside0.mk (Kd.R_below (rR_ HO_238001) hb)
                  have n1_ := Aside0.mk (Kd.V_below (vV_ HO244) hb)
                  have n2_ := Aside0.mk (Kd.V_below (vV_ HO251) hb)
                  have n3_ := Aside0.mk (Kd.V_below (vV_ HO258) hb)
                  have n4_ := Aside0.mk (Kd.V_below (vV_ HO266) hb)
                  have n5_ := bB_ BK226 hb
                  have n6_ := bB_ BK237 hb
                  have n7_ := bB_ BK247 hb
                  have n8_ := bB_ BK254 hb
                  have n9_ := bB_ BK262 hb
                  have n10_ := bB_ BK270 hb
                  have n11_ := bB_ BK271 hb
                  have n12_ := Aside0.mk (below_step (hB_ HB) hb)
                  clear HO_238001
                  clear HO244
                  clear HO251
                  clear HO258
                  clear HO266
                  clear BK226
                  clear BK237
                  clear BK247
                  clear BK254
                  clear BK262
                  clear BK270
                  clear BK271
                  clear HB
                  have HO_238001 := n0_
                  have HO244 := n1_
                  have HO251 := n2_
                  have HO258 := n3_
                  have HO266 := n4_
                  have BK226 := n5_
                  have BK237 := n6_
                  have BK247 := n7_
                  have BK254 := n8_
                  have BK262 := n9_
                  have BK270 := n10_
                  have BK271 := n11_
                  have HB := n12_
                  clear n0_ n1_ n2_ n3_ n4_ n5_ n6_ n7_ n8_ n9_ n10_ n11_ n12_
                  (try clear hb)
                  (try clear hb2)
                  (try clear hk)
                  (try clear hi)
                  refine hK.out _ _ ⟨(blk_cell BK247.out 0).trans rfl, (blk_cell BK247.out 1).trans rfl, (blk_cell BK247.out 2).trans rfl, (blk_cell BK254.out 0).trans rfl, (blk_cell BK254.out 1).trans rfl, (blk_cell BK254.out 2).trans rfl, (blk_cell BK262.out 0).trans rfl, (blk_cell BK262.out 1).trans rfl, (blk_cell BK262.out 2).trans rfl, (blk_cell BK270.out 0).trans rfl, (blk_cell BK270.out 1).trans rfl, (blk_cell BK270.out 2).trans rfl, (blk_cell BK226.out 0).trans rfl, (blk_cell BK226.out 1).trans rfl, (blk_cell BK226.out 2).trans rfl, (blk_cell BK271.out 0).trans rfl, (blk_cell BK271.out 1).trans rfl, (blk_cell BK271.out 2).trans rfl⟩ (fun hHeld => ?_)
                  clear hK K
                  refine norm_ (a' := ?_) ?_ ?_
                  rotate_left
                  ·show Act.put _ (some 122) _ = _
                   simp only [Act.put, List.setIfInBounds_toArray, List.set_cons_zero, List.set_cons_succ, i64_w, i32_w]
                   rfl
                  refine pu_ (i := 12) (N := some 123) (tf 43 8191) HT_ ?_
                  refine pu_ (i := 13) (N := some 124) (tf 43 16383) HT_ ?_
                  refine pu_ (i := 14) (N := some 125) (tf 43 32767) HT_ ?_
                  refine pu_ (i := 15) (N := some 126) (tf 43 65535) HT_ ?_
                  refine pu_ (i := 16) (N := some 127) (tf 43 131071) HT_ ?_
                  refine pu_ (i := 17) (N := some 128) (tf 43 262143) HT_ ?_
                  refine pu_ (i := 18) (N := some 129) (tf 43 524287) HT_ ?_
                  refine pu_ (i := 19) (N := some 130) (tf 43 1048575) HT_ ?_
                  refine pu_ (i := 20) (N := some 131) (tf 43 2097151) HT_ ?_
                  refine pu_ (i := 21) (N := some 132) (tf 43 4194303) HT_ ?_
                  refine pu_ (i := 22) (N := some 133) (tf 43 8388607) HT_ ?_
                  refine pu_ (i := 23) (N := some 134) (tf 43 16777215) HT_ ?_
                  refine tk_ (i := 24) (N := some 135) (tf 43 33554431) rfl rfl HT_ HW_ hHeld (by rintro w' ⟨s0, s1, s2, s3, s4, s5, s6, s7, s8, s9, s10, s11, s12, s13, s14, s15, s16, s17⟩; go_simp; with_reducible rfl) ?_
                  refine tk_ (i := 26) (N := some 137) (tf 43 100663295) rfl rfl HT_ HW_ hHeld (by rintro w' ⟨s0, s1, s2, s3, s4, s5, s6, s7, s8, s9, s10, s11, s12, s13, s14, s15, s16, s17⟩; go_simp; with_reducible rfl) ?_
                  refine one_ (i := 25) (N := some 136) #[true, true, true, true, true, true, true, true, true, true, true, true, true, true, true, true, true, true, true, true, true, true, true, true, true, true, true, false, false, false, false, false, false, false, false, false, false, false, false, false, false, false, false] rfl rfl (one_of HT_.out (by kernel_rfl)) (by decide) (fun K hK => ?_)
                  refine goes_ Try.func21 (by kernel_rfl) rfl #[.agg #[.int .i64 a0_0, .slice A0_1 l0_1.length c0_1, .bool true]] (by rfl) rfl rfl am_ ?_
                  with_reducible refine (queue_Close.calls a0_0 _ _ l0_1 true t274 t275 t278 _ ?side1 ?side2 A63.out).mono ?_
                  (case side1 => repeat (first | exact (Kd.C_below HR0_1.out HB.out) | (with_reducible refine Kd.C_alloc ?_ _) | (with_reducible refine Kd.C_drewN ?_ _) | (with_reducible refine Kd.C_drew ?_)))
                  (case side2 => exact HC0_1.out)
                  rintro e w121 ⟨v276, rfl, ho0, hb⟩
                  refine ⟨_, rfl, ?_⟩
                  have n0_ := Aside0.mk (Kd.R_elder' (rR_ HO_238001) (Kd.R_base ho0) hb)
                  have n1_ := Aside0.mk (Kd.V_elder' (vV_ HO244) (Kd.R_base ho0) hb)
                  have n2_ := Aside0.mk (Kd.V_elder' (vV_ HO251) (Kd.R_base ho0) hb)
                  have n3_ := Aside0.mk (Kd.V_elder' (vV_ HO258) (Kd.R_base ho0) hb)
                  have n4_ := Aside0.mk (Kd.V_elder' (vV_ HO266) (Kd.R_base ho0) hb)
                  have n5_ := Aside0.mk (Kd.R_lower (Kd.R_new' ho0 (Kd.R_lt (rR_ HO_238001))) (below_size (hB_ HB)))
                  have n6_ := bB_ BK226 hb
                  have n7_ := bB_ BK237 hb
                  have n8_ := bB_ BK247 hb
                  have n9_ := bB_ BK254 hb
                  have n10_ := bB_ BK262 hb
                  have n11_ := bB_ BK270 hb
                  have n12_ := bB_ BK271 hb
                  have n13_ := Aside0.mk (below_step (hB_ HB) hb)
                  clear HO_238001
                  clear HO244
                  clear HO251
                  clear HO258
                  clear HO266
                  clear BK226
                  clear BK237
                  clear BK247
                  clear BK254
                  clear BK262
                  clear BK270
                  clear BK271
                  clear HB
                  have HO_238001 := n0_
                  have HO244 := n1_
                  have HO251 := n2_
                  have HO258 := n3_
                  have HO266 := n4_
                  have HO277 := n5_
                  have BK226 := n6_
                  have BK237 := n7_
                  have BK247 := n8_
                  have BK254 := n9_
                  have BK262 := n10_
                  have BK270 := n11_
                  have BK271 := n12_
                  have HB := n13_
                  clear n0_ n1_ n2_ n3_ n4_ n5_ n6_ n7_ n8_ n9_ n10_ n11_ n12_ n13_
                  (try clear hb)
                  (try clear hb2)
                  (try clear hk)
                  (try clear hi)
                  (try clear ho0)
                  obtain ⟨Ao122, co122, eo122⟩ := Kd.R_slice HO277.out
                  (first | subst eo122 | (injection eo122 with f1_ f2_ f3_; have f4_ := f1_.symm; have f5_ := f3_.symm; clear f1_ f2_ f3_; subst f4_; subst f5_))
                  refine hK.out _ _ ⟨(blk_cell BK247.out 0).trans rfl, (blk_cell BK247.out 1).trans rfl, (blk_cell BK247.out 2).trans rfl, (blk_cell BK254.out 0).trans rfl, (blk_cell BK254.out 1).trans rfl, (blk_cell BK254.out 2).trans rfl, (blk_cell BK262.out 0).trans rfl, (blk_cell BK262.out 1).trans rfl, (blk_cell BK262.out 2).trans rfl, (blk_cell BK270.out 0).trans rfl, (blk_cell BK270.out 1).trans rfl, (blk_cell BK270.out 2).trans rfl, (blk_cell BK226.out 0).trans rfl, (blk_cell BK226.out 1).trans rfl, (blk_cell BK226.out 2).trans rfl, (blk_cell BK271.out 0).trans rfl, (blk_cell BK271.out 1).trans rfl, (blk_cell BK271.out 2).trans rfl⟩ (fun hHeld => ?_)
                  clear hK K
                  refine norm_ (a' := ?_) ?_ ?_
                  rotate_left
                  ·show Act.put _ (some 136) _ = _
                   simp only [Act.put, List.setIfInBounds_toArray, List.set_cons_zero, List.set_cons_succ, i64_w, i32_w]
                   rfl
                  refine one_ (i := 27) (N := some 138) #[true, true, true, true, true, true, true, true, true, true, true, true, true, true, true, true, true, true, true, true, true, true, true, true, true, true, true, true, false, false, false, false, false, false, false, false, false, false, false, false, false, false, false] rfl rfl (one_of HT_.out (by kernel_rfl)) (by decide) (fun K hK => ?_)
                  refine goes_ Try.func16 (by kernel_rfl) rfl #[.agg #[.int .i64 t274, .slice Ao122 t275.length co122, .bool t278], .agg #[.int .i64 a0_0, .slice A0_1 l0_1.length c0_1, .bool true]] (by rfl) rfl rfl am_ ?_
                  with_reducible refine (lodgerref03_Same.calls kj32 t274 _ _ t275 t278 a0_0 _ _ l0_1 true true _ ?side1 ?side2 ?side3 ?side4 A64.out).mono ?_
                  (case side1 => repeat (first | exact (Kd.R_reads' HO277.out).2.2 | (with_reducible refine Kd.C_alloc ?_ _) | (with_reducible refine Kd.C_drewN ?_ _) | (with_reducible refine Kd.C_drew ?_)))
                  (case side2 => exact (Kd.R_reads' HO277.out).2.1)
                  (case side3 => repeat (first | exact (Kd.C_below HR0_1.out HB.out) | (with_reducible refine Kd.C_alloc ?_ _) | (with_reducible refine Kd.C_drewN ?_ _) | (with_reducible refine Kd.C_drew ?_)))
                  (case side4 => exact HC0_1.out)
                  rintro e w123 ⟨rfl, hb⟩
                  refine ⟨_, rfl, ?_⟩
                  have n0_ := Aside0.mk (Kd.R_below (rR_ HO_238001) hb)
                  have n1_ := Aside0.mk (Kd.V_below (vV_ HO244) hb)
                  have n2_ := Aside0.mk (Kd.V_below (vV_ HO251) hb)
                  have n3_ := Aside0.mk (Kd.V_below (vV_ HO258) hb)
                  have n4_ := Aside0.mk (Kd.V_below (vV_ HO266) hb)
                  have n5_ := Aside0.mk (Kd.R_below (rR_ HO277) hb)
                  have n6_ := bB_ BK226 hb
                  have n7_ := bB_ BK237 hb
                  have n8_ := bB_ BK247 hb
                  have n9_ := bB_ BK254 hb
                  have n10_ := bB_ BK262 hb
                  have n11_ := bB_ BK270 hb
                  have n12_ := bB_ BK271 hb
                  have n13_ := Aside0.mk (below_step (hB_ HB) hb)
                  clear HO_238001
                  clear HO244
                  clear HO251
                  clear HO258
                  clear HO266
                  clear HO277
                  clear BK226
                  clear BK237
                  clear BK247
                  clear BK254
                  clear BK262
                  clear BK270
                  clear BK271
                  clear HB
                  have HO_238001 := n0_
                  have HO244 := n1_
                  have HO251 := n2_
                  have HO258 := n3_
                  have HO266 := n4_
                  have HO277 := n5_
                  have BK226 := n6_
                  have BK237 := n7_
                  have BK247 := n8_
                  have BK254 := n9_
                  have BK262 := n10_
                  have BK270 := n11_
                  have BK271 := n12_
                  have HB := n13_
                  clear n0_ n1_ n2_ n3_ n4_ n5_ n6_ n7_ n8_ n9_ n10_ n11_ n12_ n13_
                  (try clear hb)
                  (try clear hb2)
                  (try clear hk)
                  (try clear hi)
                  refine hK.out _ _ ⟨(blk_cell BK247.out 0).trans rfl, (blk_cell BK247.out 1).trans rfl, (blk_cell BK247.out 2).trans rfl, (blk_cell BK254.out 0).trans rfl, (blk_cell BK254.out 1).trans rfl, (blk_cell BK254.out 2).trans rfl, (blk_cell BK262.out 0).trans rfl, (blk_cell BK262.out 1).trans rfl, (blk_cell BK262.out 2).trans rfl, (blk_cell BK270.out 0).trans rfl, (blk_cell BK270.out 1).trans rfl, (blk_cell BK270.out 2).trans rfl, (blk_cell BK226.out 0).trans rfl, (blk_cell BK226.out 1).trans rfl, (blk_cell BK226.out 2).trans rfl, (blk_cell BK271.out 0).trans rfl, (blk_cell BK271.out 1).trans rfl, (blk_cell BK271.out 2).trans rfl⟩ (fun hHeld => ?_)
                  clear hK K
                  refine norm_ (a' := ?_) ?_ ?_
                  rotate_left
                  ·show Act.put _ (some 138) _ = _
                   simp only [Act.put, List.setIfInBounds_toArray, List.set_cons_zero, List.set_cons_succ, i64_w, i32_w]
                   rfl
                  refine pu_ (i := 28) (N := some 139) (tf 43 536870911) HT_ ?_
                  refine pu_ (i := 29) (N := some 140) (tf 43 1073741823) HT_ ?_
                  refine pu_ (i := 32) (N := some 143) (tf 43 5368709119) HT_ ?_
                  refine tk_ (i := 30) (N := some 141) (tf 43 6442450943) rfl rfl HT_ HW_ hHeld (by rintro w' ⟨s0, s1, s2, s3, s4, s5, s6, s7, s8, s9, s10, s11, s12, s13, s14, s15, s16, s17⟩; go_simp; with_reducible rfl) ?_
                  refine tk_ (i := 33) (N := some 144) (tf 43 15032385535) rfl rfl HT_ HW_ hHeld (by rintro w' ⟨s0, s1, s2, s3, s4, s5, s6, s7, s8, s9, s10, s11, s12, s13, s14, s15, s16, s17⟩; go_simp; with_reducible rfl) ?_
                  refine one_ (i := 31) (N := some 142) #[true, true, true, true, true, true, true, true, true, true, true, true, true, true, true, true, true, true, true, true, true, true, true, true, true, true, true, true, true, true, true, true, true, true, false, false, false, false, false, false, false, false, false] rfl rfl (one_of HT_.out (by kernel_rfl)) (by decide) (fun K hK => ?_)
                  refine goes_ Try.func22 (by kernel_rfl) rfl #[.agg #[.int .i64 a0_0, .slice A0_1 l0_1.length c0_1, .bool true]] (by rfl) rfl rfl am_ ?_
                  with_reducible refine (queue_Ends.calls a0_0 _ _ l0_1 true t280 _ ?side1 ?side2 A66.out).mono ?_
                  (case side1 => repeat (first | exact (Kd.C_below HR0_1.out HB.out) | (with_reducible refine Kd.C_alloc ?_ _) | (with_reducible refine Kd.C_drewN ?_ _) | (with_reducible refine Kd.C_drew ?_)))
                  (case side2 => exact HC0_1.out)
                  rintro e w124 ⟨rfl, hb⟩
                  refine ⟨_, rfl, ?_⟩
                  have n0_ := Aside0.mk (Kd.R_below (rR_ HO_238001) hb)
                  have n1_ := Aside0.mk (Kd.V_below (vV_ HO244) hb)
                  have n2_ := Aside0.mk (Kd.V_below (vV_ HO251) hb)
                  have n3_ := Aside0.mk (Kd.V_below (vV_ HO258) hb)
                  have n4_ := Aside0.mk (Kd.V_below (vV_ HO266) hb)
                  have n5_ := Aside0.mk (Kd.R_below (rR_ HO277) hb)
                  have n6_ := bB_ BK226 hb
                  have n7_ := bB_ BK237 hb
                  have n8_ := bB_ BK247 hb
                  have n9_ := bB_ BK254 hb
                  have n10_ := bB_ BK262 hb
                  have n11_ := bB_ BK270 hb
                  have n12_ := bB_ BK271 hb
                  have n13_ := Aside0.mk (below_step (hB_ HB) hb)
                  clear HO_238001
                  clear HO244
                  clear HO251
                  clear HO258
                  clear HO266
                  clear HO277
                  clear BK226
                  clear BK237
                  clear BK247
                  clear BK254
                  clear BK262
                  clear BK270
                  clear BK271
                  clear HB
                  have HO_238001 := n0_
                  have HO244 := n1_
                  have HO251 := n2_
                  have HO258 := n3_
                  have HO266 := n4_
                  have HO277 := n5_
                  have BK226 := n6_
                  have BK237 := n7_
                  have BK247 := n8_
                  have BK254 := n9_
                  have BK262 := n10_
                  have BK270 := n11_
                  have BK271 := n12_
                  have HB := n13_
                  clear n0_ n1_ n2_ n3_ n4_ n5_ n6_ n7_ n8_ n9_ n10_ n11_ n12_ n13_
                  (try clear hb)
                  (try clear hb2)
                  (try clear hk)
                  (try clear hi)
                  refine hK.out _ _ ⟨(blk_cell BK247.out 0).trans rfl, (blk_cell BK247.out 1).trans rfl, (blk_cell BK247.out 2).trans rfl, (blk_cell BK254.out 0).trans rfl, (blk_cell BK254.out 1).trans rfl, (blk_cell BK254.out 2).trans rfl, (blk_cell BK262.out 0).trans rfl, (blk_cell BK262.out 1).trans rfl, (blk_cell BK262.out 2).trans rfl, (blk_cell BK270.out 0).trans rfl, (blk_cell BK270.out 1).trans rfl, (blk_cell BK270.out 2).trans rfl, (blk_cell BK226.out 0).trans rfl, (blk_cell BK226.out 1).trans rfl, (blk_cell BK226.out 2).trans rfl, (blk_cell BK271.out 0).trans rfl, (blk_cell BK271.out 1).trans rfl, (blk_cell BK271.out 2).trans rfl⟩ (fun hHeld => ?_)
                  clear hK K
                  refine norm_ (a' := ?_) ?_ ?_
                  rotate_left
                  ·show Act.put _ (some 142) _ = _
                   simp only [Act.put, List.setIfInBounds_toArray, List.set_cons_zero, List.set_cons_succ, i64_w, i32_w]
                   rfl
                  refine pu_ (i := 34) (N := some 145) (tf 43 34359738367) HT_ ?_
                  refine pu_ (i := 35) (N := some 146) (tf 43 68719476735) HT_ ?_
                  refine tk_ (i := 36) (N := some 147) (tf 43 137438953471) rfl rfl HT_ HW_ hHeld (by rintro w' ⟨s0, s1, s2, s3, s4, s5, s6, s7, s8, s9, s10, s11, s12, s13, s14, s15, s16, s17⟩; go_simp; with_reducible rfl) ?_
                  refine pu_ (i := 37) (N := some 148) (tf 43 274877906943) HT_ ?_
                  refine pu_ (i := 38) (N := some 149) (tf 43 549755813887) HT_ ?_
                  refine pu_ (i := 39) (N := some 150) (tf 43 1099511627775) HT_ ?_
                  refine pu_ (i := 40) (N := some 151) (tf 43 2199023255551) HT_ ?_
                  refine pu_ (i := 41) (N := some 152) (tf 43 4398046511103) HT_ ?_
                  refine pu_ (i := 42) (N := some 6) (tf 43 8796093022207) HT_ ?_
                  refine done_ (done_of HT_.out (by kernel_rfl)) ?_
                  try go_wp2
                  go_ret
                  exact ⟨by first | rfl | (simp [errW_none, errW_some] <;> rfl) | (simp [*, errW_none, errW_some] <;> rfl), by repeat (first | (with_reducible first | exact HB.out | apply below_alloc | apply pw_below_drewN | apply below_drew1 | refine below_set ?_ GE226.out | refine below_set ?_ GE237.out | refine below_set ?_ GE247.out | refine below_set ?_ GE254.out | refine below_set ?_ GE262.out | refine below_set ?_ GE270.out | refine below_set ?_ GE271.out) | exact HB.out)⟩
                ·replace c67 := Bool.eq_false_iff.mpr c67
                 subst c67
                 have H1 : (some (t280 == false)) = some r := by rw [if_neg (show ¬ (false = true) by decide)] at H; exact H
                 clear H
                 have H := H1
                 clear H1
                 first | (exfalso; rw [hr_.out] at H; exact absurd (Option.some.inj H) (by decide)) | (try clear hr_)
                 all_goals
                  obtain rfl := Option.some.inj H
                  have hnb125 := NB226_237.out
                  have hnc125 := NB237_226.out
                  have hcz126_0 : wc.cell? ⟨gb226, 0, none⟩ = some (.int .i64 a0_0) := (blk_cell BK226.out 0).trans rfl
                  have hcz126_1 : wc.cell? ⟨gb226, 1, none⟩ = some (.slice A0_1 l0_1.length c0_1) := (blk_cell BK226.out 1).trans rfl
                  have hcz126_2 : wc.cell? ⟨gb226, 2, none⟩ = some (.bool false) := (blk_cell BK226.out 2).trans rfl
                  have hfz126_0 := blk_frozen BK226.out 0
                  have hfz126_1 := blk_frozen BK226.out 1
                  have hfz126_2 := blk_frozen BK226.out 2
                  try go_wp2_with (first | ((with_reducible refine gate_callee (f := 14) rfl ?_); refine goesL_ (some 83) rfl rfl Try.func14 (by kernel_rfl) rfl #[.agg #[.int .i64 a0_0, .slice A0_1 l0_1.length c0_1, .bool false]] rfl am_ ?_; (with_reducible refine (lodgerref03_May.calls a0_0 _ _ l0_1 false true _ ?side1 ?side2 A50.out).mono ?_); (case side1 => repeat (first | exact (Kd.C_below HR0_1.out HB.out) | (with_reducible refine Kd.C_alloc ?_ _) | (with_reducible refine Kd.C_drewN ?_ _) | (with_reducible refine Kd.C_drew ?_))); (case side2 => exact HC0_1.out); rintro e w127 ⟨rfl, hb⟩; refine ⟨_, rfl, ?_⟩; have n0_ := Aside0.mk (Kd.R_below (rR_ HO_238001) hb); have n1_ := bB_ BK226 hb; have n2_ := bB_ BK237 hb; have n3_ := Aside0.mk (below_step (hB_ HB) hb); clear HO_238001; clear BK226; clear BK237; clear HB; have HO_238001 := n0_; have BK226 := n1_; have BK237 := n2_; have HB := n3_; clear n0_ n1_ n2_ n3_; (try clear hb); (try clear hb2); (try clear hk); (try clear hi); have hcz128_0 : w127.cell? ⟨gb226, 0, none⟩ = some (.int .i64 a0_0) := (blk_cell BK226.out 0).trans rfl; have hcz128_1 : w127.cell? ⟨gb226, 1, none⟩ = some (.slice A0_1 l0_1.length c0_1) := (blk_cell BK226.out 1).trans rfl; have hcz128_2 : w127.cell? ⟨gb226, 2, none⟩ = some (.bool false) := (blk_cell BK226.out 2).trans rfl; have hfz128_0 := blk_frozen BK226.out 0; have hfz128_1 := blk_frozen BK226.out 1; have hfz128_2 := blk_frozen BK226.out 2) | ((with_reducible refine gate_callee (f := 17) rfl ?_); refine goesL_ (some 88) rfl rfl Try.func17 (by kernel_rfl) rfl #[.agg #[.int .i64 a0_0, .slice A0_1 l0_1.length c0_1, .bool false], .int .i64 a1] rfl am_ ?_; (with_reducible refine (queue_Put.calls a0_0 (fun k_ => k_ < w.heap.size) _ _ l0_1 false a1 t241 t242 t245 t246 _ ?side1 A52.out).mono ?_); (case side1 => exact Kd.V_mk HC0_1.out (Kd.F_below (Kd.C_F (Kd.heap_int .i64) HR0_1.out) (hB_ HB))); rintro e w129 ⟨v243, rfl, ho0, hb⟩; refine ⟨_, rfl, ?_⟩; have n0_ := Aside0.mk (Kd.R_below (rR_ HO_238001) hb); have n1_ := Aside0.mk (Kd.V_lower (Kd.V_mono (ok' := fun k_ => some k_ ≠ (.slice Ao31 t232.length co31 : Value).ownBlock ∧ k_ ≠ gb226 ∧ k_ ≠ gb237) ho0 (fun k_ hk_ => ⟨Or.elim hk_ (fun hs_ => fun e_ => Nat.not_le.2 hs_ (Kd.R_base HO_238001.out k_ e_.symm)) (fun hn_ => (Kd.fresh' (Kd.R_lt (rR_ HO_238001)) k_ hn_)), Or.elim hk_ (fun hs_ => fun e_ => Nat.not_le.2 hs_ (by rw [e_]; exact GW226.out)) (fun hn_ => (Kd.freshB (g := gb226) (o := .cells #[.int .i64 a0_0, .slice A0_1 l0_1.length c0_1, .bool false] 34 (0, 0)) (bk_ BK226) k_ hn_)), Or.elim hk_ (fun hs_ => fun e_ => Nat.not_le.2 hs_ (by rw [e_]; exact GW237.out)) (fun hn_ => (Kd.freshB (g := gb237) (o := .cells #[.int .i64 t231, .slice Ao31 t232.length co31, .bool t235] 34 (0, 0)) (bk_ BK237) k_ hn_))⟩)) (below_size (hB_ HB))); have n2_ := bB_ BK226 hb; have n3_ := bB_ BK237 hb; have n4_ := Aside0.mk (below_step (hB_ HB) hb); clear HO_238001; clear BK226; clear BK237; clear HB; have HO_238001 := n0_; have HO244 := n1_; have BK226 := n2_; have BK237 := n3_; have HB := n4_; clear n0_ n1_ n2_ n3_ n4_; (try clear hb); (try clear hb2); (try clear hk); (try clear hi); (try clear ho0)) | ((with_reducible refine gate_dst (N := 10) rfl ?_); (try (refine gate_guard (by rfl) ?_; dsimp only)); refine box_event ?hg (N := 10) ?hd (cs := #[.int .i64 0, .slice none 0 0, .bool false]) (t := 34) ?hr ?_; (case hd => rfl); (case hg => rfl); (case hr => first | (go_simp; done) | (go_simp; rfl)); intro gb247 hg w130 hbox hb; have n0_ := Aside0.mk (Kd.R_below (rR_ HO_238001) hb); have n1_ := Aside0.mk (Kd.V_below (Kd.V_elderB (vV_ HO244) gb247 (Nat.le_of_eq hg.symm)) hb); have n2_ := bB_ BK226 hb; have n3_ := bB_ BK237 hb; have n4_ := Aside0.mk (below_step (hB_ HB) hb); have n5_ := Aside0.mk (hbox); have n6_ := Aside0.mk ((by rw [hg]; exact (below_size (hB_ HB)) : w.heap.size ≤ gb247)); have n7_ := Aside0.mk ((by rw [hg]; exact (below_size (hB_ HB)) : w.heap.size ≤ gb247)); have n8_ := Aside0.mk ((by rw [hg]; exact Nat.ne_of_lt (blk_lt (g := gb226) (o := .cells #[.int .i64 a0_0, .slice A0_1 l0_1.length c0_1, .bool false] 34 (0, 0)) (bk_ BK226)) : gb226 ≠ gb247)); have n9_ := Aside0.mk ((by rw [hg]; exact Nat.ne_of_gt (blk_lt (g := gb226) (o := .cells #[.int .i64 a0_0, .slice A0_1 l0_1.length c0_1, .bool false] 34 (0, 0)) (bk_ BK226)) : gb247 ≠ gb226)); have n10_ := Aside0.mk ((by rw [hg]; exact Nat.ne_of_lt (blk_lt (g := gb237) (o := .cells #[.int .i64 t231, .slice Ao31 t232.length co31, .bool t235] 34 (0, 0)) (bk_ BK237)) : gb237 ≠ gb247)); have n11_ := Aside0.mk ((by rw [hg]; exact Nat.ne_of_gt (blk_lt (g := gb237) (o := .cells #[.int .i64 t231, .slice Ao31 t232.length co31, .bool t235] 34 (0, 0)) (bk_ BK237)) : gb247 ≠ gb237)); clear HO_238001; clear HO244; clear BK226; clear BK237; clear HB; have HO_238001 := n0_; have HO244 := n1_; have BK226 := n2_; have BK237 := n3_; have HB := n4_; have BK247 := n5_; have GW247 := n6_; have GE247 := n7_; have NB226_247 := n8_; have NB247_226 := n9_; have NB237_247 := n10_; have NB247_237 := n11_; clear n0_ n1_ n2_ n3_ n4_ n5_ n6_ n7_ n8_ n9_ n10_ n11_; clear hb hbox hg; have hnb131 := NB247_226.out; have hnc131 := NB226_247.out; have hnb132 := NB247_237.out; have hnc132 := NB237_247.out; have hcz133_0 : w130.cell? ⟨gb247, 0, none⟩ = some (.int .i64 0) := (blk_cell BK247.out 0).trans rfl; have hcz133_1 : w130.cell? ⟨gb247, 1, none⟩ = some (.slice none 0 0) := (blk_cell BK247.out 1).trans rfl; have hcz133_2 : w130.cell? ⟨gb247, 2, none⟩ = some (.bool false) := (blk_cell BK247.out 2).trans rfl; have hfz133_0 := blk_frozen BK247.out 0; have hfz133_1 := blk_frozen BK247.out 1; have hfz133_2 := blk_frozen BK247.out 2; obtain ⟨Ao134, co134, eo134⟩ := Kd.V_slice HO244.out; subst eo134) | ((with_reducible refine gate_store (t := 34) (p := 10) rfl ?_); refine store_event (t := 34) (p := 10) (v := ?vo_w135) (w1 := (((w130.setCell ⟨gb247, 0, none⟩ (.int .i64 t241)).setCell ⟨gb247, 1, none⟩ (.slice Ao134 t242.length co134)).setCell ⟨gb247, 2, none⟩ (.bool t245))) ?hg ?ho ?hn ?hr ?_; (case ho => rfl); (case hg => rfl); (case hn => rfl); (case hr => first | (go_simp; done) | (go_simp; rfl)); intro w135 hw; have n0_ : Aside0 (Kd.R (Kd.int .i64) 3 w135 w.heap.size (fun _ => True) (.slice Ao31 t232.length co31) t232) := ⟨(by rw [hw]; exact (by (with_reducible repeat (first | apply Kd.R_alloc | apply Kd.R_drewN | apply Kd.R_drew)); exact Kd.R_mono (Kd.R_far (p := ⟨gb247, 2, none⟩) (Kd.R_far (p := ⟨gb247, 1, none⟩) (Kd.R_far (p := ⟨gb247, 0, none⟩) (Kd.R_types HO_238001.out BK247.out (by decide)) (fun _ hk => hk.2) (.int .i64 t241)) (fun _ hk => hk.2) (.slice Ao134 t242.length co134)) (fun _ hk => hk.2) (.bool t245)) (fun _ hk => trivial)))⟩; have n1_ : Aside0 (Kd.V (Kd.int .i64) 3 w135 w.heap.size (fun k_ => some k_ ≠ (.slice Ao31 t232.length co31 : Value).ownBlock ∧ k_ ≠ gb226 ∧ k_ ≠ gb237 ∧ k_ ≠ gb247) (.slice Ao134 t242.length co134) t242) := ⟨(by rw [hw]; exact (by (with_reducible repeat (first | apply Kd.V_alloc | apply Kd.V_drewN | apply Kd.V_drew)); exact Kd.V_mono (Kd.V_far (p := ⟨gb247, 2, none⟩) (Kd.V_far (p := ⟨gb247, 1, none⟩) (Kd.V_far (p := ⟨gb247, 0, none⟩) (Kd.V_mono HO244.out (fun k_ hk => (⟨hk, hk.2⟩ : _ ∧ k_ ≠ gb247))) (fun _ hk => hk.2) (.int .i64 t241)) (fun _ hk => hk.2) (.slice Ao134 t242.length co134)) (fun _ hk => hk.2) (.bool t245)) (fun _ hk => ⟨hk.1.1.1, ⟨hk.1.1.2.1, ⟨hk.1.1.2.2, hk.1.2⟩⟩⟩)))⟩; have n2_ : Aside0 (w135.heap[gb226]? = some (.cells #[.int .i64 a0_0, .slice A0_1 l0_1.length c0_1, .bool false] 34 (0, 0))) := ⟨(by rw [hw]; exact (by (with_reducible repeat (first | refine blk_drewN ?_ _ | refine blk_drew ?_ | refine blk_alloc ?_ _)); refine blk_far ?_ NB226_247.out _; (with_reducible repeat (first | refine blk_drewN ?_ _ | refine blk_drew ?_ | refine blk_alloc ?_ _)); refine blk_far ?_ NB226_247.out _; (with_reducible repeat (first | refine blk_drewN ?_ _ | refine blk_drew ?_ | refine blk_alloc ?_ _)); refine blk_far ?_ NB226_247.out _; (with_reducible repeat (first | refine blk_drewN ?_ _ | refine blk_drew ?_ | refine blk_alloc ?_ _)); exact BK226.out))⟩; have n3_ : Aside0 (w135.heap[gb237]? = some (.cells #[.int .i64 t231, .slice Ao31 t232.length co31, .bool t235] 34 (0, 0))) := ⟨(by rw [hw]; exact (by (with_reducible repeat (first | refine blk_drewN ?_ _ | refine blk_drew ?_ | refine blk_alloc ?_ _)); refine blk_far ?_ NB237_247.out _; (with_reducible repeat (first | refine blk_drewN ?_ _ | refine blk_drew ?_ | refine blk_alloc ?_ _)); refine blk_far ?_ NB237_247.out _; (with_reducible repeat (first | refine blk_drewN ?_ _ | refine blk_drew ?_ | refine blk_alloc ?_ _)); refine blk_far ?_ NB237_247.out _; (with_reducible repeat (first | refine blk_drewN ?_ _ | refine blk_drew ?_ | refine blk_alloc ?_ _)); exact BK237.out))⟩; have n4_ : Aside0 (w135.heap[gb247]? = some (.cells #[.int .i64 t241, .slice Ao134 t242.length co134, .bool t245] 34 (0, 0))) := ⟨(by rw [hw]; exact (by (with_reducible repeat (first | refine blk_drewN ?_ _ | refine blk_drew ?_ | refine blk_alloc ?_ _)); refine blk_put (cs := #[.int .i64 t241, .slice Ao134 t242.length co134, .bool false]) ?_ 2 _ rfl; (with_reducible repeat (first | refine blk_drewN ?_ _ | refine blk_drew ?_ | refine blk_alloc ?_ _)); refine blk_put (cs := #[.int .i64 t241, .slice none 0 0, .bool false]) ?_ 1 _ rfl; (with_reducible repeat (first | refine blk_drewN ?_ _ | refine blk_drew ?_ | refine blk_alloc ?_ _)); refine blk_put (cs := #[.int .i64 0, .slice none 0 0, .bool false]) ?_ 0 _ rfl; (with_reducible repeat (first | refine blk_drewN ?_ _ | refine blk_drew ?_ | refine blk_alloc ?_ _)); exact BK247.out))⟩; have n5_ : Aside0 (Below w.heap.size w w135) := ⟨(by rw [hw]; exact (hB_ HB))⟩; clear hw; clear HO_238001; clear HO244; clear BK226; clear BK237; clear BK247; clear HB; have HO_238001 := n0_; have HO244 := n1_; have BK226 := n2_; have BK237 := n3_; have BK247 := n4_; have HB := n5_; clear n0_ n1_ n2_ n3_ n4_ n5_; have hcz136_0 : w135.cell? ⟨gb226, 0, none⟩ = some (.int .i64 a0_0) := (blk_cell BK226.out 0).trans rfl; have hcz136_1 : w135.cell? ⟨gb226, 1, none⟩ = some (.slice A0_1 l0_1.length c0_1) := (blk_cell BK226.out 1).trans rfl; have hcz136_2 : w135.cell? ⟨gb226, 2, none⟩ = some (.bool false) := (blk_cell BK226.out 2).trans rfl; have hfz136_0 := blk_frozen BK226.out 0; have hfz136_1 := blk_frozen BK226.out 1; have hfz136_2 := blk_frozen BK226.out 2) | ((with_reducible refine gate_callee (f := 18) rfl ?_); refine goesL_ (some 94) rfl rfl Try.func18 (by kernel_rfl) rfl #[.agg #[.int .i64 a0_0, .slice A0_1 l0_1.length c0_1, .bool false], .int .i64 a1] rfl am_ ?_; (with_reducible refine (lodgerref03_Put.calls a0_0 (fun k_ => k_ < w.heap.size) _ _ l0_1 false a1 t248 t249 t252 t253 _ ?side1 A53.out).mono ?_); (case side1 => exact Kd.V_mk HC0_1.out (Kd.F_below (Kd.C_F (Kd.heap_int .i64) HR0_1.out) (hB_ HB))); rintro e w137 ⟨v250, rfl, ho0, hb⟩; refine ⟨_, rfl, ?_⟩; have n0_ := Aside0.mk (Kd.R_below (rR_ HO_238001) hb); have n1_ := Aside0.mk (Kd.V_below (vV_ HO244) hb); have n2_ := Aside0.mk (Kd.V_lower (Kd.V_mono (ok' := fun k_ => some k_ ≠ (.slice Ao31 t232.length co31 : Value).ownBlock ∧ k_ ≠ gb226 ∧ k_ ≠ gb237 ∧ k_ ≠ gb247) ho0 (fun k_ hk_ => ⟨Or.elim hk_ (fun hs_ => fun e_ => Nat.not_le.2 hs_ (Kd.R_base HO_238001.out k_ e_.symm)) (fun hn_ => (Kd.fresh' (Kd.R_lt (rR_ HO_238001)) k_ hn_)), Or.elim hk_ (fun hs_ => fun e_ => Nat.not_le.2 hs_ (by rw [e_]; exact GW226.out)) (fun hn_ => (Kd.freshB (g := gb226) (o := .cells #[.int .i64 a0_0, .slice A0_1 l0_1.length c0_1, .bool false] 34 (0, 0)) (bk_ BK226) k_ hn_)), Or.elim hk_ (fun hs_ => fun e_ => Nat.not_le.2 hs_ (by rw [e_]; exact GW237.out)) (fun hn_ => (Kd.freshB (g := gb237) (o := .cells #[.int .i64 t231, .slice Ao31 t232.length co31, .bool t235] 34 (0, 0)) (bk_ BK237) k_ hn_)), Or.elim hk_ (fun hs_ => fun e_ => Nat.not_le.2 hs_ (by rw [e_]; exact GW247.out)) (fun hn_ => (Kd.freshB (g := gb247) (o := .cells #[.int .i64 t241, .slice Ao134 t242.length co134, .bool t245] 34 (0, 0)) (bk_ BK247) k_ hn_))⟩)) (below_size (hB_ HB))); have n3_ := bB_ BK226 hb; have n4_ := bB_ BK237 hb; have n5_ := bB_ BK247 hb; have n6_ := Aside0.mk (below_step (hB_ HB) hb); clear HO_238001; clear HO244; clear BK226; clear BK237; clear BK247; clear HB; have HO_238001 := n0_; have HO244 := n1_; have HO251 := n2_; have BK226 := n3_; have BK237 := n4_; have BK247 := n5_; have HB := n6_; clear n0_ n1_ n2_ n3_ n4_ n5_ n6_; (try clear hb); (try clear hb2); (try clear hk); (try clear hi); (try clear ho0)) | ((with_reducible refine gate_dst (N := 12) rfl ?_); (try (refine gate_guard (by rfl) ?_; dsimp only)); refine box_event ?hg (N := 12) ?hd (cs := #[.int .i64 0, .slice none 0 0, .bool false]) (t := 34) ?hr ?_; (case hd => rfl); (case hg => rfl); (case hr => first | (go_simp; done) | (go_simp; rfl)); intro gb254 hg w138 hbox hb; have n0_ := Aside0.mk (Kd.R_below (rR_ HO_238001) hb); have n1_ := Aside0.mk (Kd.V_below (Kd.V_elderB (vV_ HO244) gb254 (Nat.le_of_eq hg.symm)) hb); have n2_ := Aside0.mk (Kd.V_below (Kd.V_elderB (vV_ HO251) gb254 (Nat.le_of_eq hg.symm)) hb); have n3_ := bB_ BK226 hb; have n4_ := bB_ BK237 hb; have n5_ := bB_ BK247 hb; have n6_ := Aside0.mk (below_step (hB_ HB) hb); have n7_ := Aside0.mk (hbox); have n8_ := Aside0.mk ((by rw [hg]; exact (below_size (hB_ HB)) : w.heap.size ≤ gb254)); have n9_ := Aside0.mk ((by rw [hg]; exact (below_size (hB_ HB)) : w.heap.size ≤ gb254)); have n10_ := Aside0.mk ((by rw [hg]; exact Nat.ne_of_lt (blk_lt (g := gb226) (o := .cells #[.int .i64 a0_0, .slice A0_1 l0_1.length c0_1, .bool false] 34 (0, 0)) (bk_ BK226)) : gb226 ≠ gb254)); have n11_ := Aside0.mk ((by rw [hg]; exact Nat.ne_of_gt (blk_lt (g := gb226) (o := .cells #[.int .i64 a0_0, .slice A0_1 l0_1.length c0_1, .bool false] 34 (0, 0)) (bk_ BK226)) : gb254 ≠ gb226)); have n12_ := Aside0.mk ((by rw [hg]; exact Nat.ne_of_lt (blk_lt (g := gb237) (o := .cells #[.int .i64 t231, .slice Ao31 t232.length co31, .bool t235] 34 (0, 0)) (bk_ BK237)) : gb237 ≠ gb254)); have n13_ := Aside0.mk ((by rw [hg]; exact Nat.ne_of_gt (blk_lt (g := gb237) (o := .cells #[.int .i64 t231, .slice Ao31 t232.length co31, .bool t235] 34 (0, 0)) (bk_ BK237)) : gb254 ≠ gb237)); have n14_ := Aside0.mk ((by rw [hg]; exact Nat.ne_of_lt (blk_lt (g := gb247) (o := .cells #[.int .i64 t241, .slice Ao134 t242.length co134, .bool t245] 34 (0, 0)) (bk_ BK247)) : gb247 ≠ gb254)); have n15_ := Aside0.mk ((by rw [hg]; exact Nat.ne_of_gt (blk_lt (g := gb247) (o := .cells #[.int .i64 t241, .slice Ao134 t242.length co134, .bool t245] 34 (0, 0)) (bk_ BK247)) : gb254 ≠ gb247)); clear HO_238001; clear HO244; clear HO251; clear BK226; clear BK237; clear BK247; clear HB; have HO_238001 := n0_; have HO244 := n1_; have HO251 := n2_; have BK226 := n3_; have BK237 := n4_; have BK247 := n5_; have HB := n6_; have BK254 := n7_; have GW254 := n8_; have GE254 := n9_; have NB226_254 := n10_; have NB254_226 := n11_; have NB237_254 := n12_; have NB254_237 := n13_; have NB247_254 := n14_; have NB254_247 := n15_; clear n0_ n1_ n2_ n3_ n4_ n5_ n6_ n7_ n8_ n9_ n10_ n11_ n12_ n13_ n14_ n15_; clear hb hbox hg; have hnb139 := NB254_226.out; have hnc139 := NB226_254.out; have hnb140 := NB254_237.out; have hnc140 := NB237_254.out; have hnb141 := NB254_247.out; have hnc141 := NB247_254.out; have hcz142_0 : w138.cell? ⟨gb254, 0, none⟩ = some (.int .i64 0) := (blk_cell BK254.out 0).trans rfl; have hcz142_1 : w138.cell? ⟨gb254, 1, none⟩ = some (.slice none 0 0) := (blk_cell BK254.out 1).trans rfl; have hcz142_2 : w138.cell? ⟨gb254, 2, none⟩ = some (.bool false) := (blk_cell BK254.out 2).trans rfl; have hfz142_0 := blk_frozen BK254.out 0; have hfz142_1 := blk_frozen BK254.out 1; have hfz142_2 := blk_frozen BK254.out 2; obtain ⟨Ao143, co143, eo143⟩ := Kd.V_slice HO251.out; subst eo143) | ((with_reducible refine gate_store (t := 34) (p := 12) rfl ?_); refine store_event (t := 34) (p := 12) (v := ?vo_w144) (w1 := (((w138.setCell ⟨gb254, 0, none⟩ (.int .i64 t248)).setCell ⟨gb254, 1, none⟩ (.slice Ao143 t249.length co143)).setCell ⟨gb254, 2, none⟩ (.bool t252))) ?hg ?ho ?hn ?hr ?_; (case ho => rfl); (case hg => rfl); (case hn => rfl); (case hr => first | (go_simp; done) | (go_simp; rfl)); intro w144 hw; have n0_ : Aside0 (Kd.R (Kd.int .i64) 3 w144 w.heap.size (fun _ => True) (.slice Ao31 t232.length co31) t232) := ⟨(by rw [hw]; exact (by (with_reducible repeat (first | apply Kd.R_alloc | apply Kd.R_drewN | apply Kd.R_drew)); exact Kd.R_mono (Kd.R_far (p := ⟨gb254, 2, none⟩) (Kd.R_far (p := ⟨gb254, 1, none⟩) (Kd.R_far (p := ⟨gb254, 0, none⟩) (Kd.R_types HO_238001.out BK254.out (by decide)) (fun _ hk => hk.2) (.int .i64 t248)) (fun _ hk => hk.2) (.slice Ao143 t249.length co143)) (fun _ hk => hk.2) (.bool t252)) (fun _ hk => trivial)))⟩; have n1_ : Aside0 (Kd.V (Kd.int .i64) 3 w144 w.heap.size (fun k_ => some k_ ≠ (.slice Ao31 t232.length co31 : Value).ownBlock ∧ k_ ≠ gb226 ∧ k_ ≠ gb237 ∧ k_ ≠ gb247 ∧ k_ ≠ gb254) (.slice Ao134 t242.length co134) t242) := ⟨(by rw [hw]; exact (by (with_reducible repeat (first | apply Kd.V_alloc | apply Kd.V_drewN | apply Kd.V_drew)); exact Kd.V_mono (Kd.V_far (p := ⟨gb254, 2, none⟩) (Kd.V_far (p := ⟨gb254, 1, none⟩) (Kd.V_far (p := ⟨gb254, 0, none⟩) (Kd.V_mono HO244.out (fun k_ hk => (⟨hk, hk.2⟩ : _ ∧ k_ ≠ gb254))) (fun _ hk => hk.2) (.int .i64 t248)) (fun _ hk => hk.2) (.slice Ao143 t249.length co143)) (fun _ hk => hk.2) (.bool t252)) (fun _ hk => ⟨hk.1.1.1, ⟨hk.1.1.2.1, ⟨hk.1.1.2.2.1, ⟨hk.1.1.2.2.2, hk.1.2⟩⟩⟩⟩)))⟩; have n2_ : Aside0 (Kd.V (Kd.int .i64) 3 w144 w.heap.size (fun k_ => some k_ ≠ (.slice Ao31 t232.length co31 : Value).ownBlock ∧ k_ ≠ gb226 ∧ k_ ≠ gb237 ∧ k_ ≠ gb247 ∧ k_ ≠ gb254) (.slice Ao143 t249.length co143) t249) := ⟨(by rw [hw]; exact (by (with_reducible repeat (first | apply Kd.V_alloc | apply Kd.V_drewN | apply Kd.V_drew)); exact Kd.V_mono (Kd.V_far (p := ⟨gb254, 2, none⟩) (Kd.V_far (p := ⟨gb254, 1, none⟩) (Kd.V_far (p := ⟨gb254, 0, none⟩) (Kd.V_mono HO251.out (fun k_ hk => (⟨hk, hk.2⟩ : _ ∧ k_ ≠ gb254))) (fun _ hk => hk.2) (.int .i64 t248)) (fun _ hk => hk.2) (.slice Ao143 t249.length co143)) (fun _ hk => hk.2) (.bool t252)) (fun _ hk => ⟨hk.1.1.1, ⟨hk.1.1.2.1, ⟨hk.1.1.2.2.1, ⟨hk.1.1.2.2.2, hk.1.2⟩⟩⟩⟩)))⟩; have n3_ : Aside0 (w144.heap[gb226]? = some (.cells #[.int .i64 a0_0, .slice A0_1 l0_1.length c0_1, .bool false] 34 (0, 0))) := ⟨(by rw [hw]; exact (by (with_reducible repeat (first | refine blk_drewN ?_ _ | refine blk_drew ?_ | refine blk_alloc ?_ _)); refine blk_far ?_ NB226_254.out _; (with_reducible repeat (first | refine blk_drewN ?_ _ | refine blk_drew ?_ | refine blk_alloc ?_ _)); refine blk_far ?_ NB226_254.out _; (with_reducible repeat (first | refine blk_drewN ?_ _ | refine blk_drew ?_ | refine blk_alloc ?_ _)); refine blk_far ?_ NB226_254.out _; (with_reducible repeat (first | refine blk_drewN ?_ _ | refine blk_drew ?_ | refine blk_alloc ?_ _)); exact BK226.out))⟩; have n4_ : Aside0 (w144.heap[gb237]? = some (.cells #[.int .i64 t231, .slice Ao31 t232.length co31, .bool t235] 34 (0, 0))) := ⟨(by rw [hw]; exact (by (with_reducible repeat (first | refine blk_drewN ?_ _ | refine blk_drew ?_ | refine blk_alloc ?_ _)); refine blk_far ?_ NB237_254.out _; (with_reducible repeat (first | refine blk_drewN ?_ _ | refine blk_drew ?_ | refine blk_alloc ?_ _)); refine blk_far ?_ NB237_254.out _; (with_reducible repeat (first | refine blk_drewN ?_ _ | refine blk_drew ?_ | refine blk_alloc ?_ _)); refine blk_far ?_ NB237_254.out _; (with_reducible repeat (first | refine blk_drewN ?_ _ | refine blk_drew ?_ | refine blk_alloc ?_ _)); exact BK237.out))⟩; have n5_ : Aside0 (w144.heap[gb247]? = some (.cells #[.int .i64 t241, .slice Ao134 t242.length co134, .bool t245] 34 (0, 0))) := ⟨(by rw [hw]; exact (by (with_reducible repeat (first | refine blk_drewN ?_ _ | refine blk_drew ?_ | refine blk_alloc ?_ _)); refine blk_far ?_ NB247_254.out _; (with_reducible repeat (first | refine blk_drewN ?_ _ | refine blk_drew ?_ | refine blk_alloc ?_ _)); refine blk_far ?_ NB247_254.out _; (with_reducible repeat (first | refine blk_drewN ?_ _ | refine blk_drew ?_ | refine blk_alloc ?_ _)); refine blk_far ?_ NB247_254.out _; (with_reducible repeat (first | refine blk_drewN ?_ _ | refine blk_drew ?_ | refine blk_alloc ?_ _)); exact BK247.out))⟩; have n6_ : Aside0 (w144.heap[gb254]? = some (.cells #[.int .i64 t248, .slice Ao143 t249.length co143, .bool t252] 34 (0, 0))) := ⟨(by rw [hw]; exact (by (with_reducible repeat (first | refine blk_drewN ?_ _ | refine blk_drew ?_ | refine blk_alloc ?_ _)); refine blk_put (cs := #[.int .i64 t248, .slice Ao143 t249.length co143, .bool false]) ?_ 2 _ rfl; (with_reducible repeat (first | refine blk_drewN ?_ _ | refine blk_drew ?_ | refine blk_alloc ?_ _)); refine blk_put (cs := #[.int .i64 t248, .slice none 0 0, .bool false]) ?_ 1 _ rfl; (with_reducible repeat (first | refine blk_drewN ?_ _ | refine blk_drew ?_ | refine blk_alloc ?_ _)); refine blk_put (cs := #[.int .i64 0, .slice none 0 0, .bool false]) ?_ 0 _ rfl; (with_reducible repeat (first | refine blk_drewN ?_ _ | refine blk_drew ?_ | refine blk_alloc ?_ _)); exact BK254.out))⟩; have n7_ : Aside0 (Below w.heap.size w w144) := ⟨(by rw [hw]; exact (hB_ HB))⟩; clear hw; clear HO_238001; clear HO244; clear HO251; clear BK226; clear BK237; clear BK247; clear BK254; clear HB; have HO_238001 := n0_; have HO244 := n1_; have HO251 := n2_; have BK226 := n3_; have BK237 := n4_; have BK247 := n5_; have BK254 := n6_; have HB := n7_; clear n0_ n1_ n2_ n3_ n4_ n5_ n6_ n7_; have hcz145_0 : w144.cell? ⟨gb226, 0, none⟩ = some (.int .i64 a0_0) := (blk_cell BK226.out 0).trans rfl; have hcz145_1 : w144.cell? ⟨gb226, 1, none⟩ = some (.slice A0_1 l0_1.length c0_1) := (blk_cell BK226.out 1).trans rfl; have hcz145_2 : w144.cell? ⟨gb226, 2, none⟩ = some (.bool false) := (blk_cell BK226.out 2).trans rfl; have hfz145_0 := blk_frozen BK226.out 0; have hfz145_1 := blk_frozen BK226.out 1; have hfz145_2 := blk_frozen BK226.out 2) | ((with_reducible refine gate_callee (f := 19) rfl ?_); refine goesL_ (some 99) rfl rfl Try.func19 (by kernel_rfl) rfl #[.agg #[.int .i64 a0_0, .slice A0_1 l0_1.length c0_1, .bool false]] rfl am_ ?_; (with_reducible refine (queue_Take.calls a0_0 (fun k_ => k_ < w.heap.size) _ _ l0_1 false t255 t256 t259 t260 t261 _ ?side1 A54.out).mono ?_); (case side1 => exact Kd.V_mk HC0_1.out (Kd.F_below (Kd.C_F (Kd.heap_int .i64) HR0_1.out) (hB_ HB))); rintro e w146 ⟨v257, rfl, ho0, hb⟩; refine ⟨_, rfl, ?_⟩; have n0_ := Aside0.mk (Kd.R_below (rR_ HO_238001) hb); have n1_ := Aside0.mk (Kd.V_below (vV_ HO244) hb); have n2_ := Aside0.mk (Kd.V_below (vV_ HO251) hb); have n3_ := Aside0.mk (Kd.V_lower (Kd.V_mono (ok' := fun k_ => some k_ ≠ (.slice Ao31 t232.length co31 : Value).ownBlock ∧ k_ ≠ gb226 ∧ k_ ≠ gb237 ∧ k_ ≠ gb247 ∧ k_ ≠ gb254) ho0 (fun k_ hk_ => ⟨Or.elim hk_ (fun hs_ => fun e_ => Nat.not_le.2 hs_ (Kd.R_base HO_238001.out k_ e_.symm)) (fun hn_ => (Kd.fresh' (Kd.R_lt (rR_ HO_238001)) k_ hn_)), Or.elim hk_ (fun hs_ => fun e_ => Nat.not_le.2 hs_ (by rw [e_]; exact GW226.out)) (fun hn_ => (Kd.freshB (g := gb226) (o := .cells #[.int .i64 a0_0, .slice A0_1 l0_1.length c0_1, .bool false] 34 (0, 0)) (bk_ BK226) k_ hn_)), Or.elim hk_ (fun hs_ => fun e_ => Nat.not_le.2 hs_ (by rw [e_]; exact GW237.out)) (fun hn_ => (Kd.freshB (g := gb237) (o := .cells #[.int .i64 t231, .slice Ao31 t232.length co31, .bool t235] 34 (0, 0)) (bk_ BK237) k_ hn_)), Or.elim hk_ (fun hs_ => fun e_ => Nat.not_le.2 hs_ (by rw [e_]; exact GW247.out)) (fun hn_ => (Kd.freshB (g := gb247) (o := .cells #[.int .i64 t241, .slice Ao134 t242.length co134, .bool t245] 34 (0, 0)) (bk_ BK247) k_ hn_)), Or.elim hk_ (fun hs_ => fun e_ => Nat.not_le.2 hs_ (by rw [e_]; exact GW254.out)) (fun hn_ => (Kd.freshB (g := gb254) (o := .cells #[.int .i64 t248, .slice Ao143 t249.length co143, .bool t252] 34 (0, 0)) (bk_ BK254) k_ hn_))⟩)) (below_size (hB_ HB))); have n4_ := bB_ BK226 hb; have n5_ := bB_ BK237 hb; have n6_ := bB_ BK247 hb; have n7_ := bB_ BK254 hb; have n8_ := Aside0.mk (below_step (hB_ HB) hb); clear HO_238001; clear HO244; clear HO251; clear BK226; clear BK237; clear BK247; clear BK254; clear HB; have HO_238001 := n0_; have HO244 := n1_; have HO251 := n2_; have HO258 := n3_; have BK226 := n4_; have BK237 := n5_; have BK247 := n6_; have BK254 := n7_; have HB := n8_; clear n0_ n1_ n2_ n3_ n4_ n5_ n6_ n7_ n8_; (try clear hb); (try clear hb2); (try clear hk); (try clear hi); (try clear ho0)) | ((with_reducible refine gate_dst (N := 14) rfl ?_); (try (refine gate_guard (by rfl) ?_; dsimp only)); refine box_event ?hg (N := 14) ?hd (cs := #[.int .i64 0, .slice none 0 0, .bool false]) (t := 34) ?hr ?_; (case hd => rfl); (case hg => rfl); (case hr => first | (go_simp; done) | (go_simp; rfl)); intro gb262 hg w147 hbox hb; have n0_ := Aside0.mk (Kd.R_below (rR_ HO_238001) hb); have n1_ := Aside0.mk (Kd.V_below (Kd.V_elderB (vV_ HO244) gb262 (Nat.le_of_eq hg.symm)) hb); have n2_ := Aside0.mk (Kd.V_below (Kd.V_elderB (vV_ HO251) gb262 (Nat.le_of_eq hg.symm)) hb); have n3_ := Aside0.mk (Kd.V_below (Kd.V_elderB (vV_ HO258) gb262 (Nat.le_of_eq hg.symm)) hb); have n4_ := bB_ BK226 hb; have n5_ := bB_ BK237 hb; have n6_ := bB_ BK247 hb; have n7_ := bB_ BK254 hb; have n8_ := Aside0.mk (below_step (hB_ HB) hb); have n9_ := Aside0.mk (hbox); have n10_ := Aside0.mk ((by rw [hg]; exact (below_size (hB_ HB)) : w.heap.size ≤ gb262)); have n11_ := Aside0.mk ((by rw [hg]; exact (below_size (hB_ HB)) : w.heap.size ≤ gb262)); have n12_ := Aside0.mk ((by rw [hg]; exact Nat.ne_of_lt (blk_lt (g := gb226) (o := .cells #[.int .i64 a0_0, .slice A0_1 l0_1.length c0_1, .bool false] 34 (0, 0)) (bk_ BK226)) : gb226 ≠ gb262)); have n13_ := Aside0.mk ((by rw [hg]; exact Nat.ne_of_gt (blk_lt (g := gb226) (o := .cells #[.int .i64 a0_0, .slice A0_1 l0_1.length c0_1, .bool false] 34 (0, 0)) (bk_ BK226)) : gb262 ≠ gb226)); have n14_ := Aside0.mk ((by rw [hg]; exact Nat.ne_of_lt (blk_lt (g := gb237) (o := .cells #[.int .i64 t231, .slice Ao31 t232.length co31, .bool t235] 34 (0, 0)) (bk_ BK237)) : gb237 ≠ gb262)); have n15_ := Aside0.mk ((by rw [hg]; exact Nat.ne_of_gt (blk_lt (g := gb237) (o := .cells #[.int .i64 t231, .slice Ao31 t232.length co31, .bool t235] 34 (0, 0)) (bk_ BK237)) : gb262 ≠ gb237)); have n16_ := Aside0.mk ((by rw [hg]; exact Nat.ne_of_lt (blk_lt (g := gb247) (o := .cells #[.int .i64 t241, .slice Ao134 t242.length co134, .bool t245] 34 (0, 0)) (bk_ BK247)) : gb247 ≠ gb262)); have n17_ := Aside0.mk ((by rw [hg]; exact Nat.ne_of_gt (blk_lt (g := gb247) (o := .cells #[.int .i64 t241, .slice Ao134 t242.length co134, .bool t245] 34 (0, 0)) (bk_ BK247)) : gb262 ≠ gb247)); have n18_ := Aside0.mk ((by rw [hg]; exact Nat.ne_of_lt (blk_lt (g := gb254) (o := .cells #[.int .i64 t248, .slice Ao143 t249.length co143, .bool t252] 34 (0, 0)) (bk_ BK254)) : gb254 ≠ gb262)); have n19_ := Aside0.mk ((by rw [hg]; exact Nat.ne_of_gt (blk_lt (g := gb254) (o := .cells #[.int .i64 t248, .slice Ao143 t249.length co143, .bool t252] 34 (0, 0)) (bk_ BK254)) : gb262 ≠ gb254)); clear HO_238001; clear HO244; clear HO251; clear HO258; clear BK226; clear BK237; clear BK247; clear BK254; clear HB; have HO_238001 := n0_; have HO244 := n1_; have HO251 := n2_; have HO258 := n3_; have BK226 := n4_; have BK237 := n5_; have BK247 := n6_; have BK254 := n7_; have HB := n8_; have BK262 := n9_; have GW262 := n10_; have GE262 := n11_; have NB226_262 := n12_; have NB262_226 := n13_; have NB237_262 := n14_; have NB262_237 := n15_; have NB247_262 := n16_; have NB262_247 := n17_; have NB254_262 := n18_; have NB262_254 := n19_; clear n0_ n1_ n2_ n3_ n4_ n5_ n6_ n7_ n8_ n9_ n10_ n11_ n12_ n13_ n14_ n15_ n16_ n17_ n18_ n19_; clear hb hbox hg; have hnb148 := NB262_226.out; have hnc148 := NB226_262.out; have hnb149 := NB262_237.out; have hnc149 := NB237_262.out; have hnb150 := NB262_247.out; have hnc150 := NB247_262.out; have hnb151 := NB262_254.out; have hnc151 := NB254_262.out; have hcz152_0 : w147.cell? ⟨gb262, 0, none⟩ = some (.int .i64 0) := (blk_cell BK262.out 0).trans rfl; have hcz152_1 : w147.cell? ⟨gb262, 1, none⟩ = some (.slice none 0 0) := (blk_cell BK262.out 1).trans rfl; have hcz152_2 : w147.cell? ⟨gb262, 2, none⟩ = some (.bool false) := (blk_cell BK262.out 2).trans rfl; have hfz152_0 := blk_frozen BK262.out 0; have hfz152_1 := blk_frozen BK262.out 1; have hfz152_2 := blk_frozen BK262.out 2; obtain ⟨Ao153, co153, eo153⟩ := Kd.V_slice HO258.out; subst eo153) | ((with_reducible refine gate_store (t := 34) (p := 14) rfl ?_); refine store_event (t := 34) (p := 14) (v := ?vo_w154) (w1 := (((w147.setCell ⟨gb262, 0, none⟩ (.int .i64 t255)).setCell ⟨gb262, 1, none⟩ (.slice Ao153 t256.length co153)).setCell ⟨gb262, 2, none⟩ (.bool t259))) ?hg ?ho ?hn ?hr ?_; (case ho => rfl); (case hg => rfl); (case hn => rfl); (case hr => first | (go_simp; done) | (go_simp; rfl)); intro w154 hw; have n0_ : Aside0 (Kd.R (Kd.int .i64) 3 w154 w.heap.size (fun _ => True) (.slice Ao31 t232.length co31) t232) := ⟨(by rw [hw]; exact (by (with_reducible repeat (first | apply Kd.R_alloc | apply Kd.R_drewN | apply Kd.R_drew)); exact Kd.R_mono (Kd.R_far (p := ⟨gb262, 2, none⟩) (Kd.R_far (p := ⟨gb262, 1, none⟩) (Kd.R_far (p := ⟨gb262, 0, none⟩) (Kd.R_types HO_238001.out BK262.out (by decide)) (fun _ hk => hk.2) (.int .i64 t255)) (fun _ hk => hk.2) (.slice Ao153 t256.length co153)) (fun _ hk => hk.2) (.bool t259)) (fun _ hk => trivial)))⟩; have n1_ : Aside0 (Kd.V (Kd.int .i64) 3 w154 w.heap.size (fun k_ => some k_ ≠ (.slice Ao31 t232.length co31 : Value).ownBlock ∧ k_ ≠ gb226 ∧ k_ ≠ gb237 ∧ k_ ≠ gb247 ∧ k_ ≠ gb254 ∧ k_ ≠ gb262) (.slice Ao134 t242.length co134) t242) := ⟨(by rw [hw]; exact (by (with_reducible repeat (first | apply Kd.V_alloc | apply Kd.V_drewN | apply Kd.V_drew)); exact Kd.V_mono (Kd.V_far (p := ⟨gb262, 2, none⟩) (Kd.V_far (p := ⟨gb262, 1, none⟩) (Kd.V_far (p := ⟨gb262, 0, none⟩) (Kd.V_mono HO244.out (fun k_ hk => (⟨hk, hk.2⟩ : _ ∧ k_ ≠ gb262))) (fun _ hk => hk.2) (.int .i64 t255)) (fun _ hk => hk.2) (.slice Ao153 t256.length co153)) (fun _ hk => hk.2) (.bool t259)) (fun _ hk => ⟨hk.1.1.1, ⟨hk.1.1.2.1, ⟨hk.1.1.2.2.1, ⟨hk.1.1.2.2.2.1, ⟨hk.1.1.2.2.2.2, hk.1.2⟩⟩⟩⟩⟩)))⟩; have n2_ : Aside0 (Kd.V (Kd.int .i64) 3 w154 w.heap.size (fun k_ => some k_ ≠ (.slice Ao31 t232.length co31 : Value).ownBlock ∧ k_ ≠ gb226 ∧ k_ ≠ gb237 ∧ k_ ≠ gb247 ∧ k_ ≠ gb254 ∧ k_ ≠ gb262) (.slice Ao143 t249.length co143) t249) := ⟨(by rw [hw]; exact (by (with_reducible repeat (first | apply Kd.V_alloc | apply Kd.V_drewN | apply Kd.V_drew)); exact Kd.V_mono (Kd.V_far (p := ⟨gb262, 2, none⟩) (Kd.V_far (p := ⟨gb262, 1, none⟩) (Kd.V_far (p := ⟨gb262, 0, none⟩) (Kd.V_mono HO251.out (fun k_ hk => (⟨hk, hk.2⟩ : _ ∧ k_ ≠ gb262))) (fun _ hk => hk.2) (.int .i64 t255)) (fun _ hk => hk.2) (.slice Ao153 t256.length co153)) (fun _ hk => hk.2) (.bool t259)) (fun _ hk => ⟨hk.1.1.1, ⟨hk.1.1.2.1, ⟨hk.1.1.2.2.1, ⟨hk.1.1.2.2.2.1, ⟨hk.1.1.2.2.2.2, hk.1.2⟩⟩⟩⟩⟩)))⟩; have n3_ : Aside0 (Kd.V (Kd.int .i64) 3 w154 w.heap.size (fun k_ => some k_ ≠ (.slice Ao31 t232.length co31 : Value).ownBlock ∧ k_ ≠ gb226 ∧ k_ ≠ gb237 ∧ k_ ≠ gb247 ∧ k_ ≠ gb254 ∧ k_ ≠ gb262) (.slice Ao153 t256.length co153) t256) := ⟨(by rw [hw]; exact (by (with_reducible repeat (first | apply Kd.V_alloc | apply Kd.V_drewN | apply Kd.V_drew)); exact Kd.V_mono (Kd.V_far (p := ⟨gb262, 2, none⟩) (Kd.V_far (p := ⟨gb262, 1, none⟩) (Kd.V_far (p := ⟨gb262, 0, none⟩) (Kd.V_mono HO258.out (fun k_ hk => (⟨hk, hk.2⟩ : _ ∧ k_ ≠ gb262))) (fun _ hk => hk.2) (.int .i64 t255)) (fun _ hk => hk.2) (.slice Ao153 t256.length co153)) (fun _ hk => hk.2) (.bool t259)) (fun _ hk => ⟨hk.1.1.1, ⟨hk.1.1.2.1, ⟨hk.1.1.2.2.1, ⟨hk.1.1.2.2.2.1, ⟨hk.1.1.2.2.2.2, hk.1.2⟩⟩⟩⟩⟩)))⟩; have n4_ : Aside0 (w154.heap[gb226]? = some (.cells #[.int .i64 a0_0, .slice A0_1 l0_1.length c0_1, .bool false] 34 (0, 0))) := ⟨(by rw [hw]; exact (by (with_reducible repeat (first | refine blk_drewN ?_ _ | refine blk_drew ?_ | refine blk_alloc ?_ _)); refine blk_far ?_ NB226_262.out _; (with_reducible repeat (first | refine blk_drewN ?_ _ | refine blk_drew ?_ | refine blk_alloc ?_ _)); refine blk_far ?_ NB226_262.out _; (with_reducible repeat (first | refine blk_drewN ?_ _ | refine blk_drew ?_ | refine blk_alloc ?_ _)); refine blk_far ?_ NB226_262.out _; (with_reducible repeat (first | refine blk_drewN ?_ _ | refine blk_drew ?_ | refine blk_alloc ?_ _)); exact BK226.out))⟩; have n5_ : Aside0 (w154.heap[gb237]? = some (.cells #[.int .i64 t231, .slice Ao31 t232.length co31, .bool t235] 34 (0, 0))) := ⟨(by rw [hw]; exact (by (with_reducible repeat (first | refine blk_drewN ?_ _ | refine blk_drew ?_ | refine blk_alloc ?_ _)); refine blk_far ?_ NB237_262.out _; (with_reducible repeat (first | refine blk_drewN ?_ _ | refine blk_drew ?_ | refine blk_alloc ?_ _)); refine blk_far ?_ NB237_262.out _; (with_reducible repeat (first | refine blk_drewN ?_ _ | refine blk_drew ?_ | refine blk_alloc ?_ _)); refine blk_far ?_ NB237_262.out _; (with_reducible repeat (first | refine blk_drewN ?_ _ | refine blk_drew ?_ | refine blk_alloc ?_ _)); exact BK237.out))⟩; have n6_ : Aside0 (w154.heap[gb247]? = some (.cells #[.int .i64 t241, .slice Ao134 t242.length co134, .bool t245] 34 (0, 0))) := ⟨(by rw [hw]; exact (by (with_reducible repeat (first | refine blk_drewN ?_ _ | refine blk_drew ?_ | refine blk_alloc ?_ _)); refine blk_far ?_ NB247_262.out _; (with_reducible repeat (first | refine blk_drewN ?_ _ | refine blk_drew ?_ | refine blk_alloc ?_ _)); refine blk_far ?_ NB247_262.out _; (with_reducible repeat (first | refine blk_drewN ?_ _ | refine blk_drew ?_ | refine blk_alloc ?_ _)); refine blk_far ?_ NB247_262.out _; (with_reducible repeat (first | refine blk_drewN ?_ _ | refine blk_drew ?_ | refine blk_alloc ?_ _)); exact BK247.out))⟩; have n7_ : Aside0 (w154.heap[gb254]? = some (.cells #[.int .i64 t248, .slice Ao143 t249.length co143, .bool t252] 34 (0, 0))) := ⟨(by rw [hw]; exact (by (with_reducible repeat (first | refine blk_drewN ?_ _ | refine blk_drew ?_ | refine blk_alloc ?_ _)); refine blk_far ?_ NB254_262.out _; (with_reducible repeat (first | refine blk_drewN ?_ _ | refine blk_drew ?_ | refine blk_alloc ?_ _)); refine blk_far ?_ NB254_262.out _; (with_reducible repeat (first | refine blk_drewN ?_ _ | refine blk_drew ?_ | refine blk_alloc ?_ _)); refine blk_far ?_ NB254_262.out _; (with_reducible repeat (first | refine blk_drewN ?_ _ | refine blk_drew ?_ | refine blk_alloc ?_ _)); exact BK254.out))⟩; have n8_ : Aside0 (w154.heap[gb262]? = some (.cells #[.int .i64 t255, .slice Ao153 t256.length co153, .bool t259] 34 (0, 0))) := ⟨(by rw [hw]; exact (by (with_reducible repeat (first | refine blk_drewN ?_ _ | refine blk_drew ?_ | refine blk_alloc ?_ _)); refine blk_put (cs := #[.int .i64 t255, .slice Ao153 t256.length co153, .bool false]) ?_ 2 _ rfl; (with_reducible repeat (first | refine blk_drewN ?_ _ | refine blk_drew ?_ | refine blk_alloc ?_ _)); refine blk_put (cs := #[.int .i64 t255, .slice none 0 0, .bool false]) ?_ 1 _ rfl; (with_reducible repeat (first | refine blk_drewN ?_ _ | refine blk_drew ?_ | refine blk_alloc ?_ _)); refine blk_put (cs := #[.int .i64 0, .slice none 0 0, .bool false]) ?_ 0 _ rfl; (with_reducible repeat (first | refine blk_drewN ?_ _ | refine blk_drew ?_ | refine blk_alloc ?_ _)); exact BK262.out))⟩; have n9_ : Aside0 (Below w.heap.size w w154) := ⟨(by rw [hw]; exact (hB_ HB))⟩; clear hw; clear HO_238001; clear HO244; clear HO251; clear HO258; clear BK226; clear BK237; clear BK247; clear BK254; clear BK262; clear HB; have HO_238001 := n0_; have HO244 := n1_; have HO251 := n2_; have HO258 := n3_; have BK226 := n4_; have BK237 := n5_; have BK247 := n6_; have BK254 := n7_; have BK262 := n8_; have HB := n9_; clear n0_ n1_ n2_ n3_ n4_ n5_ n6_ n7_ n8_ n9_; have hcz155_0 : w154.cell? ⟨gb226, 0, none⟩ = some (.int .i64 a0_0) := (blk_cell BK226.out 0).trans rfl; have hcz155_1 : w154.cell? ⟨gb226, 1, none⟩ = some (.slice A0_1 l0_1.length c0_1) := (blk_cell BK226.out 1).trans rfl; have hcz155_2 : w154.cell? ⟨gb226, 2, none⟩ = some (.bool false) := (blk_cell BK226.out 2).trans rfl; have hfz155_0 := blk_frozen BK226.out 0; have hfz155_1 := blk_frozen BK226.out 1; have hfz155_2 := blk_frozen BK226.out 2) | ((with_reducible refine gate_callee (f := 20) rfl ?_); refine goesL_ (some 105) rfl rfl Try.func20 (by kernel_rfl) rfl #[.agg #[.int .i64 a0_0, .slice A0_1 l0_1.length c0_1, .bool false]] rfl am_ ?_; (with_reducible refine (lodgerref03_Take.calls a0_0 (fun k_ => k_ < w.heap.size) _ _ l0_1 false t263 t264 t267 t268 t269 _ ?side1 A55.out).mono ?_); (case side1 => exact Kd.V_mk HC0_1.out (Kd.F_below (Kd.C_F (Kd.heap_int .i64) HR0_1.out) (hB_ HB))); rintro e w156 ⟨v265, rfl, ho0, hb⟩; refine ⟨_, rfl, ?_⟩; have n0_ := Aside0.mk (Kd.R_below (rR_ HO_238001) hb); have n1_ := Aside0.mk (Kd.V_below (vV_ HO244) hb); have n2_ := Aside0.mk (Kd.V_below (vV_ HO251) hb); have n3_ := Aside0.mk (Kd.V_below (vV_ HO258) hb); have n4_ := Aside0.mk (Kd.V_lower (Kd.V_mono (ok' := fun k_ => some k_ ≠ (.slice Ao31 t232.length co31 : Value).ownBlock ∧ k_ ≠ gb226 ∧ k_ ≠ gb237 ∧ k_ ≠ gb247 ∧ k_ ≠ gb254 ∧ k_ ≠ gb262) ho0 (fun k_ hk_ => ⟨Or.elim hk_ (fun hs_ => fun e_ => Nat.not_le.2 hs_ (Kd.R_base HO_238001.out k_ e_.symm)) (fun hn_ => (Kd.fresh' (Kd.R_lt (rR_ HO_238001)) k_ hn_)), Or.elim hk_ (fun hs_ => fun e_ => Nat.not_le.2 hs_ (by rw [e_]; exact GW226.out)) (fun hn_ => (Kd.freshB (g := gb226) (o := .cells #[.int .i64 a0_0, .slice A0_1 l0_1.length c0_1, .bool false] 34 (0, 0)) (bk_ BK226) k_ hn_)), Or.elim hk_ (fun hs_ => fun e_ => Nat.not_le.2 hs_ (by rw [e_]; exact GW237.out)) (fun hn_ => (Kd.freshB (g := gb237) (o := .cells #[.int .i64 t231, .slice Ao31 t232.length co31, .bool t235] 34 (0, 0)) (bk_ BK237) k_ hn_)), Or.elim hk_ (fun hs_ => fun e_ => Nat.not_le.2 hs_ (by rw [e_]; exact GW247.out)) (fun hn_ => (Kd.freshB (g := gb247) (o := .cells #[.int .i64 t241, .slice Ao134 t242.length co134, .bool t245] 34 (0, 0)) (bk_ BK247) k_ hn_)), Or.elim hk_ (fun hs_ => fun e_ => Nat.not_le.2 hs_ (by rw [e_]; exact GW254.out)) (fun hn_ => (Kd.freshB (g := gb254) (o := .cells #[.int .i64 t248, .slice Ao143 t249.length co143, .bool t252] 34 (0, 0)) (bk_ BK254) k_ hn_)), Or.elim hk_ (fun hs_ => fun e_ => Nat.not_le.2 hs_ (by rw [e_]; exact GW262.out)) (fun hn_ => (Kd.freshB (g := gb262) (o := .cells #[.int .i64 t255, .slice Ao153 t256.length co153, .bool t259] 34 (0, 0)) (bk_ BK262) k_ hn_))⟩)) (below_size (hB_ HB))); have n5_ := bB_ BK226 hb; have n6_ := bB_ BK237 hb; have n7_ := bB_ BK247 hb; have n8_ := bB_ BK254 hb; have n9_ := bB_ BK262 hb; have n10_ := Aside0.mk (below_step (hB_ HB) hb); clear HO_238001; clear HO244; clear HO251; clear HO258; clear BK226; clear BK237; clear BK247; clear BK254; clear BK262; clear HB; have HO_238001 := n0_; have HO244 := n1_; have HO251 := n2_; have HO258 := n3_; have HO266 := n4_; have BK226 := n5_; have BK237 := n6_; have BK247 := n7_; have BK254 := n8_; have BK262 := n9_; have HB := n10_; clear n0_ n1_ n2_ n3_ n4_ n5_ n6_ n7_ n8_ n9_ n10_; (try clear hb); (try clear hb2); (try clear hk); (try clear hi); (try clear ho0)) | ((with_reducible refine gate_dst (N := 17) rfl ?_); (try (refine gate_guard (by rfl) ?_; dsimp only)); refine box_event ?hg (N := 17) ?hd (cs := #[.int .i64 0, .slice none 0 0, .bool false]) (t := 34) ?hr ?_; (case hd => rfl); (case hg => rfl); (case hr => first | (go_simp; done) | (go_simp; rfl)); intro gb270 hg w157 hbox hb; have n0_ := Aside0.mk (Kd.R_below (rR_ HO_238001) hb); have n1_ := Aside0.mk (Kd.V_below (Kd.V_elderB (vV_ HO244) gb270 (Nat.le_of_eq hg.symm)) hb); have n2_ := Aside0.mk (Kd.V_below (Kd.V_elderB (vV_ HO251) gb270 (Nat.le_of_eq hg.symm)) hb); have n3_ := Aside0.mk (Kd.V_below (Kd.V_elderB (vV_ HO258) gb270 (Nat.le_of_eq hg.symm)) hb); have n4_ := Aside0.mk (Kd.V_below (Kd.V_elderB (vV_ HO266) gb270 (Nat.le_of_eq hg.symm)) hb); have n5_ := bB_ BK226 hb; have n6_ := bB_ BK237 hb; have n7_ := bB_ BK247 hb; have n8_ := bB_ BK254 hb; have n9_ := bB_ BK262 hb; have n10_ := Aside0.mk (below_step (hB_ HB) hb); have n11_ := Aside0.mk (hbox); have n12_ := Aside0.mk ((by rw [hg]; exact (below_size (hB_ HB)) : w.heap.size ≤ gb270)); have n13_ := Aside0.mk ((by rw [hg]; exact (below_size (hB_ HB)) : w.heap.size ≤ gb270)); have n14_ := Aside0.mk ((by rw [hg]; exact Nat.ne_of_lt (blk_lt (g := gb226) (o := .cells #[.int .i64 a0_0, .slice A0_1 l0_1.length c0_1, .bool false] 34 (0, 0)) (bk_ BK226)) : gb226 ≠ gb270)); have n15_ := Aside0.mk ((by rw [hg]; exact Nat.ne_of_gt (blk_lt (g := gb226) (o := .cells #[.int .i64 a0_0, .slice A0_1 l0_1.length c0_1, .bool false] 34 (0, 0)) (bk_ BK226)) : gb270 ≠ gb226)); have n16_ := Aside0.mk ((by rw [hg]; exact Nat.ne_of_lt (blk_lt (g := gb237) (o := .cells #[.int .i64 t231, .slice Ao31 t232.length co31, .bool t235] 34 (0, 0)) (bk_ BK237)) : gb237 ≠ gb270)); have n17_ := Aside0.mk ((by rw [hg]; exact Nat.ne_of_gt (blk_lt (g := gb237) (o := .cells #[.int .i64 t231, .slice Ao31 t232.length co31, .bool t235] 34 (0, 0)) (bk_ BK237)) : gb270 ≠ gb237)); have n18_ := Aside0.mk ((by rw [hg]; exact Nat.ne_of_lt (blk_lt (g := gb247) (o := .cells #[.int .i64 t241, .slice Ao134 t242.length co134, .bool t245] 34 (0, 0)) (bk_ BK247)) : gb247 ≠ gb270)); have n19_ := Aside0.mk ((by rw [hg]; exact Nat.ne_of_gt (blk_lt (g := gb247) (o := .cells #[.int .i64 t241, .slice Ao134 t242.length co134, .bool t245] 34 (0, 0)) (bk_ BK247)) : gb270 ≠ gb247)); have n20_ := Aside0.mk ((by rw [hg]; exact Nat.ne_of_lt (blk_lt (g := gb254) (o := .cells #[.int .i64 t248, .slice Ao143 t249.length co143, .bool t252] 34 (0, 0)) (bk_ BK254)) : gb254 ≠ gb270)); have n21_ := Aside0.mk ((by rw [hg]; exact Nat.ne_of_gt (blk_lt (g := gb254) (o := .cells #[.int .i64 t248, .slice Ao143 t249.length co143, .bool t252] 34 (0, 0)) (bk_ BK254)) : gb270 ≠ gb254)); have n22_ := Aside0.mk ((by rw [hg]; exact Nat.ne_of_lt (blk_lt (g := gb262) (o := .cells #[.int .i64 t255, .slice Ao153 t256.length co153, .bool t259] 34 (0, 0)) (bk_ BK262)) : gb262 ≠ gb270)); have n23_ := Aside0.mk ((by rw [hg]; exact Nat.ne_of_gt (blk_lt (g := gb262) (o := .cells #[.int .i64 t255, .slice Ao153 t256.length co153, .bool t259] 34 (0, 0)) (bk_ BK262)) : gb270 ≠ gb262)); clear HO_238001; clear HO244; clear HO251; clear HO258; clear HO266; clear BK226; clear BK237; clear BK247; clear BK254; clear BK262; clear HB; have HO_238001 := n0_; have HO244 := n1_; have HO251 := n2_; have HO258 := n3_; have HO266 := n4_; have BK226 := n5_; have BK237 := n6_; have BK247 := n7_; have BK254 := n8_; have BK262 := n9_; have HB := n10_; have BK270 := n11_; have GW270 := n12_; have GE270 := n13_; have NB226_270 := n14_; have NB270_226 := n15_; have NB237_270 := n16_; have NB270_237 := n17_; have NB247_270 := n18_; have NB270_247 := n19_; have NB254_270 := n20_; have NB270_254 := n21_; have NB262_270 := n22_; have NB270_262 := n23_; clear n0_ n1_ n2_ n3_ n4_ n5_ n6_ n7_ n8_ n9_ n10_ n11_ n12_ n13_ n14_ n15_ n16_ n17_ n18_ n19_ n20_ n21_ n22_ n23_; clear hb hbox hg; have hnb158 := NB270_226.out; have hnc158 := NB226_270.out; have hnb159 := NB270_237.out; have hnc159 := NB237_270.out; have hnb160 := NB270_247.out; have hnc160 := NB247_270.out; have hnb161 := NB270_254.out; have hnc161 := NB254_270.out; have hnb162 := NB270_262.out; have hnc162 := NB262_270.out; have hcz163_0 : w157.cell? ⟨gb270, 0, none⟩ = some (.int .i64 0) := (blk_cell BK270.out 0).trans rfl; have hcz163_1 : w157.cell? ⟨gb270, 1, none⟩ = some (.slice none 0 0) := (blk_cell BK270.out 1).trans rfl; have hcz163_2 : w157.cell? ⟨gb270, 2, none⟩ = some (.bool false) := (blk_cell BK270.out 2).trans rfl; have hfz163_0 := blk_frozen BK270.out 0; have hfz163_1 := blk_frozen BK270.out 1; have hfz163_2 := blk_frozen BK270.out 2; obtain ⟨Ao164, co164, eo164⟩ := Kd.V_slice HO266.out; subst eo164; have hcz165_0 : w157.cell? ⟨gb226, 0, none⟩ = some (.int .i64 a0_0) := (blk_cell BK226.out 0).trans rfl; have hcz165_1 : w157.cell? ⟨gb226, 1, none⟩ = some (.slice A0_1 l0_1.length c0_1) := (blk_cell BK226.out 1).trans rfl; have hcz165_2 : w157.cell? ⟨gb226, 2, none⟩ = some (.bool false) := (blk_cell BK226.out 2).trans rfl; have hfz165_0 := blk_frozen BK226.out 0; have hfz165_1 := blk_frozen BK226.out 1; have hfz165_2 := blk_frozen BK226.out 2) | ((with_reducible refine gate_dst (N := 20) rfl ?_); (try (refine gate_guard (by rfl) ?_; dsimp only)); refine box_event ?hg (N := 20) ?hd (cs := #[.int .i64 0, .slice none 0 0, .bool false]) (t := 34) ?hr ?_; (case hd => rfl); (case hg => rfl); (case hr => first | (go_simp; done) | (go_simp; rfl)); intro gb271 hg w166 hbox hb; have n0_ := Aside0.mk (Kd.R_below (by (with_reducible repeat (first | apply Kd.R_alloc | apply Kd.R_drewN | apply Kd.R_drew)); exact (Kd.R_mono (Kd.R_far (p := ⟨gb270, 2, none⟩) (Kd.R_far (p := ⟨gb270, 1, none⟩) (Kd.R_far (p := ⟨gb270, 0, none⟩) (Kd.R_types HO_238001.out BK270.out (by decide)) (fun _ hk => hk.2) (.int .i64 t263)) (fun _ hk => hk.2) (.slice Ao164 t264.length co164)) (fun _ hk => hk.2) (.bool t267)) (fun _ h_ => h_.1))) hb); have n1_ := Aside0.mk (Kd.V_below (Kd.V_elderB (by (with_reducible repeat (first | apply Kd.V_alloc | apply Kd.V_drewN | apply Kd.V_drew)); exact (Kd.V_mono (Kd.V_far (p := ⟨gb270, 2, none⟩) (Kd.V_far (p := ⟨gb270, 1, none⟩) (Kd.V_far (p := ⟨gb270, 0, none⟩) (Kd.V_mono HO244.out (fun k_ hk => (⟨hk, hk.2⟩ : _ ∧ k_ ≠ gb270))) (fun _ hk => hk.2) (.int .i64 t263)) (fun _ hk => hk.2) (.slice Ao164 t264.length co164)) (fun _ hk => hk.2) (.bool t267)) (fun _ h_ => h_.1))) gb271 (Nat.le_of_eq hg.symm)) hb); have n2_ := Aside0.mk (Kd.V_below (Kd.V_elderB (by (with_reducible repeat (first | apply Kd.V_alloc | apply Kd.V_drewN | apply Kd.V_drew)); exact (Kd.V_mono (Kd.V_far (p := ⟨gb270, 2, none⟩) (Kd.V_far (p := ⟨gb270, 1, none⟩) (Kd.V_far (p := ⟨gb270, 0, none⟩) (Kd.V_mono HO251.out (fun k_ hk => (⟨hk, hk.2⟩ : _ ∧ k_ ≠ gb270))) (fun _ hk => hk.2) (.int .i64 t263)) (fun _ hk => hk.2) (.slice Ao164 t264.length co164)) (fun _ hk => hk.2) (.bool t267)) (fun _ h_ => h_.1))) gb271 (Nat.le_of_eq hg.symm)) hb); have n3_ := Aside0.mk (Kd.V_below (Kd.V_elderB (by (with_reducible repeat (first | apply Kd.V_alloc | apply Kd.V_drewN | apply Kd.V_drew)); exact (Kd.V_mono (Kd.V_far (p := ⟨gb270, 2, none⟩) (Kd.V_far (p := ⟨gb270, 1, none⟩) (Kd.V_far (p := ⟨gb270, 0, none⟩) (Kd.V_mono HO258.out (fun k_ hk => (⟨hk, hk.2⟩ : _ ∧ k_ ≠ gb270))) (fun _ hk => hk.2) (.int .i64 t263)) (fun _ hk => hk.2) (.slice Ao164 t264.length co164)) (fun _ hk => hk.2) (.bool t267)) (fun _ h_ => h_.1))) gb271 (Nat.le_of_eq hg.symm)) hb); have n4_ := Aside0.mk (Kd.V_below (Kd.V_elderB (by (with_reducible repeat (first | apply Kd.V_alloc | apply Kd.V_drewN | apply Kd.V_drew)); exact (Kd.V_mono (Kd.V_far (p := ⟨gb270, 2, none⟩) (Kd.V_far (p := ⟨gb270, 1, none⟩) (Kd.V_far (p := ⟨gb270, 0, none⟩) (Kd.V_mono HO266.out (fun k_ hk => (⟨hk, hk.2⟩ : _ ∧ k_ ≠ gb270))) (fun _ hk => hk.2) (.int .i64 t263)) (fun _ hk => hk.2) (.slice Ao164 t264.length co164)) (fun _ hk => hk.2) (.bool t267)) (fun _ h_ => h_.1))) gb271 (Nat.le_of_eq hg.symm)) hb); have n5_ := Aside0.mk (blk_below (g := gb226) (o := .cells #[.int .i64 a0_0, .slice A0_1 l0_1.length c0_1, .bool false] 34 (0, 0)) (by (with_reducible repeat (first | refine blk_drewN ?_ _ | refine blk_drew ?_ | refine blk_alloc ?_ _)); refine blk_far ?_ NB226_270.out _; (with_reducible repeat (first | refine blk_drewN ?_ _ | refine blk_drew ?_ | refine blk_alloc ?_ _)); refine blk_far ?_ NB226_270.out _; (with_reducible repeat (first | refine blk_drewN ?_ _ | refine blk_drew ?_ | refine blk_alloc ?_ _)); refine blk_far ?_ NB226_270.out _; (with_reducible repeat (first | refine blk_drewN ?_ _ | refine blk_drew ?_ | refine blk_alloc ?_ _)); exact BK226.out) hb); have n6_ := Aside0.mk (blk_below (g := gb237) (o := .cells #[.int .i64 t231, .slice Ao31 t232.length co31, .bool t235] 34 (0, 0)) (by (with_reducible repeat (first | refine blk_drewN ?_ _ | refine blk_drew ?_ | refine blk_alloc ?_ _)); refine blk_far ?_ NB237_270.out _; (with_reducible repeat (first | refine blk_drewN ?_ _ | refine blk_drew ?_ | refine blk_alloc ?_ _)); refine blk_far ?_ NB237_270.out _; (with_reducible repeat (first | refine blk_drewN ?_ _ | refine blk_drew ?_ | refine blk_alloc ?_ _)); refine blk_far ?_ NB237_270.out _; (with_reducible repeat (first | refine blk_drewN ?_ _ | refine blk_drew ?_ | refine blk_alloc ?_ _)); exact BK237.out) hb); have n7_ := Aside0.mk (blk_below (g := gb247) (o := .cells #[.int .i64 t241, .slice Ao134 t242.length co134, .bool t245] 34 (0, 0)) (by (with_reducible repeat (first | refine blk_drewN ?_ _ | refine blk_drew ?_ | refine blk_alloc ?_ _)); refine blk_far ?_ NB247_270.out _; (with_reducible repeat (first | refine blk_drewN ?_ _ | refine blk_drew ?_ | refine blk_alloc ?_ _)); refine blk_far ?_ NB247_270.out _; (with_reducible repeat (first | refine blk_drewN ?_ _ | refine blk_drew ?_ | refine blk_alloc ?_ _)); refine blk_far ?_ NB247_270.out _; (with_reducible repeat (first | refine blk_drewN ?_ _ | refine blk_drew ?_ | refine blk_alloc ?_ _)); exact BK247.out) hb); have n8_ := Aside0.mk (blk_below (g := gb254) (o := .cells #[.int .i64 t248, .slice Ao143 t249.length co143, .bool t252] 34 (0, 0)) (by (with_reducible repeat (first | refine blk_drewN ?_ _ | refine blk_drew ?_ | refine blk_alloc ?_ _)); refine blk_far ?_ NB254_270.out _; (with_reducible repeat (first | refine blk_drewN ?_ _ | refine blk_drew ?_ | refine blk_alloc ?_ _)); refine blk_far ?_ NB254_270.out _; (with_reducible repeat (first | refine blk_drewN ?_ _ | refine blk_drew ?_ | refine blk_alloc ?_ _)); refine blk_far ?_ NB254_270.out _; (with_reducible repeat (first | refine blk_drewN ?_ _ | refine blk_drew ?_ | refine blk_alloc ?_ _)); exact BK254.out) hb); have n9_ := Aside0.mk (blk_below (g := gb262) (o := .cells #[.int .i64 t255, .slice Ao153 t256.length co153, .bool t259] 34 (0, 0)) (by (with_reducible repeat (first | refine blk_drewN ?_ _ | refine blk_drew ?_ | refine blk_alloc ?_ _)); refine blk_far ?_ NB262_270.out _; (with_reducible repeat (first | refine blk_drewN ?_ _ | refine blk_drew ?_ | refine blk_alloc ?_ _)); refine blk_far ?_ NB262_270.out _; (with_reducible repeat (first | refine blk_drewN ?_ _ | refine blk_drew ?_ | refine blk_alloc ?_ _)); refine blk_far ?_ NB262_270.out _; (with_reducible repeat (first | refine blk_drewN ?_ _ | refine blk_drew ?_ | refine blk_alloc ?_ _)); exact BK262.out) hb); have n10_ := Aside0.mk (blk_below (g := gb270) (o := .cells #[.int .i64 t263, .slice Ao164 t264.length co164, .bool t267] 34 (0, 0)) (by (with_reducible repeat (first | refine blk_drewN ?_ _ | refine blk_drew ?_ | refine blk_alloc ?_ _)); refine blk_put (cs := #[.int .i64 t263, .slice Ao164 t264.length co164, .bool false]) ?_ 2 _ rfl; (with_reducible repeat (first | refine blk_drewN ?_ _ | refine blk_drew ?_ | refine blk_alloc ?_ _)); refine blk_put (cs := #[.int .i64 t263, .slice none 0 0, .bool false]) ?_ 1 _ rfl; (with_reducible repeat (first | refine blk_drewN ?_ _ | refine blk_drew ?_ | refine blk_alloc ?_ _)); refine blk_put (cs := #[.int .i64 0, .slice none 0 0, .bool false]) ?_ 0 _ rfl; (with_reducible repeat (first | refine blk_drewN ?_ _ | refine blk_drew ?_ | refine blk_alloc ?_ _)); exact BK270.out) hb); have n11_ := Aside0.mk (below_step (hB_ HB) hb); have n12_ := Aside0.mk (hbox); have n13_ := Aside0.mk ((by rw [hg]; exact (below_size (hB_ HB)) : w.heap.size ≤ gb271)); have n14_ := Aside0.mk ((by rw [hg]; exact (below_size (hB_ HB)) : w.heap.size ≤ gb271)); have n15_ := Aside0.mk ((by rw [hg]; exact Nat.ne_of_lt (blk_lt (g := gb226) (o := .cells #[.int .i64 a0_0, .slice A0_1 l0_1.length c0_1, .bool false] 34 (0, 0)) (by (with_reducible repeat (first | refine blk_drewN ?_ _ | refine blk_drew ?_ | refine blk_alloc ?_ _)); refine blk_far ?_ NB226_270.out _; (with_reducible repeat (first | refine blk_drewN ?_ _ | refine blk_drew ?_ | refine blk_alloc ?_ _)); refine blk_far ?_ NB226_270.out _; (with_reducible repeat (first | refine blk_drewN ?_ _ | refine blk_drew ?_ | refine blk_alloc ?_ _)); refine blk_far ?_ NB226_270.out _; (with_reducible repeat (first | refine blk_drewN ?_ _ | refine blk_drew ?_ | refine blk_alloc ?_ _)); exact BK226.out)) : gb226 ≠ gb271)); have n16_ := Aside0.mk ((by rw [hg]; exact Nat.ne_of_gt (blk_lt (g := gb226) (o := .cells #[.int .i64 a0_0, .slice A0_1 l0_1.length c0_1, .bool false] 34 (0, 0)) (by (with_reducible repeat (first | refine blk_drewN ?_ _ | refine blk_drew ?_ | refine blk_alloc ?_ _)); refine blk_far ?_ NB226_270.out _; (with_reducible repeat (first | refine blk_drewN ?_ _ | refine blk_drew ?_ | refine blk_alloc ?_ _)); refine blk_far ?_ NB226_270.out _; (with_reducible repeat (first | refine blk_drewN ?_ _ | refine blk_drew ?_ | refine blk_alloc ?_ _)); refine blk_far ?_ NB226_270.out _; (with_reducible repeat (first | refine blk_drewN ?_ _ | refine blk_drew ?_ | refine blk_alloc ?_ _)); exact BK226.out)) : gb271 ≠ gb226)); have n17_ := Aside0.mk ((by rw [hg]; exact Nat.ne_of_lt (blk_lt (g := gb237) (o := .cells #[.int .i64 t231, .slice Ao31 t232.length co31, .bool t235] 34 (0, 0)) (by (with_reducible repeat (first | refine blk_drewN ?_ _ | refine blk_drew ?_ | refine blk_alloc ?_ _)); refine blk_far ?_ NB237_270.out _; (with_reducible repeat (first | refine blk_drewN ?_ _ | refine blk_drew ?_ | refine blk_alloc ?_ _)); refine blk_far ?_ NB237_270.out _; (with_reducible repeat (first | refine blk_drewN ?_ _ | refine blk_drew ?_ | refine blk_alloc ?_ _)); refine blk_far ?_ NB237_270.out _; (with_reducible repeat (first | refine blk_drewN ?_ _ | refine blk_drew ?_ | refine blk_alloc ?_ _)); exact BK237.out)) : gb237 ≠ gb271)); have n18_ := Aside0.mk ((by rw [hg]; exact Nat.ne_of_gt (blk_lt (g := gb237) (o := .cells #[.int .i64 t231, .slice Ao31 t232.length co31, .bool t235] 34 (0, 0)) (by (with_reducible repeat (first | refine blk_drewN ?_ _ | refine blk_drew ?_ | refine blk_alloc ?_ _)); refine blk_far ?_ NB237_270.out _; (with_reducible repeat (first | refine blk_drewN ?_ _ | refine blk_drew ?_ | refine blk_alloc ?_ _)); refine blk_far ?_ NB237_270.out _; (with_reducible repeat (first | refine blk_drewN ?_ _ | refine blk_drew ?_ | refine blk_alloc ?_ _)); refine blk_far ?_ NB237_270.out _; (with_reducible repeat (first | refine blk_drewN ?_ _ | refine blk_drew ?_ | refine blk_alloc ?_ _)); exact BK237.out)) : gb271 ≠ gb237)); have n19_ := Aside0.mk ((by rw [hg]; exact Nat.ne_of_lt (blk_lt (g := gb247) (o := .cells #[.int .i64 t241, .slice Ao134 t242.length co134, .bool t245] 34 (0, 0)) (by (with_reducible repeat (first | refine blk_drewN ?_ _ | refine blk_drew ?_ | refine blk_alloc ?_ _)); refine blk_far ?_ NB247_270.out _; (with_reducible repeat (first | refine blk_drewN ?_ _ | refine blk_drew ?_ | refine blk_alloc ?_ _)); refine blk_far ?_ NB247_270.out _; (with_reducible repeat (first | refine blk_drewN ?_ _ | refine blk_drew ?_ | refine blk_alloc ?_ _)); refine blk_far ?_ NB247_270.out _; (with_reducible repeat (first | refine blk_drewN ?_ _ | refine blk_drew ?_ | refine blk_alloc ?_ _)); exact BK247.out)) : gb247 ≠ gb271)); have n20_ := Aside0.mk ((by rw [hg]; exact Nat.ne_of_gt (blk_lt (g := gb247) (o := .cells #[.int .i64 t241, .slice Ao134 t242.length co134, .bool t245] 34 (0, 0)) (by (with_reducible repeat (first | refine blk_drewN ?_ _ | refine blk_drew ?_ | refine blk_alloc ?_ _)); refine blk_far ?_ NB247_270.out _; (with_reducible repeat (first | refine blk_drewN ?_ _ | refine blk_drew ?_ | refine blk_alloc ?_ _)); refine blk_far ?_ NB247_270.out _; (with_reducible repeat (first | refine blk_drewN ?_ _ | refine blk_drew ?_ | refine blk_alloc ?_ _)); refine blk_far ?_ NB247_270.out _; (with_reducible repeat (first | refine blk_drewN ?_ _ | refine blk_drew ?_ | refine blk_alloc ?_ _)); exact BK247.out)) : gb271 ≠ gb247)); have n21_ := Aside0.mk ((by rw [hg]; exact Nat.ne_of_lt (blk_lt (g := gb254) (o := .cells #[.int .i64 t248, .slice Ao143 t249.length co143, .bool t252] 34 (0, 0)) (by (with_reducible repeat (first | refine blk_drewN ?_ _ | refine blk_drew ?_ | refine blk_alloc ?_ _)); refine blk_far ?_ NB254_270.out _; (with_reducible repeat (first | refine blk_drewN ?_ _ | refine blk_drew ?_ | refine blk_alloc ?_ _)); refine blk_far ?_ NB254_270.out _; (with_reducible repeat (first | refine blk_drewN ?_ _ | refine blk_drew ?_ | refine blk_alloc ?_ _)); refine blk_far ?_ NB254_270.out _; (with_reducible repeat (first | refine blk_drewN ?_ _ | refine blk_drew ?_ | refine blk_alloc ?_ _)); exact BK254.out)) : gb254 ≠ gb271)); have n22_ := Aside0.mk ((by rw [hg]; exact Nat.ne_of_gt (blk_lt (g := gb254) (o := .cells #[.int .i64 t248, .slice Ao143 t249.length co143, .bool t252] 34 (0, 0)) (by (with_reducible repeat (first | refine blk_drewN ?_ _ | refine blk_drew ?_ | refine blk_alloc ?_ _)); refine blk_far ?_ NB254_270.out _; (with_reducible repeat (first | refine blk_drewN ?_ _ | refine blk_drew ?_ | refine blk_alloc ?_ _)); refine blk_far ?_ NB254_270.out _; (with_reducible repeat (first | refine blk_drewN ?_ _ | refine blk_drew ?_ | refine blk_alloc ?_ _)); refine blk_far ?_ NB254_270.out _; (with_reducible repeat (first | refine blk_drewN ?_ _ | refine blk_drew ?_ | refine blk_alloc ?_ _)); exact BK254.out)) : gb271 ≠ gb254)); have n23_ := Aside0.mk ((by rw [hg]; exact Nat.ne_of_lt (blk_lt (g := gb262) (o := .cells #[.int .i64 t255, .slice Ao153 t256.length co153, .bool t259] 34 (0, 0)) (by (with_reducible repeat (first | refine blk_drewN ?_ _ | refine blk_drew ?_ | refine blk_alloc ?_ _)); refine blk_far ?_ NB262_270.out _; (with_reducible repeat (first | refine blk_drewN ?_ _ | refine blk_drew ?_ | refine blk_alloc ?_ _)); refine blk_far ?_ NB262_270.out _; (with_reducible repeat (first | refine blk_drewN ?_ _ | refine blk_drew ?_ | refine blk_alloc ?_ _)); refine blk_far ?_ NB262_270.out _; (with_reducible repeat (first | refine blk_drewN ?_ _ | refine blk_drew ?_ | refine blk_alloc ?_ _)); exact BK262.out)) : gb262 ≠ gb271)); have n24_ := Aside0.mk ((by rw [hg]; exact Nat.ne_of_gt (blk_lt (g := gb262) (o := .cells #[.int .i64 t255, .slice Ao153 t256.length co153, .bool t259] 34 (0, 0)) (by (with_reducible repeat (first | refine blk_drewN ?_ _ | refine blk_drew ?_ | refine blk_alloc ?_ _)); refine blk_far ?_ NB262_270.out _; (with_reducible repeat (first | refine blk_drewN ?_ _ | refine blk_drew ?_ | refine blk_alloc ?_ _)); refine blk_far ?_ NB262_270.out _; (with_reducible repeat (first | refine blk_drewN ?_ _ | refine blk_drew ?_ | refine blk_alloc ?_ _)); refine blk_far ?_ NB262_270.out _; (with_reducible repeat (first | refine blk_drewN ?_ _ | refine blk_drew ?_ | refine blk_alloc ?_ _)); exact BK262.out)) : gb271 ≠ gb262)); have n25_ := Aside0.mk ((by rw [hg]; exact Nat.ne_of_lt (blk_lt (g := gb270) (o := .cells #[.int .i64 t263, .slice Ao164 t264.length co164, .bool t267] 34 (0, 0)) (by (with_reducible repeat (first | refine blk_drewN ?_ _ | refine blk_drew ?_ | refine blk_alloc ?_ _)); refine blk_put (cs := #[.int .i64 t263, .slice Ao164 t264.length co164, .bool false]) ?_ 2 _ rfl; (with_reducible repeat (first | refine blk_drewN ?_ _ | refine blk_drew ?_ | refine blk_alloc ?_ _)); refine blk_put (cs := #[.int .i64 t263, .slice none 0 0, .bool false]) ?_ 1 _ rfl; (with_reducible repeat (first | refine blk_drewN ?_ _ | refine blk_drew ?_ | refine blk_alloc ?_ _)); refine blk_put (cs := #[.int .i64 0, .slice none 0 0, .bool false]) ?_ 0 _ rfl; (with_reducible repeat (first | refine blk_drewN ?_ _ | refine blk_drew ?_ | refine blk_alloc ?_ _)); exact BK270.out)) : gb270 ≠ gb271)); have n26_ := Aside0.mk ((by rw [hg]; exact Nat.ne_of_gt (blk_lt (g := gb270) (o := .cells #[.int .i64 t263, .slice Ao164 t264.length co164, .bool t267] 34 (0, 0)) (by (with_reducible repeat (first | refine blk_drewN ?_ _ | refine blk_drew ?_ | refine blk_alloc ?_ _)); refine blk_put (cs := #[.int .i64 t263, .slice Ao164 t264.length co164, .bool false]) ?_ 2 _ rfl; (with_reducible repeat (first | refine blk_drewN ?_ _ | refine blk_drew ?_ | refine blk_alloc ?_ _)); refine blk_put (cs := #[.int .i64 t263, .slice none 0 0, .bool false]) ?_ 1 _ rfl; (with_reducible repeat (first | refine blk_drewN ?_ _ | refine blk_drew ?_ | refine blk_alloc ?_ _)); refine blk_put (cs := #[.int .i64 0, .slice none 0 0, .bool false]) ?_ 0 _ rfl; (with_reducible repeat (first | refine blk_drewN ?_ _ | refine blk_drew ?_ | refine blk_alloc ?_ _)); exact BK270.out)) : gb271 ≠ gb270)); clear HO_238001; clear HO244; clear HO251; clear HO258; clear HO266; clear BK226; clear BK237; clear BK247; clear BK254; clear BK262; clear BK270; clear HB; have HO_238001 := n0_; have HO244 := n1_; have HO251 := n2_; have HO258 := n3_; have HO266 := n4_; have BK226 := n5_; have BK237 := n6_; have BK247 := n7_; have BK254 := n8_; have BK262 := n9_; have BK270 := n10_; have HB := n11_; have BK271 := n12_; have GW271 := n13_; have GE271 := n14_; have NB226_271 := n15_; have NB271_226 := n16_; have NB237_271 := n17_; have NB271_237 := n18_; have NB247_271 := n19_; have NB271_247 := n20_; have NB254_271 := n21_; have NB271_254 := n22_; have NB262_271 := n23_; have NB271_262 := n24_; have NB270_271 := n25_; have NB271_270 := n26_; clear n0_ n1_ n2_ n3_ n4_ n5_ n6_ n7_ n8_ n9_ n10_ n11_ n12_ n13_ n14_ n15_ n16_ n17_ n18_ n19_ n20_ n21_ n22_ n23_ n24_ n25_ n26_; clear hb hbox hg; have hnb167 := NB271_226.out; have hnc167 := NB226_271.out; have hnb168 := NB271_237.out; have hnc168 := NB237_271.out; have hnb169 := NB271_247.out; have hnc169 := NB247_271.out; have hnb170 := NB271_254.out; have hnc170 := NB254_271.out; have hnb171 := NB271_262.out; have hnc171 := NB262_271.out; have hnb172 := NB271_270.out; have hnc172 := NB270_271.out; have hcz173_0 : w166.cell? ⟨gb271, 0, none⟩ = some (.int .i64 0) := (blk_cell BK271.out 0).trans rfl; have hcz173_1 : w166.cell? ⟨gb271, 1, none⟩ = some (.slice none 0 0) := (blk_cell BK271.out 1).trans rfl; have hcz173_2 : w166.cell? ⟨gb271, 2, none⟩ = some (.bool false) := (blk_cell BK271.out 2).trans rfl; have hfz173_0 := blk_frozen BK271.out 0; have hfz173_1 := blk_frozen BK271.out 1; have hfz173_2 := blk_frozen BK271.out 2))
                  have n0_ : Aside0 (Kd.R (Kd.int .i64) 3 ((((w166.setCell ⟨gb271, 0, none⟩ (.int .i64 a0_0)).setCell ⟨gb271, 1, none⟩ (.slice A0_1 l0_1.length c0_1)).setCell ⟨gb271, 2, none⟩ (.bool false)).setCell ⟨gb271, 2, none⟩ (.bool true)) w.heap.size (fun _ => True) (.slice Ao31 t232.length co31) t232) := ⟨by (with_reducible repeat (first | apply Kd.R_alloc | apply Kd.R_drewN | apply Kd.R_drew)); exact Kd.R_mono (Kd.R_far (p := ⟨gb271, 2, none⟩) (Kd.R_far (p := ⟨gb271, 2, none⟩) (Kd.R_far (p := ⟨gb271, 1, none⟩) (Kd.R_far (p := ⟨gb271, 0, none⟩) (Kd.R_types HO_238001.out BK271.out (by decide)) (fun _ hk => hk.2) (.int .i64 a0_0)) (fun _ hk => hk.2) (.slice A0_1 l0_1.length c0_1)) (fun _ hk => hk.2) (.bool false)) (fun _ hk => hk.2) (.bool true)) (fun _ hk => trivial)⟩
                  have n1_ : Aside0 (Kd.V (Kd.int .i64) 3 ((((w166.setCell ⟨gb271, 0, none⟩ (.int .i64 a0_0)).setCell ⟨gb271, 1, none⟩ (.slice A0_1 l0_1.length c0_1)).setCell ⟨gb271, 2, none⟩ (.bool false)).setCell ⟨gb271, 2, none⟩ (.bool true)) w.heap.size (fun k_ => some k_ ≠ (.slice Ao31 t232.length co31 : Value).ownBlock ∧ k_ ≠ gb226 ∧ k_ ≠ gb237 ∧ k_ ≠ gb247 ∧ k_ ≠ gb254 ∧ k_ ≠ gb262 ∧ k_ ≠ gb270 ∧ k_ ≠ gb271) (.slice Ao134 t242.length co134) t242) := ⟨by (with_reducible repeat (first | apply Kd.V_alloc | apply Kd.V_drewN | apply Kd.V_drew)); exact Kd.V_mono (Kd.V_far (p := ⟨gb271, 2, none⟩) (Kd.V_far (p := ⟨gb271, 2, none⟩) (Kd.V_far (p := ⟨gb271, 1, none⟩) (Kd.V_far (p := ⟨gb271, 0, none⟩) (Kd.V_mono HO244.out (fun k_ hk => (⟨hk, hk.2⟩ : _ ∧ k_ ≠ gb271))) (fun _ hk => hk.2) (.int .i64 a0_0)) (fun _ hk => hk.2) (.slice A0_1 l0_1.length c0_1)) (fun _ hk => hk.2) (.bool false)) (fun _ hk => hk.2) (.bool true)) (fun _ hk => ⟨hk.1.1.1.1, ⟨hk.1.1.1.2.1, ⟨hk.1.1.1.2.2.1, ⟨hk.1.1.1.2.2.2.1, ⟨hk.1.1.1.2.2.2.2.1, ⟨hk.1.1.1.2.2.2.2.2, ⟨hk.1.1.2, hk.1.2⟩⟩⟩⟩⟩⟩⟩)⟩
                  have n2_ : Aside0 (Kd.V (Kd.int .i64) 3 ((((w166.setCell ⟨gb271, 0, none⟩ (.int .i64 a0_0)).setCell ⟨gb271, 1, none⟩ (.slice A0_1 l0_1.length c0_1)).setCell ⟨gb271, 2, none⟩ (.bool false)).setCell ⟨gb271, 2, none⟩ (.bool true)) w.heap.size (fun k_ => some k_ ≠ (.slice Ao31 t232.length co31 : Value).ownBlock ∧ k_ ≠ gb226 ∧ k_ ≠ gb237 ∧ k_ ≠ gb247 ∧ k_ ≠ gb254 ∧ k_ ≠ gb262 ∧ k_ ≠ gb270 ∧ k_ ≠ gb271) (.slice Ao143 t249.length co143) t249) := ⟨by (with_reducible repeat (first | apply Kd.V_alloc | apply Kd.V_drewN | apply Kd.V_drew)); exact Kd.V_mono (Kd.V_far (p := ⟨gb271, 2, none⟩) (Kd.V_far (p := ⟨gb271, 2, none⟩) (Kd.V_far (p := ⟨gb271, 1, none⟩) (Kd.V_far (p := ⟨gb271, 0, none⟩) (Kd.V_mono HO251.out (fun k_ hk => (⟨hk, hk.2⟩ : _ ∧ k_ ≠ gb271))) (fun _ hk => hk.2) (.int .i64 a0_0)) (fun _ hk => hk.2) (.slice A0_1 l0_1.length c0_1)) (fun _ hk => hk.2) (.bool false)) (fun _ hk => hk.2) (.bool true)) (fun _ hk => ⟨hk.1.1.1.1, ⟨hk.1.1.1.2.1, ⟨hk.1.1.1.2.2.1, ⟨hk.1.1.1.2.2.2.1, ⟨hk.1.1.1.2.2.2.2.1, ⟨hk.1.1.1.2.2.2.2.2, ⟨hk.1.1.2, hk.1.2⟩⟩⟩⟩⟩⟩⟩)⟩
                  have n3_ : Aside0 (Kd.V (Kd.int .i64) 3 ((((w166.setCell ⟨gb271, 0, none⟩ (.int .i64 a0_0)).setCell ⟨gb271, 1, none⟩ (.slice A0_1 l0_1.length c0_1)).setCell ⟨gb271, 2, none⟩ (.bool false)).setCell ⟨gb271, 2, none⟩ (.bool true)) w.heap.size (fun k_ => some k_ ≠ (.slice Ao31 t232.length co31 : Value).ownBlock ∧ k_ ≠ gb226 ∧ k_ ≠ gb237 ∧ k_ ≠ gb247 ∧ k_ ≠ gb254 ∧ k_ ≠ gb262 ∧ k_ ≠ gb270 ∧ k_ ≠ gb271) (.slice Ao153 t256.length co153) t256) := ⟨by (with_reducible repeat (first | apply Kd.V_alloc | apply Kd.V_drewN | apply Kd.V_drew)); exact Kd.V_mono (Kd.V_far (p := ⟨gb271, 2, none⟩) (Kd.V_far (p := ⟨gb271, 2, none⟩) (Kd.V_far (p := ⟨gb271, 1, none⟩) (Kd.V_far (p := ⟨gb271, 0, none⟩) (Kd.V_mono HO258.out (fun k_ hk => (⟨hk, hk.2⟩ : _ ∧ k_ ≠ gb271))) (fun _ hk => hk.2) (.int .i64 a0_0)) (fun _ hk => hk.2) (.slice A0_1 l0_1.length c0_1)) (fun _ hk => hk.2) (.bool false)) (fun _ hk => hk.2) (.bool true)) (fun _ hk => ⟨hk.1.1.1.1, ⟨hk.1.1.1.2.1, ⟨hk.1.1.1.2.2.1, ⟨hk.1.1.1.2.2.2.1, ⟨hk.1.1.1.2.2.2.2.1, ⟨hk.1.1.1.2.2.2.2.2, ⟨hk.1.1.2, hk.1.2⟩⟩⟩⟩⟩⟩⟩)⟩
                  have n4_ : Aside0 (Kd.V (Kd.int .i64) 3 ((((w166.setCell ⟨gb271, 0, none⟩ (.int .i64 a0_0)).setCell ⟨gb271, 1, none⟩ (.slice A0_1 l0_1.length c0_1)).setCell ⟨gb271, 2, none⟩ (.bool false)).setCell ⟨gb271, 2, none⟩ (.bool true)) w.heap.size (fun k_ => some k_ ≠ (.slice Ao31 t232.length co31 : Value).ownBlock ∧ k_ ≠ gb226 ∧ k_ ≠ gb237 ∧ k_ ≠ gb247 ∧ k_ ≠ gb254 ∧ k_ ≠ gb262 ∧ k_ ≠ gb270 ∧ k_ ≠ gb271) (.slice Ao164 t264.length co164) t264) := ⟨by (with_reducible repeat (first | apply Kd.V_alloc | apply Kd.V_drewN | apply Kd.V_drew)); exact Kd.V_mono (Kd.V_far (p := ⟨gb271, 2, none⟩) (Kd.V_far (p := ⟨gb271, 2, none⟩) (Kd.V_far (p := ⟨gb271, 1, none⟩) (Kd.V_far (p := ⟨gb271, 0, none⟩) (Kd.V_mono HO266.out (fun k_ hk => (⟨hk, hk.2⟩ : _ ∧ k_ ≠ gb271))) (fun _ hk => hk.2) (.int .i64 a0_0)) (fun _ hk => hk.2) (.slice A0_1 l0_1.length c0_1)) (fun _ hk => hk.2) (.bool false)) (fun _ hk => hk.2) (.bool true)) (fun _ hk => ⟨hk.1.1.1.1, ⟨hk.1.1.1.2.1, ⟨hk.1.1.1.2.2.1, ⟨hk.1.1.1.2.2.2.1, ⟨hk.1.1.1.2.2.2.2.1, ⟨hk.1.1.1.2.2.2.2.2, ⟨hk.1.1.2, hk.1.2⟩⟩⟩⟩⟩⟩⟩)⟩
                  have n5_ : Aside0 (((((w166.setCell ⟨gb271, 0, none⟩ (.int .i64 a0_0)).setCell ⟨gb271, 1, none⟩ (.slice A0_1 l0_1.length c0_1)).setCell ⟨gb271, 2, none⟩ (.bool false)).setCell ⟨gb271, 2, none⟩ (.bool true)).heap[gb226]? = some (.cells #[.int .i64 a0_0, .slice A0_1 l0_1.length c0_1, .bool false] 34 (0, 0))) := ⟨by (with_reducible repeat (first | refine blk_drewN ?_ _ | refine blk_drew ?_ | refine blk_alloc ?_ _)); refine blk_far ?_ NB226_271.out _; (with_reducible repeat (first | refine blk_drewN ?_ _ | refine blk_drew ?_ | refine blk_alloc ?_ _)); refine blk_far ?_ NB226_271.out _; (with_reducible repeat (first | refine blk_drewN ?_ _ | refine blk_drew ?_ | refine blk_alloc ?_ _)); refine blk_far ?_ NB226_271.out _; (with_reducible repeat (first | refine blk_drewN ?_ _ | refine blk_drew ?_ | refine blk_alloc ?_ _)); refine blk_far ?_ NB226_271.out _; (with_reducible repeat (first | refine blk_drewN ?_ _ | refine blk_drew ?_ | refine blk_alloc ?_ _)); exact BK226.out⟩
                  have n6_ : Aside0 (((((w166.setCell ⟨gb271, 0, none⟩ (.int .i64 a0_0)).setCell ⟨gb271, 1, none⟩ (.slice A0_1 l0_1.length c0_1)).setCell ⟨gb271, 2, none⟩ (.bool false)).setCell ⟨gb271, 2, none⟩ (.bool true)).heap[gb237]? = some (.cells #[.int .i64 t231, .slice Ao31 t232.length co31, .bool t235] 34 (0, 0))) := ⟨by (with_reducible repeat (first | refine blk_drewN ?_ _ | refine blk_drew ?_ | refine blk_alloc ?_ _)); refine blk_far ?_ NB237_271.out _; (with_reducible repeat (first | refine blk_drewN ?_ _ | refine blk_drew ?_ | refine blk_alloc ?_ _)); refine blk_far ?_ NB237_271.out _; (with_reducible repeat (first | refine blk_drewN ?_ _ | refine blk_drew ?_ | refine blk_alloc ?_ _)); refine blk_far ?_ NB237_271.out _; (with_reducible repeat (first | refine blk_drewN ?_ _ | refine blk_drew ?_ | refine blk_alloc ?_ _)); refine blk_far ?_ NB237_271.out _; (with_reducible repeat (first | refine blk_drewN ?_ _ | refine blk_drew ?_ | refine blk_alloc ?_ _)); exact BK237.out⟩
                  have n7_ : Aside0 (((((w166.setCell ⟨gb271, 0, none⟩ (.int .i64 a0_0)).setCell ⟨gb271, 1, none⟩ (.slice A0_1 l0_1.length c0_1)).setCell ⟨gb271, 2, none⟩ (.bool false)).setCell ⟨gb271, 2, none⟩ (.bool true)).heap[gb247]? = some (.cells #[.int .i64 t241, .slice Ao134 t242.length co134, .bool t245] 34 (0, 0))) := ⟨by (with_reducible repeat (first | refine blk_drewN ?_ _ | refine blk_drew ?_ | refine blk_alloc ?_ _)); refine blk_far ?_ NB247_271.out _; (with_reducible repeat (first | refine blk_drewN ?_ _ | refine blk_drew ?_ | refine blk_alloc ?_ _)); refine blk_far ?_ NB247_271.out _; (with_reducible repeat (first | refine blk_drewN ?_ _ | refine blk_drew ?_ | refine blk_alloc ?_ _)); refine blk_far ?_ NB247_271.out _; (with_reducible repeat (first | refine blk_drewN ?_ _ | refine blk_drew ?_ | refine blk_alloc ?_ _)); refine blk_far ?_ NB247_271.out _; (with_reducible repeat (first | refine blk_drewN ?_ _ | refine blk_drew ?_ | refine blk_alloc ?_ _)); exact BK247.out⟩
                  have n8_ : Aside0 (((((w166.setCell ⟨gb271, 0, none⟩ (.int .i64 a0_0)).setCell ⟨gb271, 1, none⟩ (.slice A0_1 l0_1.length c0_1)).setCell ⟨gb271, 2, none⟩ (.bool false)).setCell ⟨gb271, 2, none⟩ (.bool true)).heap[gb254]? = some (.cells #[.int .i64 t248, .slice Ao143 t249.length co143, .bool t252] 34 (0, 0))) := ⟨by (with_reducible repeat (first | refine blk_drewN ?_ _ | refine blk_drew ?_ | refine blk_alloc ?_ _)); refine blk_far ?_ NB254_271.out _; (with_reducible repeat (first | refine blk_drewN ?_ _ | refine blk_drew ?_ | refine blk_alloc ?_ _)); refine blk_far ?_ NB254_271.out _; (with_reducible repeat (first | refine blk_drewN ?_ _ | refine blk_drew ?_ | refine blk_alloc ?_ _)); refine blk_far ?_ NB254_271.out _; (with_reducible repeat (first | refine blk_drewN ?_ _ | refine blk_drew ?_ | refine blk_alloc ?_ _)); refine blk_far ?_ NB254_271.out _; (with_reducible repeat (first | refine blk_drewN ?_ _ | refine blk_drew ?_ | refine blk_alloc ?_ _)); exact BK254.out⟩
                  have n9_ : Aside0 (((((w166.setCell ⟨gb271, 0, none⟩ (.int .i64 a0_0)).setCell ⟨gb271, 1, none⟩ (.slice A0_1 l0_1.length c0_1)).setCell ⟨gb271, 2, none⟩ (.bool false)).setCell ⟨gb271, 2, none⟩ (.bool true)).heap[gb262]? = some (.cells #[.int .i64 t255, .slice Ao153 t256.length co153, .bool t259] 34 (0, 0))) := ⟨by (with_reducible repeat (first | refine blk_drewN ?_ _ | refine blk_drew ?_ | refine blk_alloc ?_ _)); refine blk_far ?_ NB262_271.out _; (with_reducible repeat (first | refine blk_drewN ?_ _ | refine blk_drew ?_ | refine blk_alloc ?_ _)); refine blk_far ?_ NB262_271.out _; (with_reducible repeat (first | refine blk_drewN ?_ _ | refine blk_drew ?_ | refine blk_alloc ?_ _)); refine blk_far ?_ NB262_271.out _; (with_reducible repeat (first | refine blk_drewN ?_ _ | refine blk_drew ?_ | refine blk_alloc ?_ _)); refine blk_far ?_ NB262_271.out _; (with_reducible repeat (first | refine blk_drewN ?_ _ | refine blk_drew ?_ | refine blk_alloc ?_ _)); exact BK262.out⟩
                  have n10_ : Aside0 (((((w166.setCell ⟨gb271, 0, none⟩ (.int .i64 a0_0)).setCell ⟨gb271, 1, none⟩ (.slice A0_1 l0_1.length c0_1)).setCell ⟨gb271, 2, none⟩ (.bool false)).setCell ⟨gb271, 2, none⟩ (.bool true)).heap[gb270]? = some (.cells #[.int .i64 t263, .slice Ao164 t264.length co164, .bool t267] 34 (0, 0))) := ⟨by (with_reducible repeat (first | refine blk_drewN ?_ _ | refine blk_drew ?_ | refine blk_alloc ?_ _)); refine blk_far ?_ NB270_271.out _; (with_reducible repeat (first | refine blk_drewN ?_ _ | refine blk_drew ?_ | refine blk_alloc ?_ _)); refine blk_far ?_ NB270_271.out _; (with_reducible repeat (first | refine blk_drewN ?_ _ | refine blk_drew ?_ | refine blk_alloc ?_ _)); refine blk_far ?_ NB270_271.out _; (with_reducible repeat (first | refine blk_drewN ?_ _ | refine blk_drew ?_ | refine blk_alloc ?_ _)); refine blk_far ?_ NB270_271.out _; (with_reducible repeat (first | refine blk_drewN ?_ _ | refine blk_drew ?_ | refine blk_alloc ?_ _)); exact BK270.out⟩
                  have n11_ : Aside0 (((((w166.setCell ⟨gb271, 0, none⟩ (.int .i64 a0_0)).setCell ⟨gb271, 1, none⟩ (.slice A0_1 l0_1.length c0_1)).setCell ⟨gb271, 2, none⟩ (.bool false)).setCell ⟨gb271, 2, none⟩ (.bool true)).heap[gb271]? = some (.cells #[.int .i64 a0_0, .slice A0_1 l0_1.length c0_1, .bool true] 34 (0, 0))) := ⟨by (with_reducible repeat (first | refine blk_drewN ?_ _ | refine blk_drew ?_ | refine blk_alloc ?_ _)); refine blk_put (cs := #[.int .i64 a0_0, .slice A0_1 l0_1.length c0_1, .bool false]) ?_ 2 _ rfl; (with_reducible repeat (first | refine blk_drewN ?_ _ | refine blk_drew ?_ | refine blk_alloc ?_ _)); refine blk_put (cs := #[.int .i64 a0_0, .slice A0_1 l0_1.length c0_1, .bool false]) ?_ 2 _ rfl; (with_reducible repeat (first | refine blk_drewN ?_ _ | refine blk_drew ?_ | refine blk_alloc ?_ _)); refine blk_put (cs := #[.int .i64 a0_0, .slice none 0 0, .bool false]) ?_ 1 _ rfl; (with_reducible repeat (first | refine blk_drewN ?_ _ | refine blk_drew ?_ | refine blk_alloc ?_ _)); refine blk_put (cs := #[.int .i64 0, .slice none 0 0, .bool false]) ?_ 0 _ rfl; (with_reducible repeat (first | refine blk_drewN ?_ _ | refine blk_drew ?_ | refine blk_alloc ?_ _)); exact BK271.out⟩
                  have n12_ : Aside0 (Below w.heap.size w ((((w166.setCell ⟨gb271, 0, none⟩ (.int .i64 a0_0)).setCell ⟨gb271, 1, none⟩ (.slice A0_1 l0_1.length c0_1)).setCell ⟨gb271, 2, none⟩ (.bool false)).setCell ⟨gb271, 2, none⟩ (.bool true))) := ⟨by repeat (first | (with_reducible first | exact HB.out | apply below_alloc | apply pw_below_drewN | apply below_drew1 | refine below_set ?_ GE226.out | refine below_set ?_ GE237.out | refine below_set ?_ GE247.out | refine below_set ?_ GE254.out | refine below_set ?_ GE262.out | refine below_set ?_ GE270.out | refine below_set ?_ GE271.out) | exact HB.out)⟩
                  (try clear HO_238001)
                  (try clear HO244)
                  (try clear HO251)
                  (try clear HO258)
                  (try clear HO266)
                  (try clear BK226)
                  (try clear BK237)
                  (try clear BK247)
                  (try clear BK254)
                  (try clear BK262)
                  (try clear BK270)
                  (try clear BK271)
                  (try clear HB)
                  generalize ((((w166.setCell ⟨gb271, 0, none⟩ (.int .i64 a0_0)).setCell ⟨gb271, 1, none⟩ (.slice A0_1 l0_1.length c0_1)).setCell ⟨gb271, 2, none⟩ (.bool false)).setCell ⟨gb271, 2, none⟩ (.bool true)) = w174 at n0_ n1_ n2_ n3_ n4_ n5_ n6_ n7_ n8_ n9_ n10_ n11_ n12_ ⊢
                  have HO_238001 := n0_
                  have HO244 := n1_
                  have HO251 := n2_
                  have HO258 := n3_
                  have HO266 := n4_
                  have BK226 := n5_
                  have BK237 := n6_
                  have BK247 := n7_
                  have BK254 := n8_
                  have BK262 := n9_
                  have BK270 := n10_
                  have BK271 := n11_
                  have HB := n12_
                  clear n0_ n1_ n2_ n3_ n4_ n5_ n6_ n7_ n8_ n9_ n10_ n11_ n12_
                  have n0_ := Aside0.mk (Kd.R_drew HO_238001.out)
                  have n1_ := Aside0.mk (Kd.V_drew HO244.out)
                  have n2_ := Aside0.mk (Kd.V_drew HO251.out)
                  have n3_ := Aside0.mk (Kd.V_drew HO258.out)
                  have n4_ := Aside0.mk (Kd.V_drew HO266.out)
                  have n5_ := Aside0.mk (blk_drew BK226.out)
                  have n6_ := Aside0.mk (blk_drew BK237.out)
                  have n7_ := Aside0.mk (blk_drew BK247.out)
                  have n8_ := Aside0.mk (blk_drew BK254.out)
                  have n9_ := Aside0.mk (blk_drew BK262.out)
                  have n10_ := Aside0.mk (blk_drew BK270.out)
                  have n11_ := Aside0.mk (blk_drew BK271.out)
                  have n12_ := Aside0.mk (below_drew1 HB.out)
                  clear HO_238001
                  clear HO244
                  clear HO251
                  clear HO258
                  clear HO266
                  clear BK226
                  clear BK237
                  clear BK247
                  clear BK254
                  clear BK262
                  clear BK270
                  clear BK271
                  clear HB
                  have HO_238001 := n0_
                  have HO244 := n1_
                  have HO251 := n2_
                  have HO258 := n3_
                  have HO266 := n4_
                  have BK226 := n5_
                  have BK237 := n6_
                  have BK247 := n7_
                  have BK254 := n8_
                  have BK262 := n9_
                  have BK270 := n10_
                  have BK271 := n11_
                  have HB := n12_
                  clear n0_ n1_ n2_ n3_ n4_ n5_ n6_ n7_ n8_ n9_ n10_ n11_ n12_
                  refine start_ (n := 43) (S := fun w' => w'.cell? ⟨gb247, 0, none⟩ = some (.int .i64 t241) ∧ w'.cell? ⟨gb247, 1, none⟩ = some (.slice Ao134 t242.length co134) ∧ w'.cell? ⟨gb247, 2, none⟩ = some (.bool t245) ∧ w'.cell? ⟨gb254, 0, none⟩ = some (.int .i64 t248) ∧ w'.cell? ⟨gb254, 1, none⟩ = some (.slice Ao143 t249.length co143) ∧ w'.cell? ⟨gb254, 2, none⟩ = some (.bool t252) ∧ w'.cell? ⟨gb262, 0, none⟩ = some (.int .i64 t255) ∧ w'.cell? ⟨gb262, 1, none⟩ = some (.slice Ao153 t256.length co153) ∧ w'.cell? ⟨gb262, 2, none⟩ = some (.bool t259) ∧ w'.cell? ⟨gb270, 0, none⟩ = some (.int .i64 t263) ∧ w'.cell? ⟨gb270, 1, none⟩ = some (.slice Ao164 t264.length co164) ∧ w'.cell? ⟨gb270, 2, none⟩ = some (.bool t267) ∧ w'.cell? ⟨gb226, 0, none⟩ = some (.int .i64 a0_0) ∧ w'.cell? ⟨gb226, 1, none⟩ = some (.slice A0_1 l0_1.length c0_1) ∧ w'.cell? ⟨gb226, 2, none⟩ = some (.bool false) ∧ w'.cell? ⟨gb271, 0, none⟩ = some (.int .i64 a0_0) ∧ w'.cell? ⟨gb271, 1, none⟩ = some (.slice A0_1 l0_1.length c0_1) ∧ w'.cell? ⟨gb271, 2, none⟩ = some (.bool true)) (ds := []) #[false, false, false, false, false, false, false, false, false, false, false, false, false, false, false, false, false, false, false, false, false, false, false, false, false, false, false, false, false, false, false, false, false, false, false, false, false, false, false, false, false, false, false] (by kernel_rfl) rfl rfl ⟨(blk_cell BK247.out 0).trans rfl, (blk_cell BK247.out 1).trans rfl, (blk_cell BK247.out 2).trans rfl, (blk_cell BK254.out 0).trans rfl, (blk_cell BK254.out 1).trans rfl, (blk_cell BK254.out 2).trans rfl, (blk_cell BK262.out 0).trans rfl, (blk_cell BK262.out 1).trans rfl, (blk_cell BK262.out 2).trans rfl, (blk_cell BK270.out 0).trans rfl, (blk_cell BK270.out 1).trans rfl, (blk_cell BK270.out 2).trans rfl, (blk_cell BK226.out 0).trans rfl, (blk_cell BK226.out 1).trans rfl, (blk_cell BK226.out 2).trans rfl, (blk_cell BK271.out 0).trans rfl, (blk_cell BK271.out 1).trans rfl, (blk_cell BK271.out 2).trans rfl⟩ (fun hHeld => ?_); refine with_tabW lodgerlaw03_QueueDoes.tab15 lodgerlaw03_QueueDoes.bits15 (fun HT_ HW_ => ?_)
                  generalize w174.drew = w175 at HO_238001 HO244 HO251 HO258 HO266 BK226 BK237 BK247 BK254 BK262 BK270 BK271 HB hHeld ⊢
                  refine tk_ (i := 0) (N := some 111) (tf 43 1) rfl rfl HT_ HW_ hHeld (by rintro w' ⟨s0, s1, s2, s3, s4, s5, s6, s7, s8, s9, s10, s11, s12, s13, s14, s15, s16, s17⟩; go_simp; with_reducible rfl) ?_
                  refine tk_ (i := 1) (N := some 112) (tf 43 3) rfl rfl HT_ HW_ hHeld (by rintro w' ⟨s0, s1, s2, s3, s4, s5, s6, s7, s8, s9, s10, s11, s12, s13, s14, s15, s16, s17⟩; go_simp; with_reducible rfl) ?_
                  refine one_ (i := 2) (N := some 113) #[true, true, true, false, false, false, false, false, false, false, false, false, false, false, false, false, false, false, false, false, false, false, false, false, false, false, false, false, false, false, false, false, false, false, false, false, false, false, false, false, false, false, false] rfl rfl (one_of HT_.out (by kernel_rfl)) (by decide) (fun K hK => ?_)
                  refine goes_ Try.func16 (by kernel_rfl) rfl #[.agg #[.int .i64 t241, .slice Ao134 t242.length co134, .bool t245], .agg #[.int .i64 t248, .slice Ao143 t249.length co143, .bool t252]] (by rfl) rfl rfl am_ ?_
                  with_reducible refine (lodgerref03_Same.calls kj32 t241 _ _ t242 t245 t248 _ _ t249 t252 true _ ?side1 ?side2 ?side3 ?side4 A56.out).mono ?_
                  (case side1 => repeat (first | exact (Kd.V_reads' HO244.out).2.2 | (with_reducible refine Kd.C_alloc ?_ _) | (with_reducible refine Kd.C_drewN ?_ _) | (with_reducible refine Kd.C_drew ?_)))
                  (case side2 => exact (Kd.V_reads' HO244.out).2.1)
                  (case side3 => repeat (first | exact (Kd.V_reads' HO251.out).2.2 | (with_reducible refine Kd.C_alloc ?_ _) | (with_reducible refine Kd.C_drewN ?_ _) | (with_reducible refine Kd.C_drew ?_)))
                  (case side4 => exact (Kd.V_reads' HO251.out).2.1)
                  rintro e w176 ⟨rfl, hb⟩
                  refine ⟨_, rfl, ?_⟩
                  have n0_ := Aside0.mk (Kd.R_below (rR_ HO_238001) hb)
                  have n1_ := Aside0.mk (Kd.V_below (vV_ HO244) hb)
                  have n2_ := Aside0.mk (Kd.V_below (vV_ HO251) hb)
                  have n3_ := Aside0.mk (Kd.V_below (vV_ HO258) hb)
                  have n4_ := Aside0.mk (Kd.V_below (vV_ HO266) hb)
                  have n5_ := bB_ BK226 hb
                  have n6_ := bB_ BK237 hb
                  have n7_ := bB_ BK247 hb
                  have n8_ := bB_ BK254 hb
                  have n9_ := bB_ BK262 hb
                  have n10_ := bB_ BK270 hb
                  have n11_ := bB_ BK271 hb
                  have n12_ := Aside0.mk (below_step (hB_ HB) hb)
                  clear HO_238001
                  clear HO244
                  clear HO251
                  clear HO258
                  clear HO266
                  clear BK226
                  clear BK237
                  clear BK247
                  clear BK254
                  clear BK262
                  clear BK270
                  clear BK271
                  clear HB
                  have HO_238001 := n0_
                  have HO244 := n1_
                  have HO251 := n2_
                  have HO258 := n3_
                  have HO266 := n4_
                  have BK226 := n5_
                  have BK237 := n6_
                  have BK247 := n7_
                  have BK254 := n8_
                  have BK262 := n9_
                  have BK270 := n10_
                  have BK271 := n11_
                  have HB := n12_
                  clear n0_ n1_ n2_ n3_ n4_ n5_ n6_ n7_ n8_ n9_ n10_ n11_ n12_
                  (try clear hb)
                  (try clear hb2)
                  (try clear hk)
                  (try clear hi)
                  refine hK.out _ _ ⟨(blk_cell BK247.out 0).trans rfl, (blk_cell BK247.out 1).trans rfl, (blk_cell BK247.out 2).trans rfl, (blk_cell BK254.out 0).trans rfl, (blk_cell BK254.out 1).trans rfl, (blk_cell BK254.out 2).trans rfl, (blk_cell BK262.out 0).trans rfl, (blk_cell BK262.out 1).trans rfl, (blk_cell BK262.out 2).trans rfl, (blk_cell BK270.out 0).trans rfl, (blk_cell BK270.out 1).trans rfl, (blk_cell BK270.out 2).trans rfl, (blk_cell BK226.out 0).trans rfl, (blk_cell BK226.out 1).trans rfl, (blk_cell BK226.out 2).trans rfl, (blk_cell BK271.out 0).trans rfl, (blk_cell BK271.out 1).trans rfl, (blk_cell BK271.out 2).trans rfl⟩ (fun hHeld => ?_)
                  clear hK K
                  refine norm_ (a' := ?_) ?_ ?_
                  rotate_left
                  ·show Act.put _ (some 113) _ = _
                   simp only [Act.put, List.setIfInBounds_toArray, List.set_cons_zero, List.set_cons_succ, i64_w, i32_w]
                   rfl
                  refine pu_ (i := 3) (N := some 114) (tf 43 15) HT_ ?_
                  refine pu_ (i := 4) (N := some 115) (tf 43 31) HT_ ?_
                  refine pu_ (i := 5) (N := some 116) (tf 43 63) HT_ ?_
                  refine pu_ (i := 6) (N := some 117) (tf 43 127) HT_ ?_
                  refine pu_ (i := 7) (N := some 118) (tf 43 255) HT_ ?_
                  refine pu_ (i := 8) (N := some 119) (tf 43 511) HT_ ?_
                  refine tk_ (i := 9) (N := some 120) (tf 43 1023) rfl rfl HT_ HW_ hHeld (by rintro w' ⟨s0, s1, s2, s3, s4, s5, s6, s7, s8, s9, s10, s11, s12, s13, s14, s15, s16, s17⟩; go_simp; with_reducible rfl) ?_
                  refine tk_ (i := 10) (N := some 121) (tf 43 2047) rfl rfl HT_ HW_ hHeld (by rintro w' ⟨s0, s1, s2, s3, s4, s5, s6, s7, s8, s9, s10, s11, s12, s13, s14, s15, s16, s17⟩; go_simp; with_reducible rfl) ?_
                  refine one_ (i := 11) (N := some 122) #[true, true, true, true, true, true, true, true, true, true, true, true, false, false, false, false, false, false, false, false, false, false, false, false, false, false, false, false, false, false, false, false, false, false, false, false, false, false, false, false, false, false, false] rfl rfl (one_of HT_.out (by kernel_rfl)) (by decide) (fun K hK => ?_)
                  refine goes_ Try.func16 (by kernel_rfl) rfl #[.agg #[.int .i64 t255, .slice Ao153 t256.length co153, .bool t259], .agg #[.int .i64 t263, .slice Ao164 t264.length co164, .bool t267]] (by rfl) rfl rfl am_ ?_
                  with_reducible refine (lodgerref03_Same.calls kj32 t255 _ _ t256 t259 t263 _ _ t264 t267 true _ ?side1 ?side2 ?side3 ?side4 A59.out).mono ?_
                  (case side1 => repeat (first | exact (Kd.V_reads' HO258.out).2.2 | (with_reducible refine Kd.C_alloc ?_ _) | (with_reducible refine Kd.C_drewN ?_ _) | (with_reducible refine Kd.C_drew ?_)))
                  (case side2 => exact (Kd.V_reads' HO258.out).2.1)
                  (case side3 => repeat (first | exact (Kd.V_reads' HO266.out).2.2 | (with_reducible refine Kd.C_alloc ?_ _) | (with_reducible refine Kd.C_drewN ?_ _) | (with_reducible refine Kd.C_drew ?_)))
                  (case side4 => exact (Kd.V_reads' HO266.out).2.1)
                  rintro e w177 ⟨rfl, hb⟩
                  refine ⟨_, rfl, ?_⟩
                  have n0_ := Aside0.mk (Kd.R_below (rR_ HO_238001) hb)
                  have n1_ := Aside0.mk (Kd.V_below (vV_ HO244) hb)
                  have n2_ := Aside0.mk (Kd.V_below (vV_ HO251) hb)
                  have n3_ := Aside0.mk (Kd.V_below (vV_ HO258) hb)
                  have n4_ := Aside0.mk (Kd.V_below (vV_ HO266) hb)
                  have n5_ := bB_ BK226 hb
                  have n6_ := bB_ BK237 hb
                  have n7_ := bB_ BK247 hb
                  have n8_ := bB_ BK254 hb
                  have n9_ := bB_ BK262 hb
                  have n10_ := bB_ BK270 hb
                  have n11_ := bB_ BK271 hb
                  have n12_ := Aside0.mk (below_step (hB_ HB) hb)
                  clear HO_238001
                  clear HO244
                  clear HO251
                  clear HO258
                  clear HO266
                  clear BK226
                  clear BK237
                  clear BK247
                  clear BK254
                  clear BK262
                  clear BK270
                  clear BK271
                  clear HB
                  have HO_238001 := n0_
                  have HO244 := n1_
                  have HO251 := n2_
                  have HO258 := n3_
                  have HO266 := n4_
                  have BK226 := n5_
                  have BK237 := n6_
                  have BK247 := n7_
                  have BK254 := n8_
                  have BK262 := n9_
                  have BK270 := n10_
                  have BK271 := n11_
                  have HB := n12_
                  clear n0_ n1_ n2_ n3_ n4_ n5_ n6_ n7_ n8_ n9_ n10_ n11_ n12_
                  (try clear hb)
                  (try clear hb2)
                  (try clear hk)
                  (try clear hi)
                  refine hK.out _ _ ⟨(blk_cell BK247.out 0).trans rfl, (blk_cell BK247.out 1).trans rfl, (blk_cell BK247.out 2).trans rfl, (blk_cell BK254.out 0).trans rfl, (blk_cell BK254.out 1).trans rfl, (blk_cell BK254.out 2).trans rfl, (blk_cell BK262.out 0).trans rfl, (blk_cell BK262.out 1).trans rfl, (blk_cell BK262.out 2).trans rfl, (blk_cell BK270.out 0).trans rfl, (blk_cell BK270.out 1).trans rfl, (blk_cell BK270.out 2).trans rfl, (blk_cell BK226.out 0).trans rfl, (blk_cell BK226.out 1).trans rfl, (blk_cell BK226.out 2).trans rfl, (blk_cell BK271.out 0).trans rfl, (blk_cell BK271.out 1).trans rfl, (blk_cell BK271.out 2).trans rfl⟩ (fun hHeld => ?_)
                  clear hK K
                  refine norm_ (a' := ?_) ?_ ?_
                  rotate_left
                  ·show Act.put _ (some 122) _ = _
                   simp only [Act.put, List.setIfInBounds_toArray, List.set_cons_zero, List.set_cons_succ, i64_w, i32_w]
                   rfl
                  refine pu_ (i := 12) (N := some 123) (tf 43 8191) HT_ ?_
                  refine pu_ (i := 13) (N := some 124) (tf 43 16383) HT_ ?_
                  refine pu_ (i := 14) (N := some 125) (tf 43 32767) HT_ ?_
                  refine pu_ (i := 15) (N := some 126) (tf 43 65535) HT_ ?_
                  refine pu_ (i := 16) (N := some 127) (tf 43 131071) HT_ ?_
                  refine pu_ (i := 17) (N := some 128) (tf 43 262143) HT_ ?_
                  refine pu_ (i := 18) (N := some 129) (tf 43 524287) HT_ ?_
                  refine pu_ (i := 19) (N := some 130) (tf 43 1048575) HT_ ?_
                  refine pu_ (i := 20) (N := some 131) (tf 43 2097151) HT_ ?_
                  refine pu_ (i := 21) (N := some 132) (tf 43 4194303) HT_ ?_
                  refine pu_ (i := 22) (N := some 133) (tf 43 8388607) HT_ ?_
                  refine pu_ (i := 23) (N := some 134) (tf 43 16777215) HT_ ?_
                  refine tk_ (i := 24) (N := some 135) (tf 43 33554431) rfl rfl HT_ HW_ hHeld (by rintro w' ⟨s0, s1, s2, s3, s4, s5, s6, s7, s8, s9, s10, s11, s12, s13, s14, s15, s16, s17⟩; go_simp; with_reducible rfl) ?_
                  refine tk_ (i := 26) (N := some 137) (tf 43 100663295) rfl rfl HT_ HW_ hHeld (by rintro w' ⟨s0, s1, s2, s3, s4, s5, s6, s7, s8, s9, s10, s11, s12, s13, s14, s15, s16, s17⟩; go_simp; with_reducible rfl) ?_
                  refine one_ (i := 25) (N := some 136) #[true, true, true, true, true, true, true, true, true, true, true, true, true, true, true, true, true, true, true, true, true, true, true, true, true, true, true, false, false, false, false, false, false, false, false, false, false, false, false, false, false, false, false] rfl rfl (one_of HT_.out (by kernel_rfl)) (by decide) (fun K hK => ?_)
                  refine goes_ Try.func21 (by kernel_rfl) rfl #[.agg #[.int .i64 a0_0, .slice A0_1 l0_1.length c0_1, .bool false]] (by rfl) rfl rfl am_ ?_
                  with_reducible refine (queue_Close.calls a0_0 _ _ l0_1 false t274 t275 t278 _ ?side1 ?side2 A63.out).mono ?_
                  (case side1 => repeat (first | exact (Kd.C_below HR0_1.out HB.out) | (with_reducible refine Kd.C_alloc ?_ _) | (with_reducible refine Kd.C_drewN ?_ _) | (with_reducible refine Kd.C_drew ?_)))
                  (case side2 => exact HC0_1.out)
                  rintro e w178 ⟨v276, rfl, ho0, hb⟩
                  refine ⟨_, rfl, ?_⟩
                  have n0_ := Aside0.mk (Kd.R_elder' (rR_ HO_238001) (Kd.R_base ho0) hb)
                  have n1_ := Aside0.mk (Kd.V_elder' (vV_ HO244) (Kd.R_base ho0) hb)
                  have n2_ := Aside0.mk (Kd.V_elder' (vV_ HO251) (Kd.R_base ho0) hb)
                  have n3_ := Aside0.mk (Kd.V_elder' (vV_ HO258) (Kd.R_base ho0) hb)
                  have n4_ := Aside0.mk (Kd.V_elder' (vV_ HO266) (Kd.R_base ho0) hb)
                  have n5_ := Aside0.mk (Kd.R_lower (Kd.R_new' ho0 (Kd.R_lt (rR_ HO_238001))) (below_size (hB_ HB)))
                  have n6_ := bB_ BK226 hb
                  have n7_ := bB_ BK237 hb
                  have n8_ := bB_ BK247 hb
                  have n9_ := bB_ BK254 hb
                  have n10_ := bB_ BK262 hb
                  have n11_ := bB_ BK270 hb
                  have n12_ := bB_ BK271 hb
                  have n13_ := Aside0.mk (below_step (hB_ HB) hb)
                  clear HO_238001
                  clear HO244
                  clear HO251
                  clear HO258
                  clear HO266
                  clear BK226
                  clear BK237
                  clear BK247
                  clear BK254
                  clear BK262
                  clear BK270
                  clear BK271
                  clear HB
                  have HO_238001 := n0_
                  have HO244 := n1_
                  have HO251 := n2_
                  have HO258 := n3_
                  have HO266 := n4_
                  have HO277 := n5_
                  have BK226 := n6_
                  have BK237 := n7_
                  have BK247 := n8_
                  have BK254 := n9_
                  have BK262 := n10_
                  have BK270 := n11_
                  have BK271 := n12_
                  have HB := n13_
                  clear n0_ n1_ n2_ n3_ n4_ n5_ n6_ n7_ n8_ n9_ n10_ n11_ n12_ n13_
                  (try clear hb)
                  (try clear hb2)
                  (try clear hk)
                  (try clear hi)
                  (try clear ho0)
                  obtain ⟨Ao179, co179, eo179⟩ := Kd.R_slice HO277.out
                  (first | subst eo179 | (injection eo179 with f1_ f2_ f3_; have f4_ := f1_.symm; have f5_ := f3_.symm; clear f1_ f2_ f3_; subst f4_; subst f5_))
                  refine hK.out _ _ ⟨(blk_cell BK247.out 0).trans rfl, (blk_cell BK247.out 1).trans rfl, (blk_cell BK247.out 2).trans rfl, (blk_cell BK254.out 0).trans rfl, (blk_cell BK254.out 1).trans rfl, (blk_cell BK254.out 2).trans rfl, (blk_cell BK262.out 0).trans rfl, (blk_cell BK262.out 1).trans rfl, (blk_cell BK262.out 2).trans rfl, (blk_cell BK270.out 0).trans rfl, (blk_cell BK270.out 1).trans rfl, (blk_cell BK270.out 2).trans rfl, (blk_cell BK226.out 0).trans rfl, (blk_cell BK226.out 1).trans rfl, (blk_cell BK226.out 2).trans rfl, (blk_cell BK271.out 0).trans rfl, (blk_cell BK271.out 1).trans rfl, (blk_cell BK271.out 2).trans rfl⟩ (fun hHeld => ?_)
                  clear hK K
                  refine norm_ (a' := ?_) ?_ ?_
                  rotate_left
                  ·show Act.put _ (some 136) _ = _
                   simp only [Act.put, List.setIfInBounds_toArray, List.set_cons_zero, List.set_cons_succ, i64_w, i32_w]
                   rfl
                  refine one_ (i := 27) (N := some 138) #[true, true, true, true, true, true, true, true, true, true, true, true, true, true, true, true, true, true, true, true, true, true, true, true, true, true, true, true, false, false, false, false, false, false, false, false, false, false, false, false, false, false, false] rfl rfl (one_of HT_.out (by kernel_rfl)) (by decide) (fun K hK => ?_)
                  refine goes_ Try.func16 (by kernel_rfl) rfl #[.agg #[.int .i64 t274, .slice Ao179 t275.length co179, .bool t278], .agg #[.int .i64 a0_0, .slice A0_1 l0_1.length c0_1, .bool true]] (by rfl) rfl rfl am_ ?_
                  with_reducible refine (lodgerref03_Same.calls kj32 t274 _ _ t275 t278 a0_0 _ _ l0_1 true true _ ?side1 ?side2 ?side3 ?side4 A64.out).mono ?_
                  (case side1 => repeat (first | exact (Kd.R_reads' HO277.out).2.2 | (with_reducible refine Kd.C_alloc ?_ _) | (with_reducible refine Kd.C_drewN ?_ _) | (with_reducible refine Kd.C_drew ?_)))
                  (case side2 => exact (Kd.R_reads' HO277.out).2.1)
                  (case side3 => repeat (first | exact (Kd.C_below HR0_1.out HB.out) | (with_reducible refine Kd.C_alloc ?_ _) | (with_reducible refine Kd.C_drewN ?_ _) | (with_reducible refine Kd.C_drew ?_)))
                  (case side4 => exact HC0_1.out)
                  rintro e w180 ⟨rfl, hb⟩
                  refine ⟨_, rfl, ?_⟩
                  have n0_ := Aside0.mk (Kd.R_below (rR_ HO_238001) hb)
                  have n1_ := Aside0.mk (Kd.V_below (vV_ HO244) hb)
                  have n2_ := Aside0.mk (Kd.V_below (vV_ HO251) hb)
                  have n3_ := Aside0.mk (Kd.V_below (vV_ HO258) hb)
                  have n4_ := Aside0.mk (Kd.V_below (vV_ HO266) hb)
                  have n5_ := Aside0.mk (Kd.R_below (rR_ HO277) hb)
                  have n6_ := bB_ BK226 hb
                  have n7_ := bB_ BK237 hb
                  have n8_ := bB_ BK247 hb
                  have n9_ := bB_ BK254 hb
                  have n10_ := bB_ BK262 hb
                  have n11_ := bB_ BK270 hb
                  have n12_ := bB_ BK271 hb
                  have n13_ := Aside0.mk (below_step (hB_ HB) hb)
                  clear HO_238001
                  clear HO244
                  clear HO251
                  clear HO258
                  clear HO266
                  clear HO277
                  clear BK226
                  clear BK237
                  clear BK247
                  clear BK254
                  clear BK262
                  clear BK270
                  clear BK271
                  clear HB
                  have HO_238001 := n0_
                  have HO244 := n1_
                  have HO251 := n2_
                  have HO258 := n3_
                  have HO266 := n4_
                  have HO277 := n5_
                  have BK226 := n6_
                  have BK237 := n7_
                  have BK247 := n8_
                  have BK254 := n9_
                  have BK262 := n10_
                  have BK270 := n11_
                  have BK271 := n12_
                  have HB := n13_
                  clear n0_ n1_ n2_ n3_ n4_ n5_ n6_ n7_ n8_ n9_ n10_ n11_ n12_ n13_
                  (try clear hb)
                  (try clear hb2)
                  (try clear hk)
                  (try clear hi)
                  refine hK.out _ _ ⟨(blk_cell BK247.out 0).trans rfl, (blk_cell BK247.out 1).trans rfl, (blk_cell BK247.out 2).trans rfl, (blk_cell BK254.out 0).trans rfl, (blk_cell BK254.out 1).trans rfl, (blk_cell BK254.out 2).trans rfl, (blk_cell BK262.out 0).trans rfl, (blk_cell BK262.out 1).trans rfl, (blk_cell BK262.out 2).trans rfl, (blk_cell BK270.out 0).trans rfl, (blk_cell BK270.out 1).trans rfl, (blk_cell BK270.out 2).trans rfl, (blk_cell BK226.out 0).trans rfl, (blk_cell BK226.out 1).trans rfl, (blk_cell BK226.out 2).trans rfl, (blk_cell BK271.out 0).trans rfl, (blk_cell BK271.out 1).trans rfl, (blk_cell BK271.out 2).trans rfl⟩ (fun hHeld => ?_)
                  clear hK K
                  refine norm_ (a' := ?_) ?_ ?_
                  rotate_left
                  ·show Act.put _ (some 138) _ = _
                   simp only [Act.put, List.setIfInBounds_toArray, List.set_cons_zero, List.set_cons_succ, i64_w, i32_w]
                   rfl
                  refine pu_ (i := 28) (N := some 139) (tf 43 536870911) HT_ ?_
                  refine pu_ (i := 29) (N := some 140) (tf 43 1073741823) HT_ ?_
                  refine pu_ (i := 32) (N := some 143) (tf 43 5368709119) HT_ ?_
                  refine tk_ (i := 30) (N := some 141) (tf 43 6442450943) rfl rfl HT_ HW_ hHeld (by rintro w' ⟨s0, s1, s2, s3, s4, s5, s6, s7, s8, s9, s10, s11, s12, s13, s14, s15, s16, s17⟩; go_simp; with_reducible rfl) ?_
                  refine tk_ (i := 33) (N := some 144) (tf 43 15032385535) rfl rfl HT_ HW_ hHeld (by rintro w' ⟨s0, s1, s2, s3, s4, s5, s6, s7, s8, s9, s10, s11, s12, s13, s14, s15, s16, s17⟩; go_simp; with_reducible rfl) ?_
                  refine one_ (i := 31) (N := some 142) #[true, true, true, true, true, true, true, true, true, true, true, true, true, true, true, true, true, true, true, true, true, true, true, true, true, true, true, true, true, true, true, true, true, true, false, false, false, false, false, false, false, false, false] rfl rfl (one_of HT_.out (by kernel_rfl)) (by decide) (fun K hK => ?_)
                  refine goes_ Try.func22 (by kernel_rfl) rfl #[.agg #[.int .i64 a0_0, .slice A0_1 l0_1.length c0_1, .bool false]] (by rfl) rfl rfl am_ ?_
                  with_reducible refine (queue_Ends.calls a0_0 _ _ l0_1 false t280 _ ?side1 ?side2 A66.out).mono ?_
                  (case side1 => repeat (first | exact (Kd.C_below HR0_1.out HB.out) | (with_reducible refine Kd.C_alloc ?_ _) | (with_reducible refine Kd.C_drewN ?_ _) | (with_reducible refine Kd.C_drew ?_)))
                  (case side2 => exact HC0_1.out)
                  rintro e w181 ⟨rfl, hb⟩
                  refine ⟨_, rfl, ?_⟩
                  have n0_ := Aside0.mk (Kd.R_below (rR_ HO_238001) hb)
                  have n1_ := Aside0.mk (Kd.V_below (vV_ HO244) hb)
                  have n2_ := Aside0.mk (Kd.V_below (vV_ HO251) hb)
                  have n3_ := Aside0.mk (Kd.V_below (vV_ HO258) hb)
                  have n4_ := Aside0.mk (Kd.V_below (vV_ HO266) hb)
                  have n5_ := Aside0.mk (Kd.R_below (rR_ HO277) hb)
                  have n6_ := bB_ BK226 hb
                  have n7_ := bB_ BK237 hb
                  have n8_ := bB_ BK247 hb
                  have n9_ := bB_ BK254 hb
                  have n10_ := bB_ BK262 hb
                  have n11_ := bB_ BK270 hb
                  have n12_ := bB_ BK271 hb
                  have n13_ := Aside0.mk (below_step (hB_ HB) hb)
                  clear HO_238001
                  clear HO244
                  clear HO251
                  clear HO258
                  clear HO266
                  clear HO277
                  clear BK226
                  clear BK237
                  clear BK247
                  clear BK254
                  clear BK262
                  clear BK270
                  clear BK271
                  clear HB
                  have HO_238001 := n0_
                  have HO244 := n1_
                  have HO251 := n2_
                  have HO258 := n3_
                  have HO266 := n4_
                  have HO277 := n5_
                  have BK226 := n6_
                  have BK237 := n7_
                  have BK247 := n8_
                  have BK254 := n9_
                  have BK262 := n10_
                  have BK270 := n11_
                  have BK271 := n12_
                  have HB := n13_
                  clear n0_ n1_ n2_ n3_ n4_ n5_ n6_ n7_ n8_ n9_ n10_ n11_ n12_ n13_
                  (try clear hb)
                  (try clear hb2)
                  (try clear hk)
                  (try clear hi)
                  refine hK.out _ _ ⟨(blk_cell BK247.out 0).trans rfl, (blk_cell BK247.out 1).trans rfl, (blk_cell BK247.out 2).trans rfl, (blk_cell BK254.out 0).trans rfl, (blk_cell BK254.out 1).trans rfl, (blk_cell BK254.out 2).trans rfl, (blk_cell BK262.out 0).trans rfl, (blk_cell BK262.out 1).trans rfl, (blk_cell BK262.out 2).trans rfl, (blk_cell BK270.out 0).trans rfl, (blk_cell BK270.out 1).trans rfl, (blk_cell BK270.out 2).trans rfl, (blk_cell BK226.out 0).trans rfl, (blk_cell BK226.out 1).trans rfl, (blk_cell BK226.out 2).trans rfl, (blk_cell BK271.out 0).trans rfl, (blk_cell BK271.out 1).trans rfl, (blk_cell BK271.out 2).trans rfl⟩ (fun hHeld => ?_)
                  clear hK K
                  refine norm_ (a' := ?_) ?_ ?_
                  rotate_left
                  ·show Act.put _ (some 142) _ = _
                   simp only [Act.put, List.setIfInBounds_toArray, List.set_cons_zero, List.set_cons_succ, i64_w, i32_w]
                   rfl
                  refine pu_ (i := 34) (N := some 145) (tf 43 34359738367) HT_ ?_
                  refine pure_ (i := 35) (N := some 146) (v := undef) (a' := ?_) #[true, true, true, true, true, true, true, true, true, true, true, true, true, true, true, true, true, true, true, true, true, true, true, true, true, true, true, true, true, true, true, true, true, true, true, true, false, false, false, false, false, false, false] rfl rfl (any_of HT_.out (by kernel_rfl)) (fun _ _ _ h => h) (Or.inr ⟨by rfl, rfl⟩) ?_ ?_
                  rotate_left
                  ·simp only [Act.put, List.setIfInBounds_toArray, List.set_cons_zero, List.set_cons_succ, i64_w, i32_w]
                   rfl
                  refine pure_ (i := 36) (N := some 147) (v := undef) (a' := ?_) #[true, true, true, true, true, true, true, true, true, true, true, true, true, true, true, true, true, true, true, true, true, true, true, true, true, true, true, true, true, true, true, true, true, true, true, true, true, false, false, false, false, false, false] rfl rfl (any_of HT_.out (by kernel_rfl)) (fun _ _ _ h => h) (Or.inr ⟨by rfl, rfl⟩) ?_ ?_
                  rotate_left
                  ·simp only [Act.put, List.setIfInBounds_toArray, List.set_cons_zero, List.set_cons_succ, i64_w, i32_w]
                   rfl
                  refine pure_ (i := 37) (N := some 148) (v := undef) (a' := ?_) #[true, true, true, true, true, true, true, true, true, true, true, true, true, true, true, true, true, true, true, true, true, true, true, true, true, true, true, true, true, true, true, true, true, true, true, true, true, true, false, false, false, false, false] rfl rfl (any_of HT_.out (by kernel_rfl)) (fun _ _ _ h => h) (Or.inr ⟨by rfl, rfl⟩) ?_ ?_
                  rotate_left
                  ·simp only [Act.put, List.setIfInBounds_toArray, List.set_cons_zero, List.set_cons_succ, i64_w, i32_w]
                   rfl
                  refine pure_ (i := 38) (N := some 149) (v := undef) (a' := ?_) #[true, true, true, true, true, true, true, true, true, true, true, true, true, true, true, true, true, true, true, true, true, true, true, true, true, true, true, true, true, true, true, true, true, true, true, true, true, true, true, false, false, false, false] rfl rfl (any_of HT_.out (by kernel_rfl)) (fun _ _ _ h => h) (Or.inr ⟨by rfl, rfl⟩) ?_ ?_
                  rotate_left
                  ·simp only [Act.put, List.setIfInBounds_toArray, List.set_cons_zero, List.set_cons_succ, i64_w, i32_w]
                   rfl
                  refine pu_ (i := 39) (N := some 150) (tf 43 1099511627775) HT_ ?_
                  refine pu_ (i := 40) (N := some 151) (tf 43 2199023255551) HT_ ?_
                  refine pu_ (i := 41) (N := some 152) (tf 43 4398046511103) HT_ ?_
                  refine pu_ (i := 42) (N := some 6) (tf 43 8796093022207) HT_ ?_
                  refine done_ (done_of HT_.out (by kernel_rfl)) ?_
                  try go_wp2
                  go_ret
                  exact ⟨by first | rfl | (simp [errW_none, errW_some] <;> rfl) | (simp [*, errW_none, errW_some] <;> rfl), by repeat (first | (with_reducible first | exact HB.out | apply below_alloc | apply pw_below_drewN | apply below_drew1 | refine below_set ?_ GE226.out | refine below_set ?_ GE237.out | refine below_set ?_ GE247.out | refine below_set ?_ GE254.out | refine below_set ?_ GE262.out | refine below_set ?_ GE270.out | refine below_set ?_ GE271.out) | exact HB.out)⟩
               ·replace c65 := Bool.eq_false_iff.mpr c65
                subst c65
                have H1 : (some false) = some r := by rw [if_neg (show ¬ (false = true) by decide)] at H; exact H
                rw [hr_.out] at H1
                exact absurd (Option.some.inj H1) (by decide)
              ·rw [if_neg c62] at H
               rw [hr_.out] at H
               exact absurd (Option.some.inj H) (by decide)
             ·rw [if_neg c61] at H
              rw [hr_.out] at H
              exact absurd (Option.some.inj H) (by decide)
            ·replace c60 := Bool.eq_false_iff.mpr c60
             subst c60
             have H1 : (some false) = some r := by rw [if_neg (show ¬ (false = true) by decide)] at H; exact H
             rw [hr_.out] at H1
             exact absurd (Option.some.inj H1) (by decide)
           ·rw [if_neg c58] at H
            rw [hr_.out] at H
            exact absurd (Option.some.inj H) (by decide)
          ·replace c57 := Bool.eq_false_iff.mpr c57
           subst c57
           have H1 : (some false) = some r := by rw [if_neg (show ¬ (false = true) by decide)] at H; exact H
           rw [hr_.out] at H1
           exact absurd (Option.some.inj H1) (by decide)
         ·replace c51 := Bool.eq_false_iff.mpr c51
          subst c51
          have H1 : (some true) = some r := by rw [if_neg (show ¬ (false = true) by decide)] at H; exact H
          clear H
          have H := H1
          clear H1
          first | (exfalso; rw [hr_.out] at H; exact absurd (Option.some.inj H) (by decide)) | (try clear hr_)
          all_goals
           obtain rfl := Option.some.inj H
           have hnb501 := NB226_237.out
           have hnc501 := NB237_226.out
           have hcz502_0 : wc.cell? ⟨gb226, 0, none⟩ = some (.int .i64 a0_0) := (blk_cell BK226.out 0).trans rfl
           have hcz502_1 : wc.cell? ⟨gb226, 1, none⟩ = some (.slice A0_1 l0_1.length c0_1) := (blk_cell BK226.out 1).trans rfl
           have hcz502_2 : wc.cell? ⟨gb226, 2, none⟩ = some (.bool a0_2) := (blk_cell BK226.out 2).trans rfl
           have hfz502_0 := blk_frozen BK226.out 0
           have hfz502_1 := blk_frozen BK226.out 1
           have hfz502_2 := blk_frozen BK226.out 2
           go_wp2_with (first | ((with_reducible refine gate_callee (f := 14) rfl ?_); refine goesL_ (some 83) rfl rfl Try.func14 (by kernel_rfl) rfl #[.agg #[.int .i64 a0_0, .slice A0_1 l0_1.length c0_1, .bool a0_2]] rfl am_ ?_; (with_reducible refine (lodgerref03_May.calls a0_0 _ _ l0_1 a0_2 false _ ?side1 ?side2 A50.out).mono ?_); (case side1 => repeat (first | exact (Kd.C_below HR0_1.out HB.out) | (with_reducible refine Kd.C_alloc ?_ _) | (with_reducible refine Kd.C_drewN ?_ _) | (with_reducible refine Kd.C_drew ?_))); (case side2 => exact HC0_1.out); rintro e w503 ⟨rfl, hb⟩; refine ⟨_, rfl, ?_⟩; have n0_ := Aside0.mk (Kd.R_below (rR_ HO_238001) hb); have n1_ := bB_ BK226 hb; have n2_ := bB_ BK237 hb; have n3_ := Aside0.mk (below_step (hB_ HB) hb); clear HO_238001; clear BK226; clear BK237; clear HB; have HO_238001 := n0_; have BK226 := n1_; have BK237 := n2_; have HB := n3_; clear n0_ n1_ n2_ n3_; (try clear hb); (try clear hb2); (try clear hk); (try clear hi)))
           go_ret
           exact ⟨by first | rfl | (simp [errW_none, errW_some] <;> rfl) | (simp [*, errW_none, errW_some] <;> rfl), by repeat (first | (with_reducible first | exact HB.out | apply below_alloc | apply pw_below_drewN | apply below_drew1 | refine below_set ?_ GE226.out | refine below_set ?_ GE237.out) | exact HB.out)⟩

/-- THE ONE PURE STATEMENT of lodgerlaw03_QueueDoes: yours. -/
def lodgerlaw03_QueueDoes.Pure : Prop := ∀ (a0_0 : Int) (l0_1 : List Int) (a0_2 : Bool) (a1 : Int) (a2 : Int), (Lit.int .i64 a0_0).wf = true → l0_1.length ≤ maxLen → (∀ x ∈ l0_1, (Lit.int .i64 x).wf = true) → (Lit.int .i64 a1).wf = true → (Lit.int .i64 a2).wf = true → ∃ k, lodgerlaw03_QueueDoes.f k a0_0 l0_1 a0_2 a1 a2 = some true
theorem lodgerlaw03_QueueDoes.walk (P : lodgerlaw03_QueueDoes.Pure) (a0_0 : Int) (a0_1 : Option Addr) (len0_1 cap0_1 : Nat) (z0_1 : List Int) (a0_2 : Bool) (a1 : Int) (a2 : Int) (w : World) (w0_0 : (Lit.int .i64 a0_0).wf = true) (w0_1 : (a0_1 = none ∧ len0_1 = 0 ∧ cap0_1 = 0 ∧ z0_1 = []) ∨ ∃ x, a0_1 = some x ∧ len0_1 ≤ cap0_1 ∧ cap0_1 ≤ maxLen ∧ z0_1.length = cap0_1 ∧ (∀ i, i < z0_1.length → w.cell? (x.add i) = some (.int .i64 (z0_1.getD i 0))) ∧ ∀ n ∈ z0_1, (Lit.int .i64 n).wf = true) (w1 : (Lit.int .i64 a1).wf = true) (w2 : (Lit.int .i64 a2).wf = true) :
  Calls Try.prog 4 #[.agg #[.int .i64 a0_0, .slice a0_1 len0_1 cap0_1, .bool a0_2], .int .i64 a1, .int .i64 a2] w fun e w' => e = .returned (.bool true) ∧ Below w.heap.size w w' := by
 obtain ⟨l0_1, rfl, hr0_1, hm0_1, hw0_1, hc0_1⟩ := ReadsInt.ofRowC w0_1
 obtain ⟨k, h⟩ := P a0_0 l0_1 a0_2 a1 a2 w0_0 hm0_1 hw0_1 w1 w2
 refine (lodgerlaw03_QueueDoes.calls k a0_0 _ _ l0_1 a0_2 a1 a2 true w (Kd.C_of_reads (d := (0 : Int)) (h1 := fun _ => rfl) hr0_1) hc0_1 rfl h).mono ?_
 rintro e w' ⟨rfl, hd⟩
 exact ⟨rfl, hd⟩

end Go.Proofs.Ytmchledhamhlgaa.PQueueDoes
