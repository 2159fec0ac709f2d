/- The walk of GaugeOrder, part of it: what the Go functions answer; no condition. -/
import Derived.Test.YtepgjabpoabjnaaQGaugeOrderx0
import Derived.Test.YtepgjabpoabjnaaQGaugeOrderx1
namespace Go.Proofs.Ytepgjabpoabjnaa.PGaugeOrder
open Go.RowKit Go.Proofs.YtepgjabpoabjnaaW.PrintWords Go.Proofs.YtepgjabpoabjnaaW.PrintLast Go.Proofs.YtepgjabpoabjnaaW.PrintMore
attribute [local go_sem] max2_int min2_int max_two min_two max_three min_three max_four min_four   -- for this text's walks alone
set_option linter.unusedVariables false
set_option linter.unusedSimpArgs false

/-! ### gauge_Bar: function 13 -/
mutual
def gauge_Bar.j0 : Nat → Int → Int → Option (ByteArray)
 | 0, _, _ => none
 | k + 1, x2, x7 => if 0 ≤ x2 then (if (x2).toNat ≤ 281474976710656 then (gauge_Bar.l0 k x7 (List.replicate 0 0) x2 0) else (none)) else (none)
def gauge_Bar.l0 : Nat → Int → List Int → Int → Int → Option (ByteArray)
 | 0, _, _, _, _ => none
 | k + 1, x7, x9, x24, x25 => if x25 < x24 then (if x25 < x7 then (if x9.length < 140737488355328 then (gauge_Bar.l0 k x7 (x9 ++ [35]) x24 (wrap64 (x25 + 1))) else (none)) else (if x9.length < 140737488355328 then (gauge_Bar.l0 k x7 (x9 ++ [46]) x24 (wrap64 (x25 + 1))) else (none))) else (some (strOfNums x9))
end
def gauge_Bar.f (k : Nat) (a0_0 a0_1 : Int) (l0_2 : List Int) (a0_3 a0_4 : Int) (a0_5 a0_6 : Int) (l1 : List Int) (a2 : Int) : Option (ByteArray) := (block_Usable.f a0_0 a0_1 l0_2 a0_3 a0_4 a0_5 a0_6).bind fun t116 => (if t116 > 0 then (if t116 = 0 then (none) else (gauge_Bar.j0 k a2 (wrap64 (Int.tdiv (wrap64 (a2 * (l1.length : Int))) t116)))) else (gauge_Bar.j0 k a2 a2))
theorem gauge_Bar.mono_l : ∀ k, (∀ y0 y1, LeO (gauge_Bar.j0 k y0 y1) (gauge_Bar.j0 (k + 1) y0 y1)) ∧ (∀ y0 y1 y2 y3, LeO (gauge_Bar.l0 k y0 y1 y2 y3) (gauge_Bar.l0 (k + 1) y0 y1 y2 y3))
 | 0 => ⟨fun _ _ r h => by simp [gauge_Bar.j0] at h, fun _ _ _ _ r h => by simp [gauge_Bar.l0] at h⟩
 | k + 1 => by
  obtain ⟨ih0, ih1⟩ := gauge_Bar.mono_l k
  refine ⟨?_, ?_⟩
  ·intro y0 y1
   unfold gauge_Bar.j0
   repeat' (with_reducible first | apply ih0 | apply ih1 | exact LeO.refl _ | exact LeO.none _ | refine LeO.ite ?_ ?_ | refine LeO.bind ?_ (fun _ => ?_))
  ·intro y0 y1 y2 y3
   unfold gauge_Bar.l0
   repeat' (with_reducible first | apply ih0 | apply ih1 | exact LeO.refl _ | exact LeO.none _ | refine LeO.ite ?_ ?_ | refine LeO.bind ?_ (fun _ => ?_))
theorem gauge_Bar.mono : ∀ a0 a1 a2 a3 a4 a5 a6 a7 a8 k, LeO (gauge_Bar.f k a0 a1 a2 a3 a4 a5 a6 a7 a8) (gauge_Bar.f (k + 1) a0 a1 a2 a3 a4 a5 a6 a7 a8) := by
 intro a0 a1 a2 a3 a4 a5 a6 a7 a8 k
 obtain ⟨ih0, ih1⟩ := gauge_Bar.mono_l k
 unfold gauge_Bar.f
 repeat' (with_reducible first | apply ih0 | apply ih1 | exact LeO.refl _ | exact LeO.none _ | refine LeO.ite ?_ ?_ | refine LeO.bind ?_ (fun _ => ?_))
set_option maxHeartbeats 8000000 in
set_option maxRecDepth 100000 in
theorem gauge_Bar.calls (k : Nat) (ae af : Int) (am : Option Addr) (an : Nat) (ad : List Int) (ag ah : Int) (ai aj : Int) (A1 : Option Addr) (c1 : Nat) (l1 : List Int) (a2 : Int) (r : ByteArray) (w : World) (hr0_2 : Kd.C (Kd.int .i64) w am ad.length ad) (hc0_2 : ad.length ≤ an) (hr1 : Kd.C (Kd.int .i64) w A1 l1.length l1) (hc1 : l1.length ≤ c1) (h : gauge_Bar.f k ae af ad ag ah ai aj l1 a2 = some r) :
  Calls Try.prog 13 #[.agg #[.int .u32 ae, .int .i64 af, .slice am ad.length an, .int .i64 ag, .int .i64 ah, .int .i64 ai, .int .i64 aj], .slice A1 l1.length c1, .int .i64 a2] w fun e w' => e = .returned (.string r) ∧ Below w.heap.size w w' := by
 have hu27 := Try.underlying27
 have aY := Aside0.mk hr0_2
 have aU := Aside0.mk hc0_2
 clear hr0_2 hc0_2
 have a9 := Aside0.mk hr1
 have a8 := Aside0.mk hc1
 clear hr1 hc1
 have HB := Aside0.mk (Below.refl w.heap.size w)
 have H : ((block_Usable.f ae af ad ag ah ai aj).bind fun ac => (if ac > 0 then (if ac = 0 then (none) else (gauge_Bar.j0 k a2 (wrap64 (Int.tdiv (wrap64 (a2 * (l1.length : Int))) ac)))) else (gauge_Bar.j0 k a2 a2))) = some r := h
 clear h
 replace H := bi_ H
 obtain ⟨ac, A40, H⟩ := H
 replace H : (if ac > 0 then (if ac = 0 then (none) else (gauge_Bar.j0 k a2 (wrap64 (Int.tdiv (wrap64 (a2 * (l1.length : Int))) ac)))) else (gauge_Bar.j0 k a2 a2)) = some r := H
 have A4 := Aside0.mk A40
 clear A40
 have aN := Aside0.mk H
 clear H
 go_enter Try.func13, Try.ntmps13
 go_upto_if 15 with (first | ((with_reducible refine gd_ 3 ?_); refine bx_ (N := 3) (cs := #[.int .u32 ae, .int .i64 af, .slice am ad.length an, .int .i64 ag, .int .i64 ah, .int .i64 ai, .int .i64 aj]) (t := 27) ?_; intro aq hg w6 aa hb; have a7 := gG_ hg HB; have a6 := gG_ hg HB; replace HB := hS_ HB hb; clear hb hg; obtain ⟨ar, au, av, aw, ax, ay, az, aA, aC, aD, aE, aG, aH, aI⟩ := cz7_ (w := w6) aa) | ((with_reducible refine gate_callee (f := 23) rfl ?_); refine goesL_ (some 13) rfl rfl Try.func23 (by kernel_rfl) rfl #[.agg #[.int .u32 ae, .int .i64 af, .slice am ad.length an, .int .i64 ag, .int .i64 ah, .int .i64 ai, .int .i64 aj]] rfl am_ ?_; (with_reducible refine (block_Usable.calls ae af _ _ ad ag ah ai aj ac _ ?side1 ?side2 A4.out).mono ?_); (case side1 => exact cC_ aY HB); (case side2 => exact aU.out); rintro e w8 ⟨rfl, hb⟩; refine ⟨_, rfl, ?_⟩; replace HB := hS_ HB hb; replace aa := bB_ aa hb; (try clear hb)))
 (try simp only [Act.put, List.setIfInBounds_toArray, List.set_cons_zero, List.set_cons_succ])
 go_cut [7] (fun v7 wc => ∃ (kq : Nat) (ak : Int), v7 = .int .i64 ak ∧ Aside0 (gauge_Bar.j0 kq a2 ak = some r) ∧ Aside0 (kq ≤ k) ∧ Aside0 (wc.heap[aq]? = some (.cells #[.int .u32 ae, .int .i64 af, (.slice am ad.length an), .int .i64 ag, .int .i64 ah, .int .i64 ai, .int .i64 aj] 27 (0, 0))) ∧ Aside0 (Below w.heap.size w wc))
 case first =>
  have H := aN.out; clear aN
  by_cases c9 : ac > 0
  ·rw [if_pos c9] at H
   have ap : decide (0 < ac) = true := decide_eq_true c9
   clear c9
   (first | rw [ap] | (simp only [i64_w, i32_w]; rw [ap]) | skip)
   by_cases c10 : ac = 0
   ·rw [if_pos c10] at H
    exact absurd H (by simp)
   ·rw [if_neg c10] at H
    have aK : (ac == 0) = false := beq_eq_false_iff_ne.mpr c10
    have aM : (ac != 0) = true := bne_iff_ne.mpr c10
    have H' := Aside0.mk H
    clear H
    go_wp2
    go_meet
    case rel => exact ⟨_, (wrap64 (Int.tdiv (wrap64 (a2 * (l1.length : Int))) ac)), rs_, H', ⟨by first | omega | exact Nat.le_refl _⟩, ⟨bk_ aa⟩, ⟨hB_ HB⟩⟩
  ·rw [if_neg c9] at H
   have ap : decide (0 < ac) = false := decide_eq_false c9
   clear c9
   (first | rw [ap] | (simp only [i64_w, i32_w]; rw [ap]) | skip)
   have H' := Aside0.mk H
   clear H
   go_wp2
   go_meet
   case rel => exact ⟨_, (a2), rs_, H', ⟨by first | omega | exact Nat.le_refl _⟩, ⟨bk_ aa⟩, ⟨hB_ HB⟩⟩
 case rest =>
  clear aN
  try clear c1
  try clear c2
  try clear p2
  try clear p6
  try clear c9
  try clear ap
  try clear c10
  try clear aK
  try clear aM
  try clear ar au av aw ax ay az
  try clear aA aC aD aE aG aH aI
  obtain ⟨kq, ak, rfl, HA, aJ, aa, HB⟩ := hcut
  cases kq with
  | zero => exact absurd HA.out (by simp [gauge_Bar.j0])
  | succ kj4 =>
   have H := HA.out; clear HA; simp only [gauge_Bar.j0] at H
   by_cases c11 : 0 ≤ a2
   ·rw [if_pos c11] at H
    have aZ := eq_true c11
    have a0 : decide (0 ≤ a2) = true := decide_eq_true c11
    clear c11
    by_cases c12 : (a2).toNat ≤ 281474976710656
    ·rw [if_pos c12] at H
     have a1 := eq_true c12
     have a3 : decide ((a2).toNat ≤ 281474976710656) = true := decide_eq_true c12
     clear c12; obtain ⟨aQ, hy117⟩ : ∃ y_ : List Int, y_ = (List.replicate 0 0) := ⟨_, rfl⟩
     replace H : (gauge_Bar.l0 kj4 ak aQ a2 0) = some r := rp_ hy117 H
     have Ny117 := Aside0.mk hy117; clear hy117
     have H' := Aside0.mk H
     clear H
     go_wp2_with (first | ((with_reducible refine gd_ 23 ?_); refine R_makecap (Kd.int .u8) _ 5 rfl (M_ := 23) rfl 49 _ _ rfl _ rfl rfl Try.underlying49 (.int .u8 0) 1 info5 0 (ok := fun _ => True) trivial od_ (by decide) (by simp only [decide_eq_true_eq] at *; omega) (Below.refl _ _) (Nat.le_refl _) ?_; intro v118 w13 ho14 hb hg_ hnew_; clear hg_ hnew_; (first | rw [← Ny117.out] at ho14 | (simp only [Int.reduceToNat] at ho14; rw [← Ny117.out] at ho14)); have aV := Aside0.mk (Kd.R_lower ho14 (below_size (hB_ HB))); replace HB := hS_ HB hb; replace aa := bB_ aa hb; clear hb ho14))
     go_loopg [9, 25] kj4 (fun kq v9 v25 w' => ∃ (al : List Int) (ab : Int), v25 = .int .i64 ab ∧ Aside0 (gauge_Bar.l0 kq ak al a2 ab = some r) ∧ Aside0 (kq ≤ kj4) ∧ Aside0 (Kd.R (Kd.int .u8) 5 w' w.heap.size (fun _ => True) v9 al) ∧ Aside0 (w'.heap[aq]? = some (.cells #[.int .u32 ae, .int .i64 af, (.slice am ad.length an), .int .i64 ag, .int .i64 ah, .int .i64 ai, .int .i64 aj] 27 (0, 0))) ∧ Aside0 (Below w.heap.size w w'))
     case atStart => exact ⟨(aQ), (0), rs_, H', ⟨Nat.le_refl _⟩, ⟨rR_ aV⟩, ⟨bk_ aa⟩, ⟨hB_ HB⟩⟩
     case round =>
      clear H'
      try clear c1
      try clear c2
      try clear p2
      try clear p6
      try clear c9
      try clear ap
      try clear c10
      try clear aK
      try clear aM
      try clear c11
      try clear aZ
      try clear a0
      try clear c12
      try clear a1
      try clear a3
      try clear c13
      try clear ar au av aw ax ay az
      try clear aA aC aD aE aG aH aI
      try clear p2
      try clear p6
      obtain ⟨al, ab, rfl, HA, HK2, ao, aa, HB⟩ := hrel
      cases gk with
      | zero => exact absurd HA.out (by simp [gauge_Bar.l0])
      | succ k2 =>
       have H := HA.out; clear HA; simp only [gauge_Bar.l0] at H
       by_cases c15 : ab < a2
       ·rw [if_pos c15] at H
        have a4 : decide (ab < a2) = true := decide_eq_true c15
        clear c15
        by_cases c16 : ab < ak
        ·rw [if_pos c16] at H
         have a5 : decide (ab < ak) = true := decide_eq_true c16
         clear c16
         by_cases c17 : al.length < 140737488355328
         ·rw [if_pos c17] at H
          have LMc17 := Aside0.mk c17; clear c17; obtain ⟨aR, hy120⟩ : ∃ y_ : List Int, y_ = (al ++ [35]) := ⟨_, rfl⟩
          replace H : (gauge_Bar.l0 k2 ak aR a2 (wrap64 (ab + 1))) = some r := rp_ hy120 H
          have Ny120 := Aside0.mk hy120; clear hy120
          have H' := Aside0.mk H
          clear H
          go_wp2_with (first | ((with_reducible refine gate_builtin (b := .append) (xs := #[.tmp 31, .tmp 32]) rfl ?_); at_builtin; refine Kd.R_append (Kd.int .u8) (w0 := w) w.heap.size rfl (.tmp 31) (.tmp 32) 49 5 (.int .u8 0) 1 rfl Try.underlying49 info5 rfl (by decide) (by omega) u9 al 35 [.int .u8 35] (fun _ => True) (fun _ => False) rfl rfl ?aP (fun _ hk => hk.elim) ?aF ?aO ?aB ?aS ?aL ?_; (case aP => exact rfl); (case aB => exact (hB_ HB)); (case aF => exact (fun _ _ => trivial)); (case aO => exact (rR_ ao)); (case aS => exact (below_size (hB_ HB))); (case aL => have := LMc17.out; omega); intro v121 w18 ho hb hg hat; rw [← Ny120.out] at ho; replace aa := Aside0.mk (blk_grown (g := aq) (o := .cells #[.int .u32 ae, .int .i64 af, .slice am ad.length an, .int .i64 ag, .int .i64 ah, .int .i64 ai, .int .i64 aj] 27 (0, 0)) (bk_ aa) hg (Kd.R_ne ao.out aa.out (by decide))); replace HB := Aside0.mk (hb); have aW := Aside0.mk (ho); clear ao ho hb hg hat))
          go_roundg k2
          case measure => have := aJ.out; have := HK2.out; omega
          case rel => exact ⟨(aR), (wrap64 (ab + 1)), rs_, H', ⟨om2_ aJ HK2⟩, ⟨rR_ aW⟩, ⟨bk_ aa⟩, ⟨hB_ HB⟩⟩
         ·rw [if_neg c17] at H
          exact absurd H (by simp)
        ·rw [if_neg c16] at H
         have a5 : decide (ab < ak) = false := decide_eq_false c16
         clear c16
         by_cases c19 : al.length < 140737488355328
         ·rw [if_pos c19] at H
          have LMc19 := Aside0.mk c19; clear c19; obtain ⟨aT, hy123⟩ : ∃ y_ : List Int, y_ = (al ++ [46]) := ⟨_, rfl⟩
          replace H : (gauge_Bar.l0 k2 ak aT a2 (wrap64 (ab + 1))) = some r := rp_ hy123 H
          have Ny123 := Aside0.mk hy123; clear hy123
          have H' := Aside0.mk H
          clear H
          go_wp2_with (first | ((with_reducible refine gate_builtin (b := .append) (xs := #[.tmp 34, .tmp 35]) rfl ?_); at_builtin; refine Kd.R_append (Kd.int .u8) (w0 := w) w.heap.size rfl (.tmp 34) (.tmp 35) 49 5 (.int .u8 0) 1 rfl Try.underlying49 info5 rfl (by decide) (by omega) u9 al 46 [.int .u8 46] (fun _ => True) (fun _ => False) rfl rfl ?aP (fun _ hk => hk.elim) ?aF ?aO ?aB ?aS ?aL ?_; (case aP => exact rfl); (case aB => exact (hB_ HB)); (case aF => exact (fun _ _ => trivial)); (case aO => exact (rR_ ao)); (case aS => exact (below_size (hB_ HB))); (case aL => have := LMc19.out; omega); intro v124 w20 ho hb hg hat; rw [← Ny123.out] at ho; replace aa := Aside0.mk (blk_grown (g := aq) (o := .cells #[.int .u32 ae, .int .i64 af, .slice am ad.length an, .int .i64 ag, .int .i64 ah, .int .i64 ai, .int .i64 aj] 27 (0, 0)) (bk_ aa) hg (Kd.R_ne ao.out aa.out (by decide))); replace HB := Aside0.mk (hb); have aX := Aside0.mk (ho); clear ao ho hb hg hat))
          go_roundg k2
          case measure => have := aJ.out; have := HK2.out; omega
          case rel => exact ⟨(aT), (wrap64 (ab + 1)), rs_, H', ⟨om2_ aJ HK2⟩, ⟨rR_ aX⟩, ⟨bk_ aa⟩, ⟨hB_ HB⟩⟩
         ·rw [if_neg c19] at H
          exact absurd H (by simp)
       ·rw [if_neg c15] at H
        have a4 : decide (ab < a2) = false := decide_eq_false c15
        clear c15
        obtain rfl := Option.some.inj H
        have hcv21 := own_string (P := Try.prog) Try.underlying49 Try.underlying5 Try.underlying9 (Kd.own_of_R ao.out)
        go_wp2
        go_ret
        exact ⟨er_, hB_ HB⟩
    ·rw [if_neg c12] at H
     exact absurd H (by simp)
   ·rw [if_neg c11] at H
    exact absurd H (by simp)

/-! ### lodgerlaw26_awake: function 7 -/
def lodgerlaw26_awake.f (k : Nat)  : Option (Bool) := (gauge_Above.f 0 30 ([] : List Int) 1 1 1 1 (([1, 2] : List Int)) 4602678819172646912).bind fun bt130 => ((gauge_Above.f 0 30 ([] : List Int) 1 1 1 1 (([1, 2] : List Int)) 4604930618986332160).bind fun bt135 => (if fdivok 0 0 = false then ((gauge_Above.f 0 30 ([] : List Int) 1 1 1 1 ([] : List Int) fnan0_).bind fun bt137 => (if fdivok 4607182418800017408 0 = true then ((gauge_Above.f 0 30 ([] : List Int) 1 1 1 1 ([] : List Int) (fdiv 4607182418800017408 0)).bind fun bt139 => ((gauge_Above.f 0 30 ([] : List Int) 1 1 1 1 ([] : List Int) 13815242216921733530).bind fun bt141 => ((gauge_Least.f k 0 30 ([] : List Int) 1 1 1 1 4599075939470750515).bind fun bt143 => ((gauge_Least.f k 0 30 ([] : List Int) 1 1 1 1 (fneg 0)).bind fun bt145 => ((gauge_Of.f 0 30 ([] : List Int) 1 1 1 1 (([1, 2] : List Int))).bind fun t150 => (if (feq t150 4602678819172646912) = true then (if bt130.1 = true then (if bt130.2 = 0 then (if bt135.1 = true then (some false) else (if bt135.2 = 0 then (if bt137.2 = 1 then (if bt139.2 = 1 then (if bt141.2 = 1 then (if bt143.1 = 2 then (if bt143.2 = 0 then (if bt145.1 = 0 then (if bt145.2 = 0 then ((gauge_Bar.f k 0 30 ([] : List Int) 1 1 1 1 (([1, 2] : List Int)) 3).bind fun t154 => (if t154.toList = ([35, 46, 46] : List UInt8) then ((gauge_Bar.f k 0 30 ([] : List Int) 1 1 1 1 (([0, 1, 2, 3] : List Int)) 2).bind fun t158 => (if t158.toList = ([35, 35] : List UInt8) then ((gauge_Bar.f k 0 30 ([] : List Int) 1 1 1 1 ([] : List Int) 0).bind fun t159 => (some (t159.toList == ([] : List UInt8)))) else (some false))) else (some false))) else (some false)) else (some false)) else (some false)) else (some false)) else (some false)) else (some false)) else (some false)) else (some false))) else (some false)) else (some false)) else (some false))))))) else (none))) else (none)))
theorem lodgerlaw26_awake.mono : ∀ k, LeO (lodgerlaw26_awake.f k ) (lodgerlaw26_awake.f (k + 1) ) := by
 intro  k
 unfold lodgerlaw26_awake.f
 repeat' (with_reducible first | apply gauge_Bar.mono | apply gauge_Least.mono | exact LeO.refl _ | exact LeO.none _ | refine LeO.ite ?_ ?_ | refine LeO.bind ?_ (fun _ => ?_))
set_option maxHeartbeats 8000000 in
set_option maxRecDepth 100000 in
theorem lodgerlaw26_awake.only {k : Nat} {r : Bool} (h : lodgerlaw26_awake.f k = some r) : r = true := by
 have e : lodgerlaw26_awake.f 500 = some true := by decide +kernel
 have h1 := at_rounds lodgerlaw26_awake.mono (Nat.le_max_left k 500) h
 rw [at_rounds lodgerlaw26_awake.mono (Nat.le_max_right k 500) e] at h1
 exact (Option.some.inj h1).symm
set_option maxHeartbeats 8000000 in
set_option maxRecDepth 100000 in
theorem lodgerlaw26_awake.calls (k : Nat)  (r : Bool) (w : World) (h : lodgerlaw26_awake.f k  = some r) :
  Calls Try.prog 7 #[] w fun e w' => e = .returned (.bool r) ∧ Below w.heap.size w w' := by
 have hu24 := Try.underlying24
 have hu27 := Try.underlying27
 have HB := Aside0.mk (Below.refl w.heap.size w)
 have hr_ := Aside0.mk (lodgerlaw26_awake.only h)
 have H : ((gauge_Above.f 0 30 ([] : List Int) 1 1 1 1 (([1, 2] : List Int)) 4602678819172646912).bind fun bt130 => ((gauge_Above.f 0 30 ([] : List Int) 1 1 1 1 (([1, 2] : List Int)) 4604930618986332160).bind fun bt135 => (if fdivok 0 0 = false then ((gauge_Above.f 0 30 ([] : List Int) 1 1 1 1 ([] : List Int) fnan0_).bind fun bt137 => (if fdivok 4607182418800017408 0 = true then ((gauge_Above.f 0 30 ([] : List Int) 1 1 1 1 ([] : List Int) (fdiv 4607182418800017408 0)).bind fun bt139 => ((gauge_Above.f 0 30 ([] : List Int) 1 1 1 1 ([] : List Int) 13815242216921733530).bind fun bt141 => ((gauge_Least.f k 0 30 ([] : List Int) 1 1 1 1 4599075939470750515).bind fun bt143 => ((gauge_Least.f k 0 30 ([] : List Int) 1 1 1 1 (fneg 0)).bind fun bt145 => ((gauge_Of.f 0 30 ([] : List Int) 1 1 1 1 (([1, 2] : List Int))).bind fun ag => (if (feq ag 4602678819172646912) = true then (if bt130.1 = true then (if bt130.2 = 0 then (if bt135.1 = true then (some false) else (if bt135.2 = 0 then (if bt137.2 = 1 then (if bt139.2 = 1 then (if bt141.2 = 1 then (if bt143.1 = 2 then (if bt143.2 = 0 then (if bt145.1 = 0 then (if bt145.2 = 0 then ((gauge_Bar.f k 0 30 ([] : List Int) 1 1 1 1 (([1, 2] : List Int)) 3).bind fun ae => (if ae.toList = ([35, 46, 46] : List UInt8) then ((gauge_Bar.f k 0 30 ([] : List Int) 1 1 1 1 (([0, 1, 2, 3] : List Int)) 2).bind fun ac => (if ac.toList = ([35, 35] : List UInt8) then ((gauge_Bar.f k 0 30 ([] : List Int) 1 1 1 1 ([] : List Int) 0).bind fun ad => (some (ad.toList == ([] : List UInt8)))) else (some false))) else (some false))) else (some false)) else (some false)) else (some false)) else (some false)) else (some false)) else (some false)) else (some false)) else (some false))) else (some false)) else (some false)) else (some false))))))) else (none))) else (none)))) = some r := h
 clear h
 obtain ⟨ax, hy127⟩ : ∃ y_ : List Int, y_ = (([1, 2] : List Int)) := ⟨_, rfl⟩
 replace H : ((gauge_Above.f 0 30 ([] : List Int) 1 1 1 1 ax 4602678819172646912).bind fun bt130 => ((gauge_Above.f 0 30 ([] : List Int) 1 1 1 1 (([1, 2] : List Int)) 4604930618986332160).bind fun bt135 => (if fdivok 0 0 = false then ((gauge_Above.f 0 30 ([] : List Int) 1 1 1 1 ([] : List Int) fnan0_).bind fun bt137 => (if fdivok 4607182418800017408 0 = true then ((gauge_Above.f 0 30 ([] : List Int) 1 1 1 1 ([] : List Int) (fdiv 4607182418800017408 0)).bind fun bt139 => ((gauge_Above.f 0 30 ([] : List Int) 1 1 1 1 ([] : List Int) 13815242216921733530).bind fun bt141 => ((gauge_Least.f k 0 30 ([] : List Int) 1 1 1 1 4599075939470750515).bind fun bt143 => ((gauge_Least.f k 0 30 ([] : List Int) 1 1 1 1 (fneg 0)).bind fun bt145 => ((gauge_Of.f 0 30 ([] : List Int) 1 1 1 1 (([1, 2] : List Int))).bind fun ag => (if (feq ag 4602678819172646912) = true then (if bt130.1 = true then (if bt130.2 = 0 then (if bt135.1 = true then (some false) else (if bt135.2 = 0 then (if bt137.2 = 1 then (if bt139.2 = 1 then (if bt141.2 = 1 then (if bt143.1 = 2 then (if bt143.2 = 0 then (if bt145.1 = 0 then (if bt145.2 = 0 then ((gauge_Bar.f k 0 30 ([] : List Int) 1 1 1 1 (([1, 2] : List Int)) 3).bind fun ae => (if ae.toList = ([35, 46, 46] : List UInt8) then ((gauge_Bar.f k 0 30 ([] : List Int) 1 1 1 1 (([0, 1, 2, 3] : List Int)) 2).bind fun ac => (if ac.toList = ([35, 35] : List UInt8) then ((gauge_Bar.f k 0 30 ([] : List Int) 1 1 1 1 ([] : List Int) 0).bind fun ad => (some (ad.toList == ([] : List UInt8)))) else (some false))) else (some false))) else (some false)) else (some false)) else (some false)) else (some false)) else (some false)) else (some false)) else (some false)) else (some false))) else (some false)) else (some false)) else (some false))))))) else (none))) else (none)))) = some r := rp_ hy127 H
 have Ny127 := Aside0.mk hy127
 clear hy127
 replace H := bi_ H
 obtain ⟨⟨am, ah⟩, A10, H⟩ := H
 replace H : ((gauge_Above.f 0 30 ([] : List Int) 1 1 1 1 (([1, 2] : List Int)) 4604930618986332160).bind fun bt135 => (if fdivok 0 0 = false then ((gauge_Above.f 0 30 ([] : List Int) 1 1 1 1 ([] : List Int) fnan0_).bind fun bt137 => (if fdivok 4607182418800017408 0 = true then ((gauge_Above.f 0 30 ([] : List Int) 1 1 1 1 ([] : List Int) (fdiv 4607182418800017408 0)).bind fun bt139 => ((gauge_Above.f 0 30 ([] : List Int) 1 1 1 1 ([] : List Int) 13815242216921733530).bind fun bt141 => ((gauge_Least.f k 0 30 ([] : List Int) 1 1 1 1 4599075939470750515).bind fun bt143 => ((gauge_Least.f k 0 30 ([] : List Int) 1 1 1 1 (fneg 0)).bind fun bt145 => ((gauge_Of.f 0 30 ([] : List Int) 1 1 1 1 (([1, 2] : List Int))).bind fun ag => (if (feq ag 4602678819172646912) = true then (if am = true then (if ah = 0 then (if bt135.1 = true then (some false) else (if bt135.2 = 0 then (if bt137.2 = 1 then (if bt139.2 = 1 then (if bt141.2 = 1 then (if bt143.1 = 2 then (if bt143.2 = 0 then (if bt145.1 = 0 then (if bt145.2 = 0 then ((gauge_Bar.f k 0 30 ([] : List Int) 1 1 1 1 (([1, 2] : List Int)) 3).bind fun ae => (if ae.toList = ([35, 46, 46] : List UInt8) then ((gauge_Bar.f k 0 30 ([] : List Int) 1 1 1 1 (([0, 1, 2, 3] : List Int)) 2).bind fun ac => (if ac.toList = ([35, 35] : List UInt8) then ((gauge_Bar.f k 0 30 ([] : List Int) 1 1 1 1 ([] : List Int) 0).bind fun ad => (some (ad.toList == ([] : List UInt8)))) else (some false))) else (some false))) else (some false)) else (some false)) else (some false)) else (some false)) else (some false)) else (some false)) else (some false)) else (some false))) else (some false)) else (some false)) else (some false))))))) else (none))) else (none))) = some r := H
 have A1 := Aside0.mk A10
 clear A10
 obtain ⟨ay, hy132⟩ : ∃ y_ : List Int, y_ = (([1, 2] : List Int)) := ⟨_, rfl⟩
 replace H : ((gauge_Above.f 0 30 ([] : List Int) 1 1 1 1 ay 4604930618986332160).bind fun bt135 => (if fdivok 0 0 = false then ((gauge_Above.f 0 30 ([] : List Int) 1 1 1 1 ([] : List Int) fnan0_).bind fun bt137 => (if fdivok 4607182418800017408 0 = true then ((gauge_Above.f 0 30 ([] : List Int) 1 1 1 1 ([] : List Int) (fdiv 4607182418800017408 0)).bind fun bt139 => ((gauge_Above.f 0 30 ([] : List Int) 1 1 1 1 ([] : List Int) 13815242216921733530).bind fun bt141 => ((gauge_Least.f k 0 30 ([] : List Int) 1 1 1 1 4599075939470750515).bind fun bt143 => ((gauge_Least.f k 0 30 ([] : List Int) 1 1 1 1 (fneg 0)).bind fun bt145 => ((gauge_Of.f 0 30 ([] : List Int) 1 1 1 1 (([1, 2] : List Int))).bind fun ag => (if (feq ag 4602678819172646912) = true then (if am = true then (if ah = 0 then (if bt135.1 = true then (some false) else (if bt135.2 = 0 then (if bt137.2 = 1 then (if bt139.2 = 1 then (if bt141.2 = 1 then (if bt143.1 = 2 then (if bt143.2 = 0 then (if bt145.1 = 0 then (if bt145.2 = 0 then ((gauge_Bar.f k 0 30 ([] : List Int) 1 1 1 1 (([1, 2] : List Int)) 3).bind fun ae => (if ae.toList = ([35, 46, 46] : List UInt8) then ((gauge_Bar.f k 0 30 ([] : List Int) 1 1 1 1 (([0, 1, 2, 3] : List Int)) 2).bind fun ac => (if ac.toList = ([35, 35] : List UInt8) then ((gauge_Bar.f k 0 30 ([] : List Int) 1 1 1 1 ([] : List Int) 0).bind fun ad => (some (ad.toList == ([] : List UInt8)))) else (some false))) else (some false))) else (some false)) else (some false)) else (some false)) else (some false)) else (some false)) else (some false)) else (some false)) else (some false))) else (some false)) else (some false)) else (some false))))))) else (none))) else (none))) = some r := rp_ hy132 H
 have Ny132 := Aside0.mk hy132
 clear hy132
 replace H := bi_ H
 obtain ⟨⟨ao, aj⟩, A20, H⟩ := H
 replace H : (if fdivok 0 0 = false then ((gauge_Above.f 0 30 ([] : List Int) 1 1 1 1 ([] : List Int) fnan0_).bind fun bt137 => (if fdivok 4607182418800017408 0 = true then ((gauge_Above.f 0 30 ([] : List Int) 1 1 1 1 ([] : List Int) (fdiv 4607182418800017408 0)).bind fun bt139 => ((gauge_Above.f 0 30 ([] : List Int) 1 1 1 1 ([] : List Int) 13815242216921733530).bind fun bt141 => ((gauge_Least.f k 0 30 ([] : List Int) 1 1 1 1 4599075939470750515).bind fun bt143 => ((gauge_Least.f k 0 30 ([] : List Int) 1 1 1 1 (fneg 0)).bind fun bt145 => ((gauge_Of.f 0 30 ([] : List Int) 1 1 1 1 (([1, 2] : List Int))).bind fun ag => (if (feq ag 4602678819172646912) = true then (if am = true then (if ah = 0 then (if ao = true then (some false) else (if aj = 0 then (if bt137.2 = 1 then (if bt139.2 = 1 then (if bt141.2 = 1 then (if bt143.1 = 2 then (if bt143.2 = 0 then (if bt145.1 = 0 then (if bt145.2 = 0 then ((gauge_Bar.f k 0 30 ([] : List Int) 1 1 1 1 (([1, 2] : List Int)) 3).bind fun ae => (if ae.toList = ([35, 46, 46] : List UInt8) then ((gauge_Bar.f k 0 30 ([] : List Int) 1 1 1 1 (([0, 1, 2, 3] : List Int)) 2).bind fun ac => (if ac.toList = ([35, 35] : List UInt8) then ((gauge_Bar.f k 0 30 ([] : List Int) 1 1 1 1 ([] : List Int) 0).bind fun ad => (some (ad.toList == ([] : List UInt8)))) else (some false))) else (some false))) else (some false)) else (some false)) else (some false)) else (some false)) else (some false)) else (some false)) else (some false)) else (some false))) else (some false)) else (some false)) else (some false))))))) else (none))) else (none)) = some r := H
 have A2 := Aside0.mk A20
 clear A20
 by_cases c3 : fdivok 0 0 = false
 ·rw [if_pos c3] at H
  have dN := eq_true c3
  have dO : decide (fdivok 0 0 = false) = true := decide_eq_true c3
  clear c3; replace H := bi_ H; obtain ⟨⟨aJ, ak⟩, A40, H⟩ := H
  replace H : (if fdivok 4607182418800017408 0 = true then ((gauge_Above.f 0 30 ([] : List Int) 1 1 1 1 ([] : List Int) (fdiv 4607182418800017408 0)).bind fun bt139 => ((gauge_Above.f 0 30 ([] : List Int) 1 1 1 1 ([] : List Int) 13815242216921733530).bind fun bt141 => ((gauge_Least.f k 0 30 ([] : List Int) 1 1 1 1 4599075939470750515).bind fun bt143 => ((gauge_Least.f k 0 30 ([] : List Int) 1 1 1 1 (fneg 0)).bind fun bt145 => ((gauge_Of.f 0 30 ([] : List Int) 1 1 1 1 (([1, 2] : List Int))).bind fun ag => (if (feq ag 4602678819172646912) = true then (if am = true then (if ah = 0 then (if ao = true then (some false) else (if aj = 0 then (if ak = 1 then (if bt139.2 = 1 then (if bt141.2 = 1 then (if bt143.1 = 2 then (if bt143.2 = 0 then (if bt145.1 = 0 then (if bt145.2 = 0 then ((gauge_Bar.f k 0 30 ([] : List Int) 1 1 1 1 (([1, 2] : List Int)) 3).bind fun ae => (if ae.toList = ([35, 46, 46] : List UInt8) then ((gauge_Bar.f k 0 30 ([] : List Int) 1 1 1 1 (([0, 1, 2, 3] : List Int)) 2).bind fun ac => (if ac.toList = ([35, 35] : List UInt8) then ((gauge_Bar.f k 0 30 ([] : List Int) 1 1 1 1 ([] : List Int) 0).bind fun ad => (some (ad.toList == ([] : List UInt8)))) else (some false))) else (some false))) else (some false)) else (some false)) else (some false)) else (some false)) else (some false)) else (some false)) else (some false)) else (some false))) else (some false)) else (some false)) else (some false))))))) else (none)) = some r := H
  have A4 := Aside0.mk A40; clear A40
  by_cases c5 : fdivok 4607182418800017408 0 = true
  ·rw [if_pos c5] at H
   have dP := eq_true c5
   have dQ : decide (fdivok 4607182418800017408 0 = true) = true := decide_eq_true c5
   clear c5; replace H := bi_ H; obtain ⟨⟨aK, al⟩, A60, H⟩ := H
   replace H : ((gauge_Above.f 0 30 ([] : List Int) 1 1 1 1 ([] : List Int) 13815242216921733530).bind fun bt141 => ((gauge_Least.f k 0 30 ([] : List Int) 1 1 1 1 4599075939470750515).bind fun bt143 => ((gauge_Least.f k 0 30 ([] : List Int) 1 1 1 1 (fneg 0)).bind fun bt145 => ((gauge_Of.f 0 30 ([] : List Int) 1 1 1 1 (([1, 2] : List Int))).bind fun ag => (if (feq ag 4602678819172646912) = true then (if am = true then (if ah = 0 then (if ao = true then (some false) else (if aj = 0 then (if ak = 1 then (if al = 1 then (if bt141.2 = 1 then (if bt143.1 = 2 then (if bt143.2 = 0 then (if bt145.1 = 0 then (if bt145.2 = 0 then ((gauge_Bar.f k 0 30 ([] : List Int) 1 1 1 1 (([1, 2] : List Int)) 3).bind fun ae => (if ae.toList = ([35, 46, 46] : List UInt8) then ((gauge_Bar.f k 0 30 ([] : List Int) 1 1 1 1 (([0, 1, 2, 3] : List Int)) 2).bind fun ac => (if ac.toList = ([35, 35] : List UInt8) then ((gauge_Bar.f k 0 30 ([] : List Int) 1 1 1 1 ([] : List Int) 0).bind fun ad => (some (ad.toList == ([] : List UInt8)))) else (some false))) else (some false))) else (some false)) else (some false)) else (some false)) else (some false)) else (some false)) else (some false)) else (some false)) else (some false))) else (some false)) else (some false)) else (some false)))))) = some r := H
   have A6 := Aside0.mk A60; clear A60; replace H := bi_ H; obtain ⟨⟨aL, an⟩, A70, H⟩ := H
   replace H : ((gauge_Least.f k 0 30 ([] : List Int) 1 1 1 1 4599075939470750515).bind fun bt143 => ((gauge_Least.f k 0 30 ([] : List Int) 1 1 1 1 (fneg 0)).bind fun bt145 => ((gauge_Of.f 0 30 ([] : List Int) 1 1 1 1 (([1, 2] : List Int))).bind fun ag => (if (feq ag 4602678819172646912) = true then (if am = true then (if ah = 0 then (if ao = true then (some false) else (if aj = 0 then (if ak = 1 then (if al = 1 then (if an = 1 then (if bt143.1 = 2 then (if bt143.2 = 0 then (if bt145.1 = 0 then (if bt145.2 = 0 then ((gauge_Bar.f k 0 30 ([] : List Int) 1 1 1 1 (([1, 2] : List Int)) 3).bind fun ae => (if ae.toList = ([35, 46, 46] : List UInt8) then ((gauge_Bar.f k 0 30 ([] : List Int) 1 1 1 1 (([0, 1, 2, 3] : List Int)) 2).bind fun ac => (if ac.toList = ([35, 35] : List UInt8) then ((gauge_Bar.f k 0 30 ([] : List Int) 1 1 1 1 ([] : List Int) 0).bind fun ad => (some (ad.toList == ([] : List UInt8)))) else (some false))) else (some false))) else (some false)) else (some false)) else (some false)) else (some false)) else (some false)) else (some false)) else (some false)) else (some false))) else (some false)) else (some false)) else (some false))))) = some r := H
   have A7 := Aside0.mk A70; clear A70; replace H := bi_ H; obtain ⟨⟨ap, aq⟩, A80, H⟩ := H
   replace H : ((gauge_Least.f k 0 30 ([] : List Int) 1 1 1 1 (fneg 0)).bind fun bt145 => ((gauge_Of.f 0 30 ([] : List Int) 1 1 1 1 (([1, 2] : List Int))).bind fun ag => (if (feq ag 4602678819172646912) = true then (if am = true then (if ah = 0 then (if ao = true then (some false) else (if aj = 0 then (if ak = 1 then (if al = 1 then (if an = 1 then (if ap = 2 then (if aq = 0 then (if bt145.1 = 0 then (if bt145.2 = 0 then ((gauge_Bar.f k 0 30 ([] : List Int) 1 1 1 1 (([1, 2] : List Int)) 3).bind fun ae => (if ae.toList = ([35, 46, 46] : List UInt8) then ((gauge_Bar.f k 0 30 ([] : List Int) 1 1 1 1 (([0, 1, 2, 3] : List Int)) 2).bind fun ac => (if ac.toList = ([35, 35] : List UInt8) then ((gauge_Bar.f k 0 30 ([] : List Int) 1 1 1 1 ([] : List Int) 0).bind fun ad => (some (ad.toList == ([] : List UInt8)))) else (some false))) else (some false))) else (some false)) else (some false)) else (some false)) else (some false)) else (some false)) else (some false)) else (some false)) else (some false))) else (some false)) else (some false)) else (some false)))) = some r := H
   have A8 := Aside0.mk A80; clear A80; replace H := bi_ H; obtain ⟨⟨ar, au⟩, A90, H⟩ := H
   replace H : ((gauge_Of.f 0 30 ([] : List Int) 1 1 1 1 (([1, 2] : List Int))).bind fun ag => (if (feq ag 4602678819172646912) = true then (if am = true then (if ah = 0 then (if ao = true then (some false) else (if aj = 0 then (if ak = 1 then (if al = 1 then (if an = 1 then (if ap = 2 then (if aq = 0 then (if ar = 0 then (if au = 0 then ((gauge_Bar.f k 0 30 ([] : List Int) 1 1 1 1 (([1, 2] : List Int)) 3).bind fun ae => (if ae.toList = ([35, 46, 46] : List UInt8) then ((gauge_Bar.f k 0 30 ([] : List Int) 1 1 1 1 (([0, 1, 2, 3] : List Int)) 2).bind fun ac => (if ac.toList = ([35, 35] : List UInt8) then ((gauge_Bar.f k 0 30 ([] : List Int) 1 1 1 1 ([] : List Int) 0).bind fun ad => (some (ad.toList == ([] : List UInt8)))) else (some false))) else (some false))) else (some false)) else (some false)) else (some false)) else (some false)) else (some false)) else (some false)) else (some false)) else (some false))) else (some false)) else (some false)) else (some false))) = some r := H
   have A9 := Aside0.mk A90; clear A90; obtain ⟨az, hy147⟩ : ∃ y_ : List Int, y_ = (([1, 2] : List Int)) := ⟨_, rfl⟩
   replace H : ((gauge_Of.f 0 30 ([] : List Int) 1 1 1 1 az).bind fun ag => (if (feq ag 4602678819172646912) = true then (if am = true then (if ah = 0 then (if ao = true then (some false) else (if aj = 0 then (if ak = 1 then (if al = 1 then (if an = 1 then (if ap = 2 then (if aq = 0 then (if ar = 0 then (if au = 0 then ((gauge_Bar.f k 0 30 ([] : List Int) 1 1 1 1 (([1, 2] : List Int)) 3).bind fun ae => (if ae.toList = ([35, 46, 46] : List UInt8) then ((gauge_Bar.f k 0 30 ([] : List Int) 1 1 1 1 (([0, 1, 2, 3] : List Int)) 2).bind fun ac => (if ac.toList = ([35, 35] : List UInt8) then ((gauge_Bar.f k 0 30 ([] : List Int) 1 1 1 1 ([] : List Int) 0).bind fun ad => (some (ad.toList == ([] : List UInt8)))) else (some false))) else (some false))) else (some false)) else (some false)) else (some false)) else (some false)) else (some false)) else (some false)) else (some false)) else (some false))) else (some false)) else (some false)) else (some false))) = some r := rp_ hy147 H
   have Ny147 := Aside0.mk hy147; clear hy147; replace H := bi_ H; obtain ⟨ag, A100, H⟩ := H
   replace H : (if (feq ag 4602678819172646912) = true then (if am = true then (if ah = 0 then (if ao = true then (some false) else (if aj = 0 then (if ak = 1 then (if al = 1 then (if an = 1 then (if ap = 2 then (if aq = 0 then (if ar = 0 then (if au = 0 then ((gauge_Bar.f k 0 30 ([] : List Int) 1 1 1 1 (([1, 2] : List Int)) 3).bind fun ae => (if ae.toList = ([35, 46, 46] : List UInt8) then ((gauge_Bar.f k 0 30 ([] : List Int) 1 1 1 1 (([0, 1, 2, 3] : List Int)) 2).bind fun ac => (if ac.toList = ([35, 35] : List UInt8) then ((gauge_Bar.f k 0 30 ([] : List Int) 1 1 1 1 ([] : List Int) 0).bind fun ad => (some (ad.toList == ([] : List UInt8)))) else (some false))) else (some false))) else (some false)) else (some false)) else (some false)) else (some false)) else (some false)) else (some false)) else (some false)) else (some false))) else (some false)) else (some false)) else (some false)) = some r := H
   have A10 := Aside0.mk A100; clear A100
   by_cases c11 : (feq ag 4602678819172646912) = true
   ·rw [if_pos c11] at H
    have dm : (feq ag 4602678819172646912) = true := c11
    clear c11
    by_cases c12 : am = true
    ·subst c12
     have H1 : (if ah = 0 then (if ao = true then (some false) else (if aj = 0 then (if ak = 1 then (if al = 1 then (if an = 1 then (if ap = 2 then (if aq = 0 then (if ar = 0 then (if au = 0 then ((gauge_Bar.f k 0 30 ([] : List Int) 1 1 1 1 (([1, 2] : List Int)) 3).bind fun ae => (if ae.toList = ([35, 46, 46] : List UInt8) then ((gauge_Bar.f k 0 30 ([] : List Int) 1 1 1 1 (([0, 1, 2, 3] : List Int)) 2).bind fun ac => (if ac.toList = ([35, 35] : List UInt8) then ((gauge_Bar.f k 0 30 ([] : List Int) 1 1 1 1 ([] : List Int) 0).bind fun ad => (some (ad.toList == ([] : List UInt8)))) else (some false))) else (some false))) else (some false)) else (some false)) else (some false)) else (some false)) else (some false)) else (some false)) else (some false)) else (some false))) else (some false)) = some r := pf_ rfl H
     clear H; have H := H1; clear H1
     by_cases c13 : ah = 0
     ·rw [if_pos c13] at H
      have dn : (ah == 0) = true := beq_iff_eq.mpr c13
      have dp : (ah != 0) = false := bne_eq_false_iff_eq.mpr c13
      clear c13
      by_cases c14 : ao = true
      ·subst c14
       have H1 : (some false) = some r := pf_ rfl H
       rw [hr_.out] at H1
       exact absurd (Option.some.inj H1) (by decide)
      ·replace c14 := Bool.eq_false_iff.mpr c14
       subst c14
       have H1 : (if aj = 0 then (if ak = 1 then (if al = 1 then (if an = 1 then (if ap = 2 then (if aq = 0 then (if ar = 0 then (if au = 0 then ((gauge_Bar.f k 0 30 ([] : List Int) 1 1 1 1 (([1, 2] : List Int)) 3).bind fun ae => (if ae.toList = ([35, 46, 46] : List UInt8) then ((gauge_Bar.f k 0 30 ([] : List Int) 1 1 1 1 (([0, 1, 2, 3] : List Int)) 2).bind fun ac => (if ac.toList = ([35, 35] : List UInt8) then ((gauge_Bar.f k 0 30 ([] : List Int) 1 1 1 1 ([] : List Int) 0).bind fun ad => (some (ad.toList == ([] : List UInt8)))) else (some false))) else (some false))) else (some false)) else (some false)) else (some false)) else (some false)) else (some false)) else (some false)) else (some false)) else (some false)) = some r := nf_ H
       clear H; have H := H1; clear H1
       by_cases c41 : aj = 0
       ·rw [if_pos c41] at H
        have dq : (aj == 0) = true := beq_iff_eq.mpr c41
        have dr : (aj != 0) = false := bne_eq_false_iff_eq.mpr c41
        clear c41
        by_cases c42 : ak = 1
        ·rw [if_pos c42] at H
         have dt : (ak == 1) = true := beq_iff_eq.mpr c42
         have du : (ak != 1) = false := bne_eq_false_iff_eq.mpr c42
         clear c42
         by_cases c43 : al = 1
         ·rw [if_pos c43] at H
          have dv : (al == 1) = true := beq_iff_eq.mpr c43
          have dw : (al != 1) = false := bne_eq_false_iff_eq.mpr c43
          clear c43
          by_cases c44 : an = 1
          ·rw [if_pos c44] at H
           have dx : (an == 1) = true := beq_iff_eq.mpr c44
           have dy : (an != 1) = false := bne_eq_false_iff_eq.mpr c44
           clear c44
           by_cases c45 : ap = 2
           ·rw [if_pos c45] at H
            have dz : (ap == 2) = true := beq_iff_eq.mpr c45
            have dA : (ap != 2) = false := bne_eq_false_iff_eq.mpr c45
            clear c45
            by_cases c46 : aq = 0
            ·rw [if_pos c46] at H
             have dB : (aq == 0) = true := beq_iff_eq.mpr c46
             have dC : (aq != 0) = false := bne_eq_false_iff_eq.mpr c46
             clear c46
             by_cases c47 : ar = 0
             ·rw [if_pos c47] at H
              have dD : (ar == 0) = true := beq_iff_eq.mpr c47
              have dE : (ar != 0) = false := bne_eq_false_iff_eq.mpr c47
              clear c47
              by_cases c48 : au = 0
              ·rw [if_pos c48] at H
               have dF : (au == 0) = true := beq_iff_eq.mpr c48
               have dG : (au != 0) = false := bne_eq_false_iff_eq.mpr c48
               clear c48; obtain ⟨aA, hy151⟩ : ∃ y_ : List Int, y_ = (([1, 2] : List Int)) := ⟨_, rfl⟩
               replace H : ((gauge_Bar.f k 0 30 ([] : List Int) 1 1 1 1 aA 3).bind fun ae => (if ae.toList = ([35, 46, 46] : List UInt8) then ((gauge_Bar.f k 0 30 ([] : List Int) 1 1 1 1 (([0, 1, 2, 3] : List Int)) 2).bind fun ac => (if ac.toList = ([35, 35] : List UInt8) then ((gauge_Bar.f k 0 30 ([] : List Int) 1 1 1 1 ([] : List Int) 0).bind fun ad => (some (ad.toList == ([] : List UInt8)))) else (some false))) else (some false))) = some r := rp_ hy151 H
               have Ny151 := Aside0.mk hy151; clear hy151; replace H := bi_ H; obtain ⟨ae, A490, H⟩ := H
               replace H : (if ae.toList = ([35, 46, 46] : List UInt8) then ((gauge_Bar.f k 0 30 ([] : List Int) 1 1 1 1 (([0, 1, 2, 3] : List Int)) 2).bind fun ac => (if ac.toList = ([35, 35] : List UInt8) then ((gauge_Bar.f k 0 30 ([] : List Int) 1 1 1 1 ([] : List Int) 0).bind fun ad => (some (ad.toList == ([] : List UInt8)))) else (some false))) else (some false)) = some r := H
               have A49 := Aside0.mk A490; clear A490
               by_cases c50 : ae.toList = ([35, 46, 46] : List UInt8)
               ·rw [if_pos c50] at H
                have dH : (ae.toList == ([35, 46, 46] : List UInt8)) = true := beq_iff_eq.mpr c50
                have dI : (ae.toList != ([35, 46, 46] : List UInt8)) = false := bne_eq_false_iff_eq.mpr c50
                clear c50; obtain ⟨aB, hy155⟩ : ∃ y_ : List Int, y_ = (([0, 1, 2, 3] : List Int)) := ⟨_, rfl⟩
                replace H : ((gauge_Bar.f k 0 30 ([] : List Int) 1 1 1 1 aB 2).bind fun ac => (if ac.toList = ([35, 35] : List UInt8) then ((gauge_Bar.f k 0 30 ([] : List Int) 1 1 1 1 ([] : List Int) 0).bind fun ad => (some (ad.toList == ([] : List UInt8)))) else (some false))) = some r := rp_ hy155 H
                have Ny155 := Aside0.mk hy155; clear hy155; replace H := bi_ H; obtain ⟨ac, A510, H⟩ := H
                replace H : (if ac.toList = ([35, 35] : List UInt8) then ((gauge_Bar.f k 0 30 ([] : List Int) 1 1 1 1 ([] : List Int) 0).bind fun ad => (some (ad.toList == ([] : List UInt8)))) else (some false)) = some r := H
                have A51 := Aside0.mk A510; clear A510
                by_cases c52 : ac.toList = ([35, 35] : List UInt8)
                ·rw [if_pos c52] at H
                 have dJ : (ac.toList == ([35, 35] : List UInt8)) = true := beq_iff_eq.mpr c52
                 have dK : (ac.toList != ([35, 35] : List UInt8)) = false := bne_eq_false_iff_eq.mpr c52
                 clear c52; replace H := bi_ H; obtain ⟨ad, A530, H⟩ := H
                 replace H : (some (ad.toList == ([] : List UInt8))) = some r := H
                 have A53 := Aside0.mk A530; clear A530
                 first | (exfalso; rw [hr_.out] at H; exact absurd (Option.some.inj H) (by decide)) | (try clear hr_)
                 all_goals
                  obtain rfl := Option.some.inj H
                  go_enter Try.func7, Try.ntmps7
                  simp only [List.append]
                  go_wp2_with (first | ((with_reducible refine gd_ 1 ?_); (try (refine gate_guard (by rfl) ?_; dsimp only)); refine bx_ (N := 1) (cs := #[.int .u32 0, .int .i64 0, .slice none 0 0, .int .i64 0, .int .i64 0, .int .i64 0, .int .i64 0]) (t := 27) ?_; intro aC hg w54 aa hb; have dl := gG_ hg HB; have dk := gG_ hg HB; replace HB := hS_ HB hb; clear hb hg; obtain ⟨aM, aN, aO, aP, aQ, aR, aS, b2, b3, b4, b5, b6, b7, b8⟩ := cz7_ (w := w54) aa) | ((with_reducible refine gd_ 21 ?_); (try (refine gate_guard (by rfl) ?_; dsimp only)); refine Kd.R_lit (Kd.int .i64) _ 3 ?hg (N := 21) ?hd (xs := ([1, 2] : List Int)) (inner := [.int .i64 1, .int .i64 2]) (ok := fun _ => True) (okp := fun _ => True) ?hr ?hp (fun _ hk => hk) trivial (Below.refl _ _) (Nat.le_refl _) (by simp) ?_; (case hd => rfl); (case hg => rfl); (case hr => first | (go_simp; done) | (go_simp; rfl)); (case hp => exact (Reps.one (show Kd.M (Kd.int .i64) _ _ _ 1 [.int .i64 1] from rfl) (Reps.one (show Kd.M (Kd.int .i64) _ _ _ 2 [.int .i64 2] from rfl) (Reps.none _ _)))); intro v128 w56 ho57 hb hg_ hnew_; clear hg_ hnew_; (first | rw [← Ny127.out] at ho57 | (simp only [Int.reduceToNat] at ho57; rw [← Ny127.out] at ho57)); have ab := Aside0.mk (Kd.R_lower ho57 (below_size (hB_ HB))); replace aa := Aside0.mk (blk_below (g := aC) (o := .cells #[.int .u32 0, .int .i64 30, .slice none 0 0, .int .i64 1, .int .i64 1, .int .i64 1, .int .i64 1] 27 (0, 0)) (by refine bp_ ?_; apply bS7_; refine bp_ ?_; exact aa.out) hb); replace HB := hS_ HB hb; clear hb ho57; obtain ⟨aD, aG, eo58⟩ := Kd.R_slice ab.out; subst eo58) | ((with_reducible refine gate_callee (f := 9) rfl ?_); refine goesL_ (some 22) rfl rfl Try.func9 (by kernel_rfl) rfl #[.agg #[.int .u32 0, .int .i64 30, .slice none 0 0, .int .i64 1, .int .i64 1, .int .i64 1, .int .i64 1], .slice aD ax.length aG, .float .f64 4602678819172646912] rfl am_ ?_; (refine (gauge_Above.calls 0 30 _ _ ([] : List Int) 1 1 1 1 _ _ ax 4602678819172646912 true ah _ ?side1 ?side2 ?side3 ?side4 A1.out).mono ?_); (case side1 => exact Kd.C_nil _ _); (case side2 => exact Nat.le_refl _); (case side3 => exact cD_ (Kd.R_reads' ab.out).2.2); (case side4 => exact (Kd.R_reads' ab.out).2.1); rintro e w59 ⟨rfl, hb⟩; refine ⟨_, rfl, ?_⟩; replace ab := rB_ ab hb; replace HB := hS_ HB hb; replace aa := bB_ aa hb; (try clear hb); obtain ⟨aT, aU, aV, aW, aX, aY, aZ, b9, ca, cb, cc, cd, ce, cf⟩ := cz7_ (w := w59) aa) | ((with_reducible refine gd_ 27 ?_); (try (refine gate_guard (by rfl) ?_; dsimp only)); refine Kd.R_lit (Kd.int .i64) _ 3 ?hg (N := 27) ?hd (xs := ([1, 2] : List Int)) (inner := [.int .i64 1, .int .i64 2]) (ok := fun _ => True) (okp := fun _ => True) ?hr ?hp (fun _ hk => hk) trivial (Below.refl _ _) (Nat.le_refl _) (by simp) ?_; (case hd => rfl); (case hg => rfl); (case hr => first | (go_simp; done) | (go_simp; rfl)); (case hp => exact (Reps.one (show Kd.M (Kd.int .i64) _ _ _ 1 [.int .i64 1] from rfl) (Reps.one (show Kd.M (Kd.int .i64) _ _ _ 2 [.int .i64 2] from rfl) (Reps.none _ _)))); intro v133 w61 ho62 hb hg_ hnew_; clear hg_ hnew_; (first | rw [← Ny132.out] at ho62 | (simp only [Int.reduceToNat] at ho62; rw [← Ny132.out] at ho62)); have af := Aside0.mk (Kd.R_lower (Kd.R_new' ho62 (Kd.R_lt (rR_ ab))) (below_size (hB_ HB))); replace ab := Aside0.mk (Kd.R_elder' (rR_ ab) (Kd.R_base ho62) hb); replace HB := hS_ HB hb; replace aa := bB_ aa hb; clear hb ho62; obtain ⟨aE, aH, eo63⟩ := Kd.R_slice af.out; subst eo63) | ((with_reducible refine gate_callee (f := 9) rfl ?_); refine goesL_ (some 28) rfl rfl Try.func9 (by kernel_rfl) rfl #[.agg #[.int .u32 0, .int .i64 30, .slice none 0 0, .int .i64 1, .int .i64 1, .int .i64 1, .int .i64 1], .slice aE ay.length aH, .float .f64 4604930618986332160] rfl am_ ?_; (refine (gauge_Above.calls 0 30 _ _ ([] : List Int) 1 1 1 1 _ _ ay 4604930618986332160 false aj _ ?side1 ?side2 ?side3 ?side4 A2.out).mono ?_); (case side1 => exact Kd.C_nil _ _); (case side2 => exact Nat.le_refl _); (case side3 => exact cD_ (Kd.R_reads' af.out).2.2); (case side4 => exact (Kd.R_reads' af.out).2.1); rintro e w64 ⟨rfl, hb⟩; refine ⟨_, rfl, ?_⟩; replace ab := rB_ ab hb; replace af := rB_ af hb; replace HB := hS_ HB hb; replace aa := bB_ aa hb; (try clear hb); obtain ⟨a0, a1, a2, a3, a4, a5, a6, cg, ch, ci, cj, ck, cl, cm⟩ := cz7_ (w := w64) aa) | ((with_reducible refine gate_callee (f := 9) rfl ?_); refine goesL_ (some 36) rfl rfl Try.func9 (by kernel_rfl) rfl #[.agg #[.int .u32 0, .int .i64 30, .slice none 0 0, .int .i64 1, .int .i64 1, .int .i64 1, .int .i64 1], .slice none 0 0, .float .f64 (nanof _ _ _)] rfl am_ ?_; (refine (gauge_Above.calls 0 30 _ _ ([] : List Int) 1 1 1 1 _ _ ([] : List Int) _ aJ ak _ ?side1 ?side2 ?side3 ?side4 (nanA_ (nan_nanof _ _ _) A4.out)).mono ?_); (case side1 => exact Kd.C_nil _ _); (case side2 => exact Nat.le_refl _); (case side3 => exact Kd.C_nil _ _); (case side4 => exact Nat.le_refl _); rintro e w66 ⟨rfl, hb⟩; refine ⟨_, rfl, ?_⟩; replace ab := rB_ ab hb; replace af := rB_ af hb; replace HB := hS_ HB hb; replace aa := bB_ aa hb; (try clear hb); obtain ⟨a7, a8, a9, ba, bb, bc, bd, cn, co, cp, cq, cr, ct, cu⟩ := cz7_ (w := w66) aa) | ((with_reducible refine gate_callee (f := 9) rfl ?_); refine goesL_ (some 43) rfl rfl Try.func9 (by kernel_rfl) rfl #[.agg #[.int .u32 0, .int .i64 30, .slice none 0 0, .int .i64 1, .int .i64 1, .int .i64 1, .int .i64 1], .slice none 0 0, .float .f64 (fdiv 4607182418800017408 0)] rfl am_ ?_; (refine (gauge_Above.calls 0 30 _ _ ([] : List Int) 1 1 1 1 _ _ ([] : List Int) (fdiv 4607182418800017408 0) aK al _ ?side1 ?side2 ?side3 ?side4 A6.out).mono ?_); (case side1 => exact Kd.C_nil _ _); (case side2 => exact Nat.le_refl _); (case side3 => exact Kd.C_nil _ _); (case side4 => exact Nat.le_refl _); rintro e w68 ⟨rfl, hb⟩; refine ⟨_, rfl, ?_⟩; replace ab := rB_ ab hb; replace af := rB_ af hb; replace HB := hS_ HB hb; replace aa := bB_ aa hb; (try clear hb); obtain ⟨be, bf, bg, bh, bi, bj, bk, cv, cw, cx, cy, cz, cA, cB⟩ := cz7_ (w := w68) aa) | ((with_reducible refine gate_callee (f := 9) rfl ?_); refine goesL_ (some 48) rfl rfl Try.func9 (by kernel_rfl) rfl #[.agg #[.int .u32 0, .int .i64 30, .slice none 0 0, .int .i64 1, .int .i64 1, .int .i64 1, .int .i64 1], .slice none 0 0, .float .f64 13815242216921733530] rfl am_ ?_; (refine (gauge_Above.calls 0 30 _ _ ([] : List Int) 1 1 1 1 _ _ ([] : List Int) 13815242216921733530 aL an _ ?side1 ?side2 ?side3 ?side4 A7.out).mono ?_); (case side1 => exact Kd.C_nil _ _); (case side2 => exact Nat.le_refl _); (case side3 => exact Kd.C_nil _ _); (case side4 => exact Nat.le_refl _); rintro e w70 ⟨rfl, hb⟩; refine ⟨_, rfl, ?_⟩; replace ab := rB_ ab hb; replace af := rB_ af hb; replace HB := hS_ HB hb; replace aa := bB_ aa hb; (try clear hb); obtain ⟨bl, bm, bn, bo, bp, bq, br, cC, cD, cE, cF, cG, cH, cI⟩ := cz7_ (w := w70) aa) | ((with_reducible refine gate_callee (f := 10) rfl ?_); refine goesL_ (some 53) rfl rfl Try.func10 (by kernel_rfl) rfl #[.agg #[.int .u32 0, .int .i64 30, .slice none 0 0, .int .i64 1, .int .i64 1, .int .i64 1, .int .i64 1], .float .f64 4599075939470750515] rfl am_ ?_; (refine (gauge_Least.calls k 0 30 _ _ ([] : List Int) 1 1 1 1 4599075939470750515 ap aq _ ?side1 ?side2 A8.out).mono ?_); (case side1 => exact Kd.C_nil _ _); (case side2 => exact Nat.le_refl _); rintro e w72 ⟨rfl, hb⟩; refine ⟨_, rfl, ?_⟩; replace ab := rB_ ab hb; replace af := rB_ af hb; replace HB := hS_ HB hb; replace aa := bB_ aa hb; (try clear hb); obtain ⟨bs, bt, bu, bv, bw, bx, bz, cJ, cK, cL, cM, cN, cO, cP⟩ := cz7_ (w := w72) aa) | ((with_reducible refine gate_callee (f := 10) rfl ?_); refine goesL_ (some 60) rfl rfl Try.func10 (by kernel_rfl) rfl #[.agg #[.int .u32 0, .int .i64 30, .slice none 0 0, .int .i64 1, .int .i64 1, .int .i64 1, .int .i64 1], .float .f64 (fneg 0)] rfl am_ ?_; (refine (gauge_Least.calls k 0 30 _ _ ([] : List Int) 1 1 1 1 (fneg 0) ar au _ ?side1 ?side2 A9.out).mono ?_); (case side1 => exact Kd.C_nil _ _); (case side2 => exact Nat.le_refl _); rintro e w74 ⟨rfl, hb⟩; refine ⟨_, rfl, ?_⟩; replace ab := rB_ ab hb; replace af := rB_ af hb; replace HB := hS_ HB hb; replace aa := bB_ aa hb; (try clear hb); obtain ⟨bA, bB, bC, bD, bE, bF, bG, cQ, cR, cS, cT, cU, cV, cW⟩ := cz7_ (w := w74) aa) | ((with_reducible refine gd_ 64 ?_); (try (refine gate_guard (by rfl) ?_; dsimp only)); refine Kd.R_lit (Kd.int .i64) _ 3 ?hg (N := 64) ?hd (xs := ([1, 2] : List Int)) (inner := [.int .i64 1, .int .i64 2]) (ok := fun _ => True) (okp := fun _ => True) ?hr ?hp (fun _ hk => hk) trivial (Below.refl _ _) (Nat.le_refl _) (by simp) ?_; (case hd => rfl); (case hg => rfl); (case hr => first | (go_simp; done) | (go_simp; rfl)); (case hp => exact (Reps.one (show Kd.M (Kd.int .i64) _ _ _ 1 [.int .i64 1] from rfl) (Reps.one (show Kd.M (Kd.int .i64) _ _ _ 2 [.int .i64 2] from rfl) (Reps.none _ _)))); intro v148 w76 ho77 hb hg_ hnew_; clear hg_ hnew_; (first | rw [← Ny147.out] at ho77 | (simp only [Int.reduceToNat] at ho77; rw [← Ny147.out] at ho77)); have ai := Aside0.mk (Kd.R_lower (Kd.R_new' (Kd.R_new' ho77 (Kd.R_lt (rR_ ab))) (Kd.R_lt (rR_ af))) (below_size (hB_ HB))); replace ab := Aside0.mk (Kd.R_elder' (rR_ ab) (Kd.R_base ho77) hb); replace af := Aside0.mk (Kd.R_elder' (rR_ af) (Kd.R_base ho77) hb); replace HB := hS_ HB hb; replace aa := bB_ aa hb; clear hb ho77; obtain ⟨aF, aI, eo78⟩ := Kd.R_slice ai.out; subst eo78) | ((with_reducible refine gate_callee (f := 11) rfl ?_); refine goesL_ (some 65) rfl rfl Try.func11 (by kernel_rfl) rfl #[.agg #[.int .u32 0, .int .i64 30, .slice none 0 0, .int .i64 1, .int .i64 1, .int .i64 1, .int .i64 1], .slice aF az.length aI] rfl am_ ?_; (refine (gauge_Of.calls 0 30 _ _ ([] : List Int) 1 1 1 1 _ _ az ag _ ?side1 ?side2 ?side3 ?side4 A10.out).mono ?_); (case side1 => exact Kd.C_nil _ _); (case side2 => exact Nat.le_refl _); (case side3 => exact cD_ (Kd.R_reads' ai.out).2.2); (case side4 => exact (Kd.R_reads' ai.out).2.1); rintro e w79 ⟨rfl, hb⟩; refine ⟨_, rfl, ?_⟩; replace ab := rB_ ab hb; replace af := rB_ af hb; replace ai := rB_ ai hb; replace HB := hS_ HB hb; replace aa := bB_ aa hb; (try clear hb); obtain ⟨bH, bI, bJ, bK, bL, bM, bN, cX, cY, cZ, c0, c1, c2, c4⟩ := cz7_ (w := w79) aa) | ((with_reducible refine gd_ 112 ?_); (try (refine gate_guard (by rfl) ?_; dsimp only)); refine Kd.R_lit (Kd.int .i64) _ 3 ?hg (N := 112) ?hd (xs := ([1, 2] : List Int)) (inner := [.int .i64 1, .int .i64 2]) (ok := fun _ => True) (okp := fun _ => True) ?hr ?hp (fun _ hk => hk) trivial (Below.refl _ _) (Nat.le_refl _) (by simp) ?_; (case hd => rfl); (case hg => rfl); (case hr => first | (go_simp; done) | (go_simp; rfl)); (case hp => exact (Reps.one (show Kd.M (Kd.int .i64) _ _ _ 1 [.int .i64 1] from rfl) (Reps.one (show Kd.M (Kd.int .i64) _ _ _ 2 [.int .i64 2] from rfl) (Reps.none _ _)))); intro v152 w81 ho82 hb hg_ hnew_; clear hg_ hnew_; (first | rw [← Ny151.out] at ho82 | (simp only [Int.reduceToNat] at ho82; rw [← Ny151.out] at ho82)); have av := Aside0.mk (Kd.R_lower (Kd.R_new' (Kd.R_new' (Kd.R_new' ho82 (Kd.R_lt (rR_ ab))) (Kd.R_lt (rR_ af))) (Kd.R_lt (rR_ ai))) (below_size (hB_ HB))); replace ab := Aside0.mk (Kd.R_elder' (rR_ ab) (Kd.R_base ho82) hb); replace af := Aside0.mk (Kd.R_elder' (rR_ af) (Kd.R_base ho82) hb); replace ai := Aside0.mk (Kd.R_elder' (rR_ ai) (Kd.R_base ho82) hb); replace HB := hS_ HB hb; replace aa := bB_ aa hb; clear hb ho82; obtain ⟨dL, dR, eo83⟩ := Kd.R_slice av.out; subst eo83) | (go_at_call 13; (refine (gauge_Bar.calls k 0 30 _ _ ([] : List Int) 1 1 1 1 _ _ aA 3 ae _ ?side1 ?side2 ?side3 ?side4 A49.out).mono ?_); (case side1 => exact Kd.C_nil _ _); (case side2 => exact Nat.le_refl _); (case side3 => exact cD_ (Kd.R_reads' av.out).2.2); (case side4 => exact (Kd.R_reads' av.out).2.1); rintro e w84 ⟨rfl, hb⟩; (try clear A49); replace ab := rB_ ab hb; replace af := rB_ af hb; replace ai := rB_ ai hb; replace av := rB_ av hb; replace HB := hS_ HB hb; replace aa := bB_ aa hb; (try clear hb); obtain ⟨bO, bP, bQ, bR, bS, bT, bU, c6, c7, c8, c9, da, db, dc⟩ := cz7_ (w := w84) aa) | ((with_reducible refine gd_ 118 ?_); (try (refine gate_guard (by rfl) ?_; dsimp only)); refine Kd.R_lit (Kd.int .i64) _ 3 ?hg (N := 118) ?hd (xs := ([0, 1, 2, 3] : List Int)) (inner := [.int .i64 0, .int .i64 1, .int .i64 2, .int .i64 3]) (ok := fun _ => True) (okp := fun _ => True) ?hr ?hp (fun _ hk => hk) trivial (Below.refl _ _) (Nat.le_refl _) (by simp) ?_; (case hd => rfl); (case hg => rfl); (case hr => first | (go_simp; done) | (go_simp; rfl)); (case hp => exact (Reps.one (show Kd.M (Kd.int .i64) _ _ _ 0 [.int .i64 0] from rfl) (Reps.one (show Kd.M (Kd.int .i64) _ _ _ 1 [.int .i64 1] from rfl) (Reps.one (show Kd.M (Kd.int .i64) _ _ _ 2 [.int .i64 2] from rfl) (Reps.one (show Kd.M (Kd.int .i64) _ _ _ 3 [.int .i64 3] from rfl) (Reps.none _ _)))))); intro v156 w86 ho87 hb hg_ hnew_; clear hg_ hnew_; (first | rw [← Ny155.out] at ho87 | (simp only [Int.reduceToNat] at ho87; rw [← Ny155.out] at ho87)); have aw := Aside0.mk (Kd.R_lower (Kd.R_new' (Kd.R_new' (Kd.R_new' (Kd.R_new' ho87 (Kd.R_lt (rR_ ab))) (Kd.R_lt (rR_ af))) (Kd.R_lt (rR_ ai))) (Kd.R_lt (rR_ av))) (below_size (hB_ HB))); replace HB := hS_ HB hb; replace aa := bB_ aa hb; clear hb ho87; obtain ⟨dM, dS, eo88⟩ := Kd.R_slice aw.out; subst eo88) | (go_at_call 13; (refine (gauge_Bar.calls k 0 30 _ _ ([] : List Int) 1 1 1 1 _ _ aB 2 ac _ ?side1 ?side2 ?side3 ?side4 A51.out).mono ?_); (case side1 => exact Kd.C_nil _ _); (case side2 => exact Nat.le_refl _); (case side3 => exact cD_ (Kd.R_reads' aw.out).2.2); (case side4 => exact (Kd.R_reads' aw.out).2.1); rintro e w89 ⟨rfl, hb⟩; (try clear A51); replace HB := hS_ HB hb; replace aa := bB_ aa hb; (try clear hb); obtain ⟨bV, bW, bX, bY, bZ, b0, b1, dd, de, df, dg, dh, di, dj⟩ := cz7_ (w := w89) aa) | (go_at_call 13; (refine (gauge_Bar.calls k 0 30 _ _ ([] : List Int) 1 1 1 1 _ _ ([] : List Int) 0 ad _ ?side1 ?side2 ?side3 ?side4 A53.out).mono ?_); (case side1 => exact Kd.C_nil _ _); (case side2 => exact Nat.le_refl _); (case side3 => exact Kd.C_nil _ _); (case side4 => exact Nat.le_refl _); rintro e w91 ⟨rfl, hb⟩; (try clear A53); replace HB := hS_ HB hb; (try clear hb)))
                  go_ret
                  exact ⟨er_, hB_ HB⟩
                ·rw [if_neg c52] at H
                 rw [hr_.out] at H
                 exact absurd (Option.some.inj H) (by decide)
               ·rw [if_neg c50] at H
                rw [hr_.out] at H
                exact absurd (Option.some.inj H) (by decide)
              ·rw [if_neg c48] at H
               rw [hr_.out] at H
               exact absurd (Option.some.inj H) (by decide)
             ·rw [if_neg c47] at H
              rw [hr_.out] at H
              exact absurd (Option.some.inj H) (by decide)
            ·rw [if_neg c46] at H
             rw [hr_.out] at H
             exact absurd (Option.some.inj H) (by decide)
           ·rw [if_neg c45] at H
            rw [hr_.out] at H
            exact absurd (Option.some.inj H) (by decide)
          ·rw [if_neg c44] at H
           rw [hr_.out] at H
           exact absurd (Option.some.inj H) (by decide)
         ·rw [if_neg c43] at H
          rw [hr_.out] at H
          exact absurd (Option.some.inj H) (by decide)
        ·rw [if_neg c42] at H
         rw [hr_.out] at H
         exact absurd (Option.some.inj H) (by decide)
       ·rw [if_neg c41] at H
        rw [hr_.out] at H
        exact absurd (Option.some.inj H) (by decide)
     ·rw [if_neg c13] at H
      rw [hr_.out] at H
      exact absurd (Option.some.inj H) (by decide)
    ·replace c12 := Bool.eq_false_iff.mpr c12
     subst c12
     have H1 : (some false) = some r := nf_ H
     rw [hr_.out] at H1
     exact absurd (Option.some.inj H1) (by decide)
   ·rw [if_neg c11] at H
    rw [hr_.out] at H
    exact absurd (Option.some.inj H) (by decide)
  ·rw [if_neg c5] at H
   exact absurd H (by simp)
 ·rw [if_neg c3] at H
  exact absurd H (by simp)

/-! ### lodgerref04_Many: function 28 -/
def lodgerref04_Many.l0 : Nat → Int → Int → Option (Int)
 | 0, _, _ => none
 | k + 1, x3, x4 => if x4 < 32 then (lodgerref04_Many.l0 k (wrap64 (2 * x3)) (wrap64 (x4 + 1))) else (some x3)
def lodgerref04_Many.f (k : Nat) (a0 : Int) : Option (Int) := lodgerref04_Many.l0 k 1 a0
theorem lodgerref04_Many.mono_l : ∀ k, (∀ y0 y1, LeO (lodgerref04_Many.l0 k y0 y1) (lodgerref04_Many.l0 (k + 1) y0 y1))
 | 0 => fun _ _ r h => by simp [lodgerref04_Many.l0] at h
 | k + 1 => by
  have ih0 := lodgerref04_Many.mono_l k
  ·intro y0 y1
   unfold lodgerref04_Many.l0
   repeat' (with_reducible first | apply ih0 | exact LeO.refl _ | exact LeO.none _ | refine LeO.ite ?_ ?_ | refine LeO.bind ?_ (fun _ => ?_))
theorem lodgerref04_Many.mono : ∀ a0 k, LeO (lodgerref04_Many.f k a0) (lodgerref04_Many.f (k + 1) a0) := by
 intro a0 k
 have ih0 := lodgerref04_Many.mono_l k
 unfold lodgerref04_Many.f
 repeat' (with_reducible first | apply ih0 | exact LeO.refl _ | exact LeO.none _ | refine LeO.ite ?_ ?_ | refine LeO.bind ?_ (fun _ => ?_))
set_option maxHeartbeats 8000000 in
set_option maxRecDepth 100000 in
theorem lodgerref04_Many.calls (k : Nat) (a0 r : Int) (w : World) (h : lodgerref04_Many.f k a0 = some r) :
  Calls Try.prog 28 #[.int .i64 a0] w fun e w' => e = .returned (.int .i64 r) ∧ Drawn0 w w' := by
 have H : (lodgerref04_Many.l0 k 1 a0) = some r := h
 clear h
 have H' := Aside0.mk H
 clear H
 go_enter Try.func28, Try.ntmps28
 go_wp2
 go_loopg [3, 4] k (fun kq v3 v4 w' => ∃ (ab aa : Int), v3 = .int .i64 ab ∧ v4 = .int .i64 aa ∧ Aside0 (lodgerref04_Many.l0 kq ab aa = some r) ∧ Aside0 (kq ≤ k) ∧ Drawn0 w w')
 case atStart => exact ⟨(1), (a0), rs_, rs_, H', ⟨Nat.le_refl _⟩, dn_⟩
 case round =>
  clear H'; obtain ⟨ab, aa, rfl, rfl, HA, HK1, ⟨m1, rfl⟩⟩ := hrel
  cases gk with
  | zero => exact absurd HA.out (by simp [lodgerref04_Many.l0])
  | succ k1 =>
   have H := HA.out; clear HA; simp only [lodgerref04_Many.l0] at H
   by_cases c2 : aa < 32
   ·rw [if_pos c2] at H
    have ac : decide (aa < 32) = true := decide_eq_true c2
    clear c2
    have H' := Aside0.mk H
    clear H
    go_wp2
    go_roundg k1
    case measure => have := HK1.out; omega
    case rel => exact ⟨(wrap64 (2 * ab)), (wrap64 (aa + 1)), rs_, rs_, H', ⟨om_ HK1⟩, dn_⟩
   ·rw [if_neg c2] at H
    have ac : decide (aa < 32) = false := decide_eq_false c2
    clear c2
    obtain rfl := Option.some.inj H
    go_wp2
    go_ret
    exact ⟨rs_, dn_⟩

/-! ### lodgerref05_Many: function 20 -/
def lodgerref05_Many.f (k : Nat) (a0_0 a0_1 : Int) : Option (Int) := (lodgerref04_Many.f k a0_1).bind fun t161 => (some t161)
theorem lodgerref05_Many.mono : ∀ a0 a1 k, LeO (lodgerref05_Many.f k a0 a1) (lodgerref05_Many.f (k + 1) a0 a1) := by
 intro a0 a1 k
 unfold lodgerref05_Many.f
 repeat' (with_reducible first | apply lodgerref04_Many.mono | exact LeO.refl _ | exact LeO.none _ | refine LeO.ite ?_ ?_ | refine LeO.bind ?_ (fun _ => ?_))
set_option maxHeartbeats 8000000 in
set_option maxRecDepth 100000 in
theorem lodgerref05_Many.calls (k : Nat) (ac aa r : Int) (w : World) (h : lodgerref05_Many.f k ac aa = some r) :
  Calls Try.prog 20 #[.agg #[.int .u32 ac, .int .i64 aa]] w fun e w' => e = .returned (.int .i64 r) ∧ Below w.heap.size w w' := by
 have hu24 := Try.underlying24
 have HB := Aside0.mk (Below.refl w.heap.size w)
 have H : ((lodgerref04_Many.f k aa).bind fun ab => (some ab)) = some r := h
 clear h
 replace H := bi_ H
 obtain ⟨ab, A20, H⟩ := H
 replace H : (some ab) = some r := H
 have A2 := Aside0.mk A20
 clear A20
 obtain rfl := Option.some.inj H
 go_enter Try.func20, Try.ntmps20
 go_wp2_with (first | ((with_reducible refine gd_ 1 ?_); refine bx_ (N := 1) (cs := #[.int .u32 ac, .int .i64 aa]) (t := 24) ?_; intro ak hg w3 ad hb; have aj := gG_ hg HB; have ai := gG_ hg HB; replace HB := hS_ HB hb; clear hb hg; obtain ⟨ae, af, ag, ah⟩ := cz2_ (w := w3) ad) | ((with_reducible refine gate_callee (f := 28) rfl ?_); refine goesL_ (some 5) rfl rfl Try.func28 (by kernel_rfl) rfl #[.int .i64 aa] rfl am_ ?_; (with_reducible refine (lodgerref04_Many.calls k aa ab _ A2.out).mono ?_); rintro e w' ⟨rfl, ⟨nd, rfl⟩⟩; refine ⟨_, rfl, ?_⟩) | (go_at_call 28; (with_reducible refine (lodgerref04_Many.calls k aa ab _ A2.out).mono ?_); rintro e w' ⟨rfl, ⟨nd, rfl⟩⟩))
 go_ret
 exact ⟨er_, hB_ HB⟩

/-! ### lodgerref04_May: function 27 -/
def lodgerref04_May.f (k : Nat) (a0_0 a0_1 : Int) : Option (Bool) := if a0_1 ≥ 16 then (if a0_1 ≤ 32 then ((lodgerref04_Many.f k a0_1).bind fun t163 => (if t163 = 0 then (none) else (some ((Int.tmod (wrap64 (a0_0)) t163) == 0)))) else (some false)) else (some false)
theorem lodgerref04_May.mono : ∀ a0 a1 k, LeO (lodgerref04_May.f k a0 a1) (lodgerref04_May.f (k + 1) a0 a1) := by
 intro a0 a1 k
 unfold lodgerref04_May.f
 repeat' (with_reducible first | apply lodgerref04_Many.mono | exact LeO.refl _ | exact LeO.none _ | refine LeO.ite ?_ ?_ | refine LeO.bind ?_ (fun _ => ?_))
set_option maxHeartbeats 8000000 in
set_option maxRecDepth 100000 in
theorem lodgerref04_May.calls (k : Nat) (ac aa : Int) (r : Bool) (w : World) (h : lodgerref04_May.f k ac aa = some r) :
  Calls Try.prog 27 #[.agg #[.int .u32 ac, .int .i64 aa]] w fun e w' => e = .returned (.bool r) ∧ Below w.heap.size w w' := by
 have hu24 := Try.underlying24
 have HB := Aside0.mk (Below.refl w.heap.size w)
 have H : (if aa ≥ 16 then (if aa ≤ 32 then ((lodgerref04_Many.f k aa).bind fun ad => (if ad = 0 then (none) else (some ((Int.tmod (wrap64 (ac)) ad) == 0)))) else (some false)) else (some false)) = some r := h
 clear h
 by_cases c2 : aa ≥ 16
 ·rw [if_pos c2] at H
  have av : decide (16 ≤ aa) = true := decide_eq_true c2
  clear c2
  by_cases c3 : aa ≤ 32
  ·rw [if_pos c3] at H
   have aw : decide (aa ≤ 32) = true := decide_eq_true c3
   clear c3; replace H := bi_ H; obtain ⟨ad, A40, H⟩ := H
   replace H : (if ad = 0 then (none) else (some ((Int.tmod (wrap64 (ac)) ad) == 0))) = some r := H
   have A4 := Aside0.mk A40; clear A40
   by_cases c5 : ad = 0
   ·rw [if_pos c5] at H
    exact absurd H (by simp)
   ·rw [if_neg c5] at H
    have ax : (ad == 0) = false := beq_eq_false_iff_ne.mpr c5
    have ay : (ad != 0) = true := bne_iff_ne.mpr c5
    obtain rfl := Option.some.inj H
    go_enter Try.func27, Try.ntmps27
    go_wp2_with (first | ((with_reducible refine gd_ 1 ?_); refine bx_ (N := 1) (cs := #[.int .u32 ac, .int .i64 aa]) (t := 24) ?_; intro ag hg w6 ab hb; have af := gG_ hg HB; have ae := gG_ hg HB; replace HB := hS_ HB hb; clear hb hg; obtain ⟨al, am, ap, aq⟩ := cz2_ (w := w6) ab) | (go_at_call 28; (with_reducible refine (lodgerref04_Many.calls k aa ad _ A4.out).mono ?_); rintro e w' ⟨rfl, ⟨nd, rfl⟩⟩; (try first | exact ⟨rfl, _, World.drewN_drewN _ _ _⟩ | exact ⟨rfl, _, Eq.trans (World.drewN_drewN _ _ _) (congrArg (World.drewN _) (Nat.add_assoc _ _ _))⟩)))
    repeat (go_quiet (first | ((with_reducible refine gd_ 1 ?_); refine bx_ (N := 1) (cs := #[.int .u32 ac, .int .i64 aa]) (t := 24) ?_; intro ag hg w6 ab hb; have af := gG_ hg HB; have ae := gG_ hg HB; replace HB := hS_ HB hb; clear hb hg; obtain ⟨al, am, ap, aq⟩ := cz2_ (w := w6) ab) | (go_at_call 28; (with_reducible refine (lodgerref04_Many.calls k aa ad _ A4.out).mono ?_); rintro e w' ⟨rfl, ⟨nd, rfl⟩⟩; (try first | exact ⟨rfl, _, World.drewN_drewN _ _ _⟩ | exact ⟨rfl, _, Eq.trans (World.drewN_drewN _ _ _) (congrArg (World.drewN _) (Nat.add_assoc _ _ _))⟩))); try go_wp2_with (first | ((with_reducible refine gd_ 1 ?_); refine bx_ (N := 1) (cs := #[.int .u32 ac, .int .i64 aa]) (t := 24) ?_; intro ag hg w6 ab hb; have af := gG_ hg HB; have ae := gG_ hg HB; replace HB := hS_ HB hb; clear hb hg; obtain ⟨al, am, ap, aq⟩ := cz2_ (w := w6) ab) | (go_at_call 28; (with_reducible refine (lodgerref04_Many.calls k aa ad _ A4.out).mono ?_); rintro e w' ⟨rfl, ⟨nd, rfl⟩⟩; (try first | exact ⟨rfl, _, World.drewN_drewN _ _ _⟩ | exact ⟨rfl, _, Eq.trans (World.drewN_drewN _ _ _) (congrArg (World.drewN _) (Nat.add_assoc _ _ _))⟩))))
    go_ret
    exact ⟨er_, hB_ HB⟩
  ·rw [if_neg c3] at H
   have aw : decide (aa ≤ 32) = false := decide_eq_false c3
   clear c3
   obtain rfl := Option.some.inj H
   go_enter Try.func27, Try.ntmps27
   go_wp2_with (first | ((with_reducible refine gd_ 1 ?_); refine bx_ (N := 1) (cs := #[.int .u32 ac, .int .i64 aa]) (t := 24) ?_; intro ag hg w8 ab hb; have af := gG_ hg HB; have ae := gG_ hg HB; replace HB := hS_ HB hb; clear hb hg; obtain ⟨an, ao, ar, au⟩ := cz2_ (w := w8) ab))
   repeat (go_quiet (first | ((with_reducible refine gd_ 1 ?_); refine bx_ (N := 1) (cs := #[.int .u32 ac, .int .i64 aa]) (t := 24) ?_; intro ag hg w8 ab hb; have af := gG_ hg HB; have ae := gG_ hg HB; replace HB := hS_ HB hb; clear hb hg; obtain ⟨an, ao, ar, au⟩ := cz2_ (w := w8) ab)); try go_wp2_with (first | ((with_reducible refine gd_ 1 ?_); refine bx_ (N := 1) (cs := #[.int .u32 ac, .int .i64 aa]) (t := 24) ?_; intro ag hg w8 ab hb; have af := gG_ hg HB; have ae := gG_ hg HB; replace HB := hS_ HB hb; clear hb hg; obtain ⟨an, ao, ar, au⟩ := cz2_ (w := w8) ab)))
   go_ret
   exact ⟨er_, hB_ HB⟩
 ·rw [if_neg c2] at H
  have av : decide (16 ≤ aa) = false := decide_eq_false c2
  clear c2
  obtain rfl := Option.some.inj H
  go_enter Try.func27, Try.ntmps27
  go_wp2_with (first | ((with_reducible refine gd_ 1 ?_); refine bx_ (N := 1) (cs := #[.int .u32 ac, .int .i64 aa]) (t := 24) ?_; intro ag hg w10 ab hb; have af := gG_ hg HB; have ae := gG_ hg HB; replace HB := hS_ HB hb; clear hb hg; obtain ⟨ah, ai, aj, ak⟩ := cz2_ (w := w10) ab))
  repeat (go_quiet (first | ((with_reducible refine gd_ 1 ?_); refine bx_ (N := 1) (cs := #[.int .u32 ac, .int .i64 aa]) (t := 24) ?_; intro ag hg w10 ab hb; have af := gG_ hg HB; have ae := gG_ hg HB; replace HB := hS_ HB hb; clear hb hg; obtain ⟨ah, ai, aj, ak⟩ := cz2_ (w := w10) ab)); try go_wp2_with (first | ((with_reducible refine gd_ 1 ?_); refine bx_ (N := 1) (cs := #[.int .u32 ac, .int .i64 aa]) (t := 24) ?_; intro ag hg w10 ab hb; have af := gG_ hg HB; have ae := gG_ hg HB; replace HB := hS_ HB hb; clear hb hg; obtain ⟨ah, ai, aj, ak⟩ := cz2_ (w := w10) ab)))
  go_ret
  exact ⟨er_, hB_ HB⟩

end Go.Proofs.Ytepgjabpoabjnaa.PGaugeOrder
