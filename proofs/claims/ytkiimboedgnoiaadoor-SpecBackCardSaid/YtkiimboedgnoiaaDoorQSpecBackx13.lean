/- The walk of SpecBack, part of it: what the Go functions answer; no condition. -/
import Derived.Test.YtkiimboedgnoiaaDoorQSpecBackx0
import Derived.Test.YtkiimboedgnoiaaDoorQSpecBackx12
namespace Go.Proofs.YtkiimboedgnoiaaDoor.PSpecBack
open Go.RowKit Go.Proofs.YtkiimboedgnoiaaDoorW.PrintWords Go.Proofs.YtkiimboedgnoiaaDoorW.PrintLast Go.Proofs.YtkiimboedgnoiaaDoorW.PrintMore
attribute [local go_sem] max2_int min2_int max_two min_two max_three min_three max_four min_four   -- for this text's walks alone
set_option linter.unusedVariables false
set_option linter.unusedSimpArgs false

/-! ### lodgerref10_Check: function 25 -/
mutual
def lodgerref10_Check.j0 : Nat → Bool → Int → Int → List Int → Int → Int → Int → Int → Int → Int → List Int → Option (Int)
 | 0, _, _, _, _, _, _, _, _, _, _, _ => none
 | k + 1, x17, x533000, x533001, x533002, x533003, x533004, x533005, x533006, x534000, x534001, x534002 => if x17 = true then (some 1) else (if x534000 = 4 then (lodgerref10_Check.j1 k ((x534002.length : Int) == 0) x533000 x533001 x533002 x533003 x533004 x533005 x533006 x534000 x534001 x534002) else (lodgerref10_Check.j1 k false x533000 x533001 x533002 x533003 x533004 x533005 x533006 x534000 x534001 x534002))
def lodgerref10_Check.j1 : Nat → Bool → Int → Int → List Int → Int → Int → Int → Int → Int → Int → List Int → Option (Int)
 | 0, _, _, _, _, _, _, _, _, _, _, _ => none
 | k + 1, x26, x533000, x533001, x533002, x533003, x533004, x533005, x533006, x534000, x534001, x534002 => if x26 = true then (some 7) else (if x534000 = 4 then (lodgerref10_Check.j2 k (decide ((x534002.length : Int) > 64)) x533000 x533001 x533002 x533003 x533004 x533005 x533006 x534000 x534001 x534002) else (lodgerref10_Check.j2 k false x533000 x533001 x533002 x533003 x533004 x533005 x533006 x534000 x534001 x534002))
def lodgerref10_Check.j2 : Nat → Bool → Int → Int → List Int → Int → Int → Int → Int → Int → Int → List Int → Option (Int)
 | 0, _, _, _, _, _, _, _, _, _, _, _ => none
 | k + 1, x35, x533000, x533001, x533002, x533003, x533004, x533005, x533006, x534000, x534001, x534002 => if x35 = true then (some 1) else ((lodgerref10_Names.f k x534000 x534001 x534002).bind fun t534 => (lodgerref10_Check.l0 k t534 0 x533000 x533001 x533002 x533003 x533004 x533005 x533006))
def lodgerref10_Check.l0 : Nat → List Int → Int → Int → Int → List Int → Int → Int → Int → Int → Option (Int)
 | 0, _, _, _, _, _, _, _, _, _ => none
 | k + 1, x5, x6, x533000, x533001, x533002, x533003, x533004, x533005, x533006 => if x6 < (x5.length : Int) then (if 0 ≤ x6 then ((lodgerref05_Find.f k x533000 x533001 x533002 x533003 x533004 x533005 x533006 (rd x5 x6)).bind fun bt538 => (if bt538.2 = 0 then (lodgerref10_Check.l1 k x5 x6 0 x533000 x533001 x533002 x533003 x533004 x533005 x533006) else (some bt538.2))) else (none)) else (some 0)
def lodgerref10_Check.l1 : Nat → List Int → Int → Int → Int → Int → List Int → Int → Int → Int → Int → Option (Int)
 | 0, _, _, _, _, _, _, _, _, _, _ => none
 | k + 1, x5, x6, x9, x533000, x533001, x533002, x533003, x533004, x533005, x533006 => if x9 < x6 then (if 0 ≤ x9 then (if x9 < (x5.length : Int) then (if 0 ≤ x6 then (if x6 < (x5.length : Int) then (if (rd x5 x9) = (rd x5 x6) then (some 8) else (lodgerref10_Check.l1 k x5 x6 (wrap64 (x9 + 1)) x533000 x533001 x533002 x533003 x533004 x533005 x533006)) else (none)) else (none)) else (none)) else (none)) else (lodgerref10_Check.l0 k x5 (wrap64 (x6 + 1)) x533000 x533001 x533002 x533003 x533004 x533005 x533006)
end
def lodgerref10_Check.f (k : Nat) (a0_0 a0_1 : Int) (l0_2 : List Int) (a0_3 a0_4 : Int) (a0_5 a0_6 : Int) (a1_0 a1_1 : Int) (l1_2 : List Int) : Option (Int) := if a1_0 < 1 then (lodgerref10_Check.j0 k true a0_0 a0_1 l0_2 a0_3 a0_4 a0_5 a0_6 a1_0 a1_1 l1_2) else (lodgerref10_Check.j0 k (decide (a1_0 > 7)) a0_0 a0_1 l0_2 a0_3 a0_4 a0_5 a0_6 a1_0 a1_1 l1_2)
theorem lodgerref10_Check.mono_l : ∀ k, (∀ y0 y1 y2 y3 y4 y5 y6 y7 y8 y9 y10, LeO (lodgerref10_Check.j0 k y0 y1 y2 y3 y4 y5 y6 y7 y8 y9 y10) (lodgerref10_Check.j0 (k + 1) y0 y1 y2 y3 y4 y5 y6 y7 y8 y9 y10)) ∧ (∀ y0 y1 y2 y3 y4 y5 y6 y7 y8 y9 y10, LeO (lodgerref10_Check.j1 k y0 y1 y2 y3 y4 y5 y6 y7 y8 y9 y10) (lodgerref10_Check.j1 (k + 1) y0 y1 y2 y3 y4 y5 y6 y7 y8 y9 y10)) ∧ (∀ y0 y1 y2 y3 y4 y5 y6 y7 y8 y9 y10, LeO (lodgerref10_Check.j2 k y0 y1 y2 y3 y4 y5 y6 y7 y8 y9 y10) (lodgerref10_Check.j2 (k + 1) y0 y1 y2 y3 y4 y5 y6 y7 y8 y9 y10)) ∧ (∀ y0 y1 y2 y3 y4 y5 y6 y7 y8, LeO (lodgerref10_Check.l0 k y0 y1 y2 y3 y4 y5 y6 y7 y8) (lodgerref10_Check.l0 (k + 1) y0 y1 y2 y3 y4 y5 y6 y7 y8)) ∧ (∀ y0 y1 y2 y3 y4 y5 y6 y7 y8 y9, LeO (lodgerref10_Check.l1 k y0 y1 y2 y3 y4 y5 y6 y7 y8 y9) (lodgerref10_Check.l1 (k + 1) y0 y1 y2 y3 y4 y5 y6 y7 y8 y9))
 | 0 => ⟨fun _ _ _ _ _ _ _ _ _ _ _ r h => by simp [lodgerref10_Check.j0] at h, fun _ _ _ _ _ _ _ _ _ _ _ r h => by simp [lodgerref10_Check.j1] at h, fun _ _ _ _ _ _ _ _ _ _ _ r h => by simp [lodgerref10_Check.j2] at h, fun _ _ _ _ _ _ _ _ _ r h => by simp [lodgerref10_Check.l0] at h, fun _ _ _ _ _ _ _ _ _ _ r h => by simp [lodgerref10_Check.l1] at h⟩
 | k + 1 => by
  obtain ⟨ih0, ih1, ih2, ih3, ih4⟩ := lodgerref10_Check.mono_l k
  refine ⟨?_, ?_, ?_, ?_, ?_⟩
  ·intro y0 y1 y2 y3 y4 y5 y6 y7 y8 y9 y10
   unfold lodgerref10_Check.j0
   repeat' (with_reducible first | apply ih0 | apply ih1 | apply ih2 | apply ih3 | apply ih4 | apply lodgerref05_Find.mono | apply lodgerref10_Names.mono | exact LeO.refl _ | exact LeO.none _ | refine LeO.ite ?_ ?_ | refine LeO.bind ?_ (fun _ => ?_))
  ·intro y0 y1 y2 y3 y4 y5 y6 y7 y8 y9 y10
   unfold lodgerref10_Check.j1
   repeat' (with_reducible first | apply ih0 | apply ih1 | apply ih2 | apply ih3 | apply ih4 | apply lodgerref05_Find.mono | apply lodgerref10_Names.mono | exact LeO.refl _ | exact LeO.none _ | refine LeO.ite ?_ ?_ | refine LeO.bind ?_ (fun _ => ?_))
  ·intro y0 y1 y2 y3 y4 y5 y6 y7 y8 y9 y10
   unfold lodgerref10_Check.j2
   repeat' (with_reducible first | apply ih0 | apply ih1 | apply ih2 | apply ih3 | apply ih4 | apply lodgerref05_Find.mono | apply lodgerref10_Names.mono | exact LeO.refl _ | exact LeO.none _ | refine LeO.ite ?_ ?_ | refine LeO.bind ?_ (fun _ => ?_))
  ·intro y0 y1 y2 y3 y4 y5 y6 y7 y8
   unfold lodgerref10_Check.l0
   repeat' (with_reducible first | apply ih0 | apply ih1 | apply ih2 | apply ih3 | apply ih4 | apply lodgerref05_Find.mono | apply lodgerref10_Names.mono | exact LeO.refl _ | exact LeO.none _ | refine LeO.ite ?_ ?_ | refine LeO.bind ?_ (fun _ => ?_))
  ·intro y0 y1 y2 y3 y4 y5 y6 y7 y8 y9
   unfold lodgerref10_Check.l1
   repeat' (with_reducible first | apply ih0 | apply ih1 | apply ih2 | apply ih3 | apply ih4 | apply lodgerref05_Find.mono | apply lodgerref10_Names.mono | exact LeO.refl _ | exact LeO.none _ | refine LeO.ite ?_ ?_ | refine LeO.bind ?_ (fun _ => ?_))
theorem lodgerref10_Check.mono : ∀ a0 a1 a2 a3 a4 a5 a6 a7 a8 a9 k, LeO (lodgerref10_Check.f k a0 a1 a2 a3 a4 a5 a6 a7 a8 a9) (lodgerref10_Check.f (k + 1) a0 a1 a2 a3 a4 a5 a6 a7 a8 a9) := by
 intro a0 a1 a2 a3 a4 a5 a6 a7 a8 a9 k
 obtain ⟨ih0, ih1, ih2, ih3, ih4⟩ := lodgerref10_Check.mono_l k
 unfold lodgerref10_Check.f
 repeat' (with_reducible first | apply ih0 | apply ih1 | apply ih2 | apply ih3 | apply ih4 | apply lodgerref05_Find.mono | apply lodgerref10_Names.mono | exact LeO.refl _ | exact LeO.none _ | refine LeO.ite ?_ ?_ | refine LeO.bind ?_ (fun _ => ?_))
def lodgerref10_Check.T11 : Bool × List (List Nat × List Nat) := (true, [([], []), ([], []), ([], []), ([1, 2], [1, 2]), ([3], [3]), ([0, 4], [0, 4]), ([5], [5]), ([6], [6]), ([6], [6]), ([7, 5, 0, 1, 2, 3, 4, 5, 6, 7], [7]), ([8, 9, 0, 1, 2, 3, 4, 5, 6, 7, 8, 9], [8])])
def lodgerref10_Check.B11 : List Nat := [0, 0, 0, 6, 14, 31, 63, 127, 127, 255, 1023]
theorem lodgerref10_Check.tab11 : rtab .any (opsOf Tryd.f25 11) = lodgerref10_Check.T11 := by kernel_rfl
theorem lodgerref10_Check.bits11 : waitsOk lodgerref10_Check.T11.2 lodgerref10_Check.B11 = true := by kernel_rfl
def lodgerref10_Check.T17 : Bool × List (List Nat × List Nat) := (true, [([], []), ([], []), ([0, 1], [0, 1]), ([2], [2]), ([], []), ([], []), ([4, 5], [4, 5]), ([6], [6]), ([3, 7], [3, 7])])
def lodgerref10_Check.B17 : List Nat := [0, 0, 3, 7, 0, 0, 48, 112, 255]
theorem lodgerref10_Check.tab17 : rtab .any (opsOf Tryd.f25 17) = lodgerref10_Check.T17 := by kernel_rfl
theorem lodgerref10_Check.bits17 : waitsOk lodgerref10_Check.T17.2 lodgerref10_Check.B17 = true := by kernel_rfl
set_option maxHeartbeats 8000000 in
set_option maxRecDepth 100000 in
theorem lodgerref10_Check.calls (k : Nat) (ah ai : Int) (av : Option Addr) (aw : Nat) (af : List Int) (aj ak : Int) (al am : Int) (ae aq : Int) (aG : Option Addr) (aH : Nat) (an : List Int) (r : Int) (w : World) (hr0_2 : Kd.C (Kd.int .i64) w av af.length af) (hc0_2 : af.length ≤ aw) (hr1_2 : Kd.C (Kd.int .u32) w aG an.length an) (hc1_2 : an.length ≤ aH) (h : lodgerref10_Check.f k ah ai af aj ak al am ae aq an = some r) :
  Calls Tryd.prog 25 #[.agg #[.int .u32 ah, .int .i64 ai, .slice av af.length aw, .int .i64 aj, .int .i64 ak, .int .i64 al, .int .i64 am], .agg #[.int .i64 ae, .int .u32 aq, .slice aG an.length aH]] w fun e w' => e = .returned (.int .i64 r) ∧ Below w.heap.size w w' := by
 have hu27 := Tryd.underlying27
 have hu30 := Tryd.underlying30
 have bv := Aside0.mk hr0_2
 have bu := Aside0.mk hc0_2
 clear hr0_2 hc0_2
 have bE := Aside0.mk hr1_2
 have bC := Aside0.mk hc1_2
 clear hr1_2 hc1_2
 have HB := Aside0.mk (Below.refl w.heap.size w)
 have H : (if ae < 1 then (lodgerref10_Check.j0 k true ah ai af aj ak al am ae aq an) else (lodgerref10_Check.j0 k (decide (ae > 7)) ah ai af aj ak al am ae aq an)) = some r := h
 clear h
 have bA := Aside0.mk H
 clear H
 go_enter Tryd.func25, Tryd.ntmps25
 go_upto_region 1 with (first | ((with_reducible refine gate_dst (N := 2) rfl ?_); (try (refine gate_guard (by rfl) ?_; dsimp only)); refine bx_ (N := 2) (cs := #[.int .u32 ah, .int .i64 ai, .slice av af.length aw, .int .i64 aj, .int .i64 ak, .int .i64 al, .int .i64 am]) (t := 27) ?_; intro ap hg w4 aa hb; have bM := gG_ hg HB; have bK := gG_ hg HB; replace HB := hS_ HB hb; clear hb hg) | ((with_reducible refine gate_dst (N := 3) rfl ?_); (try (refine gate_guard (by rfl) ?_; dsimp only)); refine bx_ (N := 3) (cs := #[.int .i64 ae, .int .u32 aq, .slice aG an.length aH]) (t := 30) ?_; intro a2 hg w5 ab hb; have bN := gG_ hg HB; have bL := gG_ hg HB; replace HB := hS_ HB hb; have ar := nL_ hg aa; have au := nG_ hg aa; replace aa := bB_ aa hb; clear hb hg))
 (try simp only [Act.put, List.setIfInBounds_toArray, List.set_cons_zero, List.set_cons_succ])
 go_cut [17] (fun v17 wc => ∃ (kq : Nat) (bk : Bool), v17 = .bool bk ∧ Aside0 (lodgerref10_Check.j0 kq bk ah ai af aj ak al am ae aq an = some r) ∧ Aside0 (kq ≤ k) ∧ Aside0 (wc.heap[ap]? = some (.cells #[.int .u32 ah, .int .i64 ai, (.slice av af.length aw), .int .i64 aj, .int .i64 ak, .int .i64 al, .int .i64 am] 27 (0, 0))) ∧ Aside0 (wc.heap[a2]? = some (.cells #[.int .i64 ae, .int .u32 aq, (.slice aG an.length aH)] 30 (0, 0))) ∧ Aside0 (Below w.heap.size w wc))
 case first =>
  have H := bA.out; clear bA
  by_cases c6 : ae < 1
  ·rw [if_pos c6] at H
   have az : decide (ae < 1) = true := decide_eq_true c6
   clear c6
   (first | rw [az] | (simp only [i64_w, i32_w]; rw [az]) | skip)
   have H' := Aside0.mk H
   clear H; have b7 := au.out; have b9 := ar.out; obtain ⟨aJ, aK, aL, aM, aN, aO⟩ := cz3_ (w := w5) ab
   go_wp2
   go_meet
   case rel => exact ⟨_, (true), rs_, H', ⟨by first | omega | exact Nat.le_refl _⟩, ⟨bk_ aa⟩, ⟨bk_ ab⟩, ⟨hB_ HB⟩⟩
  ·rw [if_neg c6] at H
   have az : decide (ae < 1) = false := decide_eq_false c6
   clear c6
   (first | rw [az] | (simp only [i64_w, i32_w]; rw [az]) | skip)
   have H' := Aside0.mk H
   clear H; have b8 := au.out; have ca := ar.out; obtain ⟨aA, aB, aC, aD, aE, aF⟩ := cz3_ (w := w5) ab
   go_wp2
   go_meet
   case rel => exact ⟨_, (decide (ae > 7)), rs_, H', ⟨by first | omega | exact Nat.le_refl _⟩, ⟨bk_ aa⟩, ⟨bk_ ab⟩, ⟨hB_ HB⟩⟩
 case rest =>
  clear bA
  try clear c1
  try clear c2
  try clear p2
  try clear c6
  try clear az
  try clear c7
  try clear c9
  try clear aA aB aC
  try clear aJ aK aL
  try clear aD aE aF
  try clear aM aN aO
  obtain ⟨kq, bk, rfl, HA, bi, aa, ab, HB⟩ := hcut
  cases kq with
  | zero => exact absurd HA.out (by simp [lodgerref10_Check.j0])
  | succ kj2 =>
   have H := HA.out; clear HA; simp only [lodgerref10_Check.j0] at H
   by_cases c11 : bk = true
   ·subst c11
    have H1 : (some 1) = some r := by rw [if_pos rfl] at H; exact H
    clear H; have H := H1; clear H1
    obtain rfl := Option.some.inj H
    go_wp2
    go_ret
    exact ⟨er_, hB_ HB⟩
   ·replace c11 := Bool.eq_false_iff.mpr c11
    subst c11
    have H1 : (if ae = 4 then (lodgerref10_Check.j1 kj2 ((an.length : Int) == 0) ah ai af aj ak al am ae aq an) else (lodgerref10_Check.j1 kj2 false ah ai af aj ak al am ae aq an)) = some r := by rw [if_neg (show ¬ (false = true) by decide)] at H; exact H
    clear H; have H := H1; clear H1; have bs := Aside0.mk H; clear H
    go_upto_region 3 with (fail)
    go_cut [26] (fun v26 wc => ∃ (kq : Nat) (a3 : Bool), v26 = .bool a3 ∧ Aside0 (lodgerref10_Check.j1 kq a3 ah ai af aj ak al am ae aq an = some r) ∧ Aside0 (kq ≤ kj2) ∧ Aside0 (wc.heap[ap]? = some (.cells #[.int .u32 ah, .int .i64 ai, (.slice av af.length aw), .int .i64 aj, .int .i64 ak, .int .i64 al, .int .i64 am] 27 (0, 0))) ∧ Aside0 (wc.heap[a2]? = some (.cells #[.int .i64 ae, .int .u32 aq, (.slice aG an.length aH)] 30 (0, 0))) ∧ Aside0 (Below w.heap.size w wc))
    case first =>
     have H := bs.out; clear bs
     by_cases c13 : ae = 4
     ·rw [if_pos c13] at H
      have ax : (ae == 4) = true := beq_iff_eq.mpr c13
      have a1 : (ae != 4) = false := bne_eq_false_iff_eq.mpr c13
      clear c13
      (first | rw [ax] | (simp only [i64_w, i32_w]; rw [ax]) | skip)
      have H' := Aside0.mk H
      clear H; have bS := au.out; have bX := ar.out; obtain ⟨aP, aQ, aR, aV, aW, aX⟩ := cz3_ (w := wc) ab
      go_wp2
      go_meet
      case rel => exact ⟨_, (((an.length : Int) == 0)), rs_, H', ⟨by have := bi.out; first | omega | exact Nat.le_refl _⟩, ⟨bk_ aa⟩, ⟨bk_ ab⟩, ⟨hB_ HB⟩⟩
     ·rw [if_neg c13] at H
      have ax : (ae == 4) = false := beq_eq_false_iff_ne.mpr c13
      have a1 : (ae != 4) = true := bne_iff_ne.mpr c13
      (first | rw [ax] | (simp only [i64_w, i32_w]; rw [ax]) | skip)
      have H' := Aside0.mk H
      clear H; have bT := au.out; have bY := ar.out; obtain ⟨aS, aT, aU, aY, aZ, a0⟩ := cz3_ (w := wc) ab
      go_wp2
      go_meet
      case rel => exact ⟨_, (false), rs_, H', ⟨by have := bi.out; first | omega | exact Nat.le_refl _⟩, ⟨bk_ aa⟩, ⟨bk_ ab⟩, ⟨hB_ HB⟩⟩
    case rest =>
     clear bs
     try clear c1
     try clear c2
     try clear p2
     try clear c6
     try clear az
     try clear c7
     try clear c9
     try clear c11
     try clear c13
     try clear ax
     try clear a1
     try clear c14
     try clear c16
     try clear aA aB aC
     try clear aP aQ aR
     try clear aS aT aU
     try clear aJ aK aL
     try clear aD aE aF
     try clear aV aW aX
     try clear aY aZ a0
     try clear aM aN aO
     try clear p2
     obtain ⟨kq, a3, rfl, HA, a5, aa, ab, HB⟩ := hcut
     cases kq with
     | zero => exact absurd HA.out (by simp [lodgerref10_Check.j1])
     | succ kj11 =>
      have H := HA.out; clear HA; simp only [lodgerref10_Check.j1] at H
      by_cases c18 : a3 = true
      ·subst c18
       have H1 : (some 7) = some r := by rw [if_pos rfl] at H; exact H
       clear H; have H := H1; clear H1
       obtain rfl := Option.some.inj H
       go_wp2
       go_ret
       exact ⟨er_, hB_ HB⟩
      ·replace c18 := Bool.eq_false_iff.mpr c18
       subst c18
       have H1 : (if ae = 4 then (lodgerref10_Check.j2 kj11 (decide ((an.length : Int) > 64)) ah ai af aj ak al am ae aq an) else (lodgerref10_Check.j2 kj11 false ah ai af aj ak al am ae aq an)) = some r := by rw [if_neg (show ¬ (false = true) by decide)] at H; exact H
       clear H; have H := H1; clear H1; have bt := Aside0.mk H; clear H
       go_upto_region 5 with (fail)
       go_cut [35] (fun v35 wc => ∃ (kq : Nat) (a4 : Bool), v35 = .bool a4 ∧ Aside0 (lodgerref10_Check.j2 kq a4 ah ai af aj ak al am ae aq an = some r) ∧ Aside0 (kq ≤ kj11) ∧ Aside0 (wc.heap[ap]? = some (.cells #[.int .u32 ah, .int .i64 ai, (.slice av af.length aw), .int .i64 aj, .int .i64 ak, .int .i64 al, .int .i64 am] 27 (0, 0))) ∧ Aside0 (wc.heap[a2]? = some (.cells #[.int .i64 ae, .int .u32 aq, (.slice aG an.length aH)] 30 (0, 0))) ∧ Aside0 (Below w.heap.size w wc))
       case first =>
        have H := bt.out; clear bt
        by_cases c20 : ae = 4
        ·rw [if_pos c20] at H
         have ay : (ae == 4) = true := beq_iff_eq.mpr c20
         have bj : (ae != 4) = false := bne_eq_false_iff_eq.mpr c20
         clear c20
         (first | rw [ay] | (simp only [i64_w, i32_w]; rw [ay]) | skip)
         have H' := Aside0.mk H
         clear H; have bU := au.out; have bZ := ar.out; obtain ⟨a6, a7, a8, bc, bd, be⟩ := cz3_ (w := wc) ab
         go_wp2
         go_meet
         case rel => exact ⟨_, (decide ((an.length : Int) > 64)), rs_, H', ⟨by have := bi.out; have := a5.out; first | omega | exact Nat.le_refl _⟩, ⟨bk_ aa⟩, ⟨bk_ ab⟩, ⟨hB_ HB⟩⟩
        ·rw [if_neg c20] at H
         have ay : (ae == 4) = false := beq_eq_false_iff_ne.mpr c20
         have bj : (ae != 4) = true := bne_iff_ne.mpr c20
         (first | rw [ay] | (simp only [i64_w, i32_w]; rw [ay]) | skip)
         have H' := Aside0.mk H
         clear H; have bV := au.out; have b0 := ar.out; obtain ⟨a9, ba, bb, bf, bg, bh⟩ := cz3_ (w := wc) ab
         go_wp2
         go_meet
         case rel => exact ⟨_, (false), rs_, H', ⟨by have := bi.out; have := a5.out; first | omega | exact Nat.le_refl _⟩, ⟨bk_ aa⟩, ⟨bk_ ab⟩, ⟨hB_ HB⟩⟩
       case rest =>
        clear bt
        try clear c1
        try clear c2
        try clear p2
        try clear c6
        try clear az
        try clear c7
        try clear c9
        try clear c11
        try clear c13
        try clear ax
        try clear a1
        try clear c14
        try clear c16
        try clear c18
        try clear c20
        try clear ay
        try clear bj
        try clear c21
        try clear c23
        try clear aA aB aC
        try clear aP aQ aR
        try clear aS aT aU
        try clear a6 a7 a8
        try clear a9 ba bb
        try clear aJ aK aL
        try clear aD aE aF
        try clear aV aW aX
        try clear aY aZ a0
        try clear bc bd be
        try clear bf bg bh
        try clear aM aN aO
        try clear p2
        obtain ⟨kq, a4, rfl, HA, br, aa, ab, HB⟩ := hcut
        cases kq with
        | zero => exact absurd HA.out (by simp [lodgerref10_Check.j2])
        | succ kj18 =>
         have H := HA.out; clear HA; simp only [lodgerref10_Check.j2] at H
         by_cases c25 : a4 = true
         ·subst c25
          have H1 : (some 1) = some r := by rw [if_pos rfl] at H; exact H
          clear H; have H := H1; clear H1
          obtain rfl := Option.some.inj H
          go_wp2
          go_ret
          exact ⟨er_, hB_ HB⟩
         ·replace c25 := Bool.eq_false_iff.mpr c25
          subst c25
          have H1 : ((lodgerref10_Names.f kj18 ae aq an).bind fun ad => (lodgerref10_Check.l0 kj18 ad 0 ah ai af aj ak al am)) = some r := by rw [if_neg (show ¬ (false = true) by decide)] at H; exact H
          clear H; have H := H1; clear H1; replace H := bi_ H; obtain ⟨ad, A260, H⟩ := H
          replace H : (lodgerref10_Check.l0 kj18 ad 0 ah ai af aj ak al am) = some r := H
          have A26 := Aside0.mk A260; clear A260
          have H' := Aside0.mk H
          clear H; have bW := au.out; have b1 := ar.out; obtain ⟨bl, bm, bn, bo, bp, bq⟩ := cz3_ (w := wc) ab
          go_wp2_with (first | ((with_reducible refine gate_callee (f := 43) rfl ?_); refine gL_ (some 37) Tryd.func43 #[.agg #[.int .i64 ae, .int .u32 aq, .slice aG an.length aH]] ?_; (with_reducible refine (lodgerref10_Names.calls kj18 ae aq _ _ an ad _ ?side1 ?side2 A26.out).mono ?_); (case side1 => exact cC_ bE HB); (case side2 => exact bC.out); rintro e w29 ⟨v535, rfl, ho0, hb⟩; refine ⟨_, rfl, ?_⟩; have bD := Aside0.mk (Kd.R_lower ho0 (below_size (hB_ HB))); replace ab := bB_ ab hb; replace aa := bB_ aa hb; replace HB := hS_ HB hb; (try clear hb); (try clear ho0)))
          go_loopg [6] kj18 (fun kq v6 w' => ∃ (ac : Int), v6 = .int .i64 ac ∧ Aside0 (lodgerref10_Check.l0 kq ad ac ah ai af aj ak al am = some r) ∧ Aside0 (kq ≤ kj18) ∧ Aside0 (Kd.R (Kd.int .u32) 22 w' w.heap.size (fun _ => True) v535 ad) ∧ Aside0 (w'.heap[ap]? = some (.cells #[.int .u32 ah, .int .i64 ai, (.slice av af.length aw), .int .i64 aj, .int .i64 ak, .int .i64 al, .int .i64 am] 27 (0, 0))) ∧ Aside0 (w'.heap[a2]? = some (.cells #[.int .i64 ae, .int .u32 aq, (.slice aG an.length aH)] 30 (0, 0))) ∧ Aside0 (Below w.heap.size w w'))
          case atStart => exact ⟨(0), rs_, H', ⟨Nat.le_refl _⟩, ⟨rR_ bD⟩, ⟨bk_ aa⟩, ⟨bk_ ab⟩, ⟨hB_ HB⟩⟩
          case round =>
           clear H'
           try clear c1
           try clear c2
           try clear p2
           try clear c4
           try clear c6
           try clear az
           try clear c7
           try clear c9
           try clear c11
           try clear c13
           try clear ax
           try clear a1
           try clear c14
           try clear c16
           try clear c18
           try clear c20
           try clear ay
           try clear bj
           try clear c21
           try clear c23
           try clear c25
           try clear c27
           try clear aA aB aC
           try clear aP aQ aR
           try clear aS aT aU
           try clear a6 a7 a8
           try clear a9 ba bb
           try clear bl bm bn
           try clear aJ aK aL
           try clear aD aE aF
           try clear aV aW aX
           try clear aY aZ a0
           try clear bc bd be
           try clear bf bg bh
           try clear bo bp bq
           try clear aM aN aO
           try clear p2
           obtain ⟨ac, rfl, HA, HK4, ag, aa, ab, HB⟩ := hrel
           cases gk with
           | zero => exact absurd HA.out (by simp [lodgerref10_Check.l0])
           | succ k4 =>
            have H := HA.out; clear HA; simp only [lodgerref10_Check.l0] at H
            by_cases c30 : ac < (ad.length : Int)
            ·rw [if_pos c30] at H
             have bw : decide (ac < (ad.length : Int)) = true := decide_eq_true c30
             clear c30
             by_cases c31 : 0 ≤ ac
             ·rw [if_pos c31] at H
              have bF : decide (0 ≤ ac) = true := decide_eq_true c31
              clear c31; replace H := bi_ H; obtain ⟨⟨bB, aI⟩, A320, H⟩ := H
              replace H : (if aI = 0 then (lodgerref10_Check.l1 k4 ad ac 0 ah ai af aj ak al am) else (some aI)) = some r := H
              have A32 := Aside0.mk A320; clear A320
              by_cases c33 : aI = 0
              ·rw [if_pos c33] at H
               have bx : (aI == 0) = true := beq_iff_eq.mpr c33
               have bz : (aI != 0) = false := bne_eq_false_iff_eq.mpr c33
               clear c33
               have H' := Aside0.mk H
               clear H; obtain ⟨b2, bJ, eo34⟩ := Kd.R_slice ag.out; subst eo34
               try go_wp2
               replace ag := Aside0.mk (Kd.R_drew ag.out); replace aa := Aside0.mk (blk_drew aa.out); replace ab := Aside0.mk (blk_drew ab.out); replace HB := Aside0.mk (below_drew1 HB.out)
               have p537 : 0 ≤ (ac : Int) := od_
               have q537 : ac < (ad.length : Int) := od_
               obtain ⟨ad537, e537, hx537_0⟩ := Kd.at_int (Kd.R_reads' ag.out).2.2 ac p537 q537
               cases e537
               replace p537 := eq_true p537; replace q537 := eq_true q537
               refine start_ (n := 11) (S := fun w' => w'.cell? ⟨ap, 0, none⟩ = some (.int .u32 ah) ∧ w'.cell? ⟨ap, 1, none⟩ = some (.int .i64 ai) ∧ w'.cell? ⟨ap, 2, none⟩ = some (.slice av af.length aw) ∧ w'.cell? ⟨ap, 3, none⟩ = some (.int .i64 aj) ∧ w'.cell? ⟨ap, 4, none⟩ = some (.int .i64 ak) ∧ w'.cell? ⟨ap, 5, none⟩ = some (.int .i64 al) ∧ w'.cell? ⟨ap, 6, none⟩ = some (.int .i64 am) ∧ w'.cell? (ad537.add (ac).toNat) = some (.int .u32 (rd ad ac))) (ds := []) (tf 11 0) (by kernel_rfl) rfl rfl ⟨(blk_cell aa.out 0).trans rfl, (blk_cell aa.out 1).trans rfl, (blk_cell aa.out 2).trans rfl, (blk_cell aa.out 3).trans rfl, (blk_cell aa.out 4).trans rfl, (blk_cell aa.out 5).trans rfl, (blk_cell aa.out 6).trans rfl, hx537_0⟩ (fun hHeld => ?_); refine with_tabW lodgerref10_Check.tab11 lodgerref10_Check.bits11 (fun HT_ HW_ => ?_)
               generalize wr.drew = w35 at ag aa ab HB hx537_0 hHeld ⊢
               refine pu_ (i := 1) (N := some 46) (tf 11 2) HT_ ?_; refine pu_ (i := 2) (N := some 47) (tf 11 6) HT_ ?_; refine pu_ (i := 3) (N := some 48) (tf 11 14) HT_ ?_; refine tk_ (i := 0) (N := some 45) (tf 11 15) rfl rfl HT_ HW_ hHeld (by rintro w' ⟨s0, s1, s2, s3, s4, s5, s6, s7⟩; go_simp; with_reducible rfl) ?_; refine tk_ (i := 4) (N := some 49) (tf 11 31) rfl rfl HT_ HW_ hHeld (by rintro w' ⟨s0, s1, s2, s3, s4, s5, s6, s7⟩; go_simp; with_reducible rfl) ?_
               refine on_ (i := 5) (N := some 50) (tf 11 63) HT_ (fun K hK => ?_)
               refine goes_ Tryd.func24 (by kernel_rfl) rfl #[.agg #[.int .u32 ah, .int .i64 ai, .slice av af.length aw, .int .i64 aj, .int .i64 ak, .int .i64 al, .int .i64 am], .int .u32 (rd ad ac)] (by rfl) rfl rfl am_ ?_
               with_reducible refine (lodgerref05_Find.calls k4 ah ai _ _ af aj ak al am (rd ad ac) bB aI _ ?side1 ?side2 A32.out).mono ?_
               (case side1 => exact cC_ bv HB)
               (case side2 => exact bu.out)
               rintro e w36 ⟨rfl, hb⟩
               have HS7_ := (hb.cell (World.block_lt_of_cell? _ _ (hHeld.2.2.2.2.2.2.2))).trans (hHeld.2.2.2.2.2.2.2)
               refine ⟨_, rfl, ?_⟩
               replace ag := rB_ ag hb; replace aa := bB_ aa hb; replace ab := bB_ ab hb; replace HB := hS_ HB hb
               (try clear hb)
               (try clear hb2)
               (try clear hk)
               (try clear hi)
               refine hK.out _ _ ⟨(blk_cell aa.out 0).trans rfl, (blk_cell aa.out 1).trans rfl, (blk_cell aa.out 2).trans rfl, (blk_cell aa.out 3).trans rfl, (blk_cell aa.out 4).trans rfl, (blk_cell aa.out 5).trans rfl, (blk_cell aa.out 6).trans rfl, HS7_⟩ (fun hHeld => ?_)
               clear hK K
               refine norm_ (a' := ?_) ?_ ?_
               rotate_left
               ·show Act.put _ (some 50) _ = _
                simp only [Act.put, List.setIfInBounds_toArray, List.set_cons_zero, List.set_cons_succ, i64_w, i32_w]
                rfl
               refine pu_ (i := 6) (N := some 44) (tf 11 127) HT_ ?_; refine pu_ (i := 7) (N := some 51) (tf 11 255) HT_ ?_; refine pu_ (i := 8) (N := some 52) (tf 11 511) HT_ ?_; refine pu_ (i := 9) (N := some 7) (tf 11 1023) HT_ ?_; refine pu_ (i := 10) (N := some 8) (tf 11 2047) HT_ ?_
               refine done_ (done_of HT_.out (by kernel_rfl)) ?_
               try go_wp2
               go_loopg [9] k4 (fun kq v9 w' => ∃ (ao : Int), v9 = .int .i64 ao ∧ Aside0 (lodgerref10_Check.l1 kq ad ac ao ah ai af aj ak al am = some r) ∧ Aside0 (kq ≤ k4) ∧ Aside0 (Kd.R (Kd.int .u32) 22 w' w.heap.size (fun _ => True) (.slice (some ad537) ad.length bJ) ad) ∧ Aside0 (w'.heap[ap]? = some (.cells #[.int .u32 ah, .int .i64 ai, (.slice av af.length aw), .int .i64 aj, .int .i64 ak, .int .i64 al, .int .i64 am] 27 (0, 0))) ∧ Aside0 (w'.heap[a2]? = some (.cells #[.int .i64 ae, .int .u32 aq, (.slice aG an.length aH)] 30 (0, 0))) ∧ Aside0 (Below w.heap.size w w'))
               case atStart => exact ⟨(0), rs_, H', ⟨Nat.le_refl _⟩, ⟨rR_ ag⟩, ⟨bk_ aa⟩, ⟨bk_ ab⟩, ⟨hB_ HB⟩⟩
               case round =>
                clear H'
                try clear c1
                try clear c2
                try clear p2
                try clear c3
                try clear c4
                try clear p5
                try clear q5
                try clear hx5
                try clear c6
                try clear az
                try clear c7
                try clear c9
                try clear c11
                try clear c13
                try clear ax
                try clear a1
                try clear c14
                try clear c16
                try clear c18
                try clear c20
                try clear ay
                try clear bj
                try clear c21
                try clear c23
                try clear c24
                try clear c25
                try clear c27
                try clear c30
                try clear bw
                try clear c31
                try clear bF
                try clear c33
                try clear bx
                try clear bz
                try clear aA aB aC
                try clear aP aQ aR
                try clear aS aT aU
                try clear a6 a7 a8
                try clear a9 ba bb
                try clear bl bm bn
                try clear aJ aK aL
                try clear aD aE aF
                try clear aV aW aX
                try clear aY aZ a0
                try clear bc bd be
                try clear bf bg bh
                try clear bo bp bq
                try clear aM aN aO
                try clear hx537_0
                try clear p2
                try clear p537
                try clear q537
                obtain ⟨ao, rfl, HA, HK5, ag, aa, ab, HB⟩ := hrel
                cases gk with
                | zero => exact absurd HA.out (by simp [lodgerref10_Check.l1])
                | succ k5 =>
                 have H := HA.out; clear HA; simp only [lodgerref10_Check.l1] at H
                 by_cases c37 : ao < ac
                 ·rw [if_pos c37] at H
                  have bG : decide (ao < ac) = true := decide_eq_true c37
                  clear c37
                  by_cases c38 : 0 ≤ ao
                  ·rw [if_pos c38] at H
                   have bO : decide (0 ≤ ao) = true := decide_eq_true c38
                   clear c38
                   by_cases c39 : ao < (ad.length : Int)
                   ·rw [if_pos c39] at H
                    have bP : decide (ao < (ad.length : Int)) = true := decide_eq_true c39
                    clear c39
                    by_cases c40 : 0 ≤ ac
                    ·rw [if_pos c40] at H
                     have bQ : decide (0 ≤ ac) = true := decide_eq_true c40
                     clear c40
                     by_cases c41 : ac < (ad.length : Int)
                     ·rw [if_pos c41] at H
                      have bR : decide (ac < (ad.length : Int)) = true := decide_eq_true c41
                      clear c41
                      by_cases c42 : (rd ad ao) = (rd ad ac)
                      ·rw [if_pos c42] at H
                       have bH : ((rd ad ao) == (rd ad ac)) = true := beq_iff_eq.mpr c42
                       have bI : ((rd ad ao) != (rd ad ac)) = false := bne_eq_false_iff_eq.mpr c42
                       clear c42
                       obtain rfl := Option.some.inj H
                       try go_wp2
                       replace ag := Aside0.mk (Kd.R_drew ag.out); replace aa := Aside0.mk (blk_drew aa.out); replace ab := Aside0.mk (blk_drew ab.out); replace HB := Aside0.mk (below_drew1 HB.out)
                       have p540 : 0 ≤ (ao : Int) := od_
                       have q540 : ao < (ad.length : Int) := od_
                       obtain ⟨ad540, e540, hx540_0⟩ := Kd.at_int (Kd.R_reads' ag.out).2.2 ao p540 q540
                       obtain rfl : ad537 = ad540 := (by injection e540)
                       replace p540 := eq_true p540; replace q540 := eq_true q540
                       have p541 : 0 ≤ (ac : Int) := od_
                       have q541 : ac < (ad.length : Int) := od_
                       obtain ⟨ad541, e541, hx541_0⟩ := Kd.at_int (Kd.R_reads' ag.out).2.2 ac p541 q541
                       obtain rfl : ad537 = ad541 := (by injection e541)
                       replace p541 := eq_true p541; replace q541 := eq_true q541
                       refine start_ (n := 9) (S := fun w' => w'.cell? (ad537.add (ao).toNat) = some (.int .u32 (rd ad ao)) ∧ w'.cell? (ad537.add (ac).toNat) = some (.int .u32 (rd ad ac))) (ds := []) (tf 9 0) (by kernel_rfl) rfl rfl ⟨hx540_0, hx541_0⟩ (fun hHeld => ?_); refine with_tabW lodgerref10_Check.tab17 lodgerref10_Check.bits17 (fun HT_ HW_ => ?_)
                       generalize wr.drew = w43 at ag aa ab HB hx540_0 hx541_0 hHeld ⊢
                       refine pu_ (i := 0) (N := some 61) (tf 9 1) HT_ ?_; refine pu_ (i := 1) (N := some 62) (tf 9 3) HT_ ?_; refine pu_ (i := 2) (N := some 63) (tf 9 7) HT_ ?_; refine pu_ (i := 4) (N := some 65) (tf 9 23) HT_ ?_; refine pu_ (i := 5) (N := some 66) (tf 9 55) HT_ ?_; refine pu_ (i := 6) (N := some 67) (tf 9 119) HT_ ?_; refine tk_ (i := 3) (N := some 64) (tf 9 127) rfl rfl HT_ HW_ hHeld (by rintro w' ⟨s0, s1⟩; go_simp; with_reducible rfl) ?_; refine tk_ (i := 7) (N := some 68) (tf 9 255) rfl rfl HT_ HW_ hHeld (by rintro w' ⟨s0, s1⟩; go_simp; with_reducible rfl) ?_; refine pu_ (i := 8) (N := some 69) (tf 9 511) HT_ ?_
                       refine done_ (done_of HT_.out (by kernel_rfl)) ?_
                       try go_wp2
                       go_ret
                       exact ⟨er_, hB_ HB⟩
                      ·rw [if_neg c42] at H
                       have bH : ((rd ad ao) == (rd ad ac)) = false := beq_eq_false_iff_ne.mpr c42
                       have bI : ((rd ad ao) != (rd ad ac)) = true := bne_iff_ne.mpr c42
                       have H' := Aside0.mk H
                       clear H
                       try go_wp2
                       replace ag := Aside0.mk (Kd.R_drew ag.out); replace aa := Aside0.mk (blk_drew aa.out); replace ab := Aside0.mk (blk_drew ab.out); replace HB := Aside0.mk (below_drew1 HB.out)
                       have p540 : 0 ≤ (ao : Int) := od_
                       have q540 : ao < (ad.length : Int) := od_
                       obtain ⟨ad540, e540, hx540_0⟩ := Kd.at_int (Kd.R_reads' ag.out).2.2 ao p540 q540
                       obtain rfl : ad537 = ad540 := (by injection e540)
                       replace p540 := eq_true p540; replace q540 := eq_true q540
                       have p541 : 0 ≤ (ac : Int) := od_
                       have q541 : ac < (ad.length : Int) := od_
                       obtain ⟨ad541, e541, hx541_0⟩ := Kd.at_int (Kd.R_reads' ag.out).2.2 ac p541 q541
                       obtain rfl : ad537 = ad541 := (by injection e541)
                       replace p541 := eq_true p541; replace q541 := eq_true q541
                       refine start_ (n := 9) (S := fun w' => w'.cell? (ad537.add (ao).toNat) = some (.int .u32 (rd ad ao)) ∧ w'.cell? (ad537.add (ac).toNat) = some (.int .u32 (rd ad ac))) (ds := []) (tf 9 0) (by kernel_rfl) rfl rfl ⟨hx540_0, hx541_0⟩ (fun hHeld => ?_); refine with_tabW lodgerref10_Check.tab17 lodgerref10_Check.bits17 (fun HT_ HW_ => ?_)
                       generalize wr.drew = w44 at ag aa ab HB hx540_0 hx541_0 hHeld ⊢
                       refine pu_ (i := 0) (N := some 61) (tf 9 1) HT_ ?_; refine pu_ (i := 1) (N := some 62) (tf 9 3) HT_ ?_; refine pu_ (i := 2) (N := some 63) (tf 9 7) HT_ ?_; refine pu_ (i := 4) (N := some 65) (tf 9 23) HT_ ?_; refine pu_ (i := 5) (N := some 66) (tf 9 55) HT_ ?_; refine pu_ (i := 6) (N := some 67) (tf 9 119) HT_ ?_; refine tk_ (i := 3) (N := some 64) (tf 9 127) rfl rfl HT_ HW_ hHeld (by rintro w' ⟨s0, s1⟩; go_simp; with_reducible rfl) ?_; refine tk_ (i := 7) (N := some 68) (tf 9 255) rfl rfl HT_ HW_ hHeld (by rintro w' ⟨s0, s1⟩; go_simp; with_reducible rfl) ?_; refine pu_ (i := 8) (N := some 69) (tf 9 511) HT_ ?_
                       refine done_ (done_of HT_.out (by kernel_rfl)) ?_
                       try go_wp2
                       go_roundg k5
                       case measure => have := bi.out; have := a5.out; have := br.out; have := HK4.out; have := HK5.out; omega
                       case rel => exact ⟨(wrap64 (ao + 1)), rs_, H', ⟨by have := bi.out; have := a5.out; have := br.out; have := HK4.out; have := HK5.out; omega⟩, ⟨rR_ ag⟩, ⟨bk_ aa⟩, ⟨bk_ ab⟩, ⟨hB_ HB⟩⟩
                     ·rw [if_neg c41] at H
                      exact absurd H (by simp)
                    ·rw [if_neg c40] at H
                     exact absurd H (by simp)
                   ·rw [if_neg c39] at H
                    exact absurd H (by simp)
                  ·rw [if_neg c38] at H
                   exact absurd H (by simp)
                 ·rw [if_neg c37] at H
                  have bG : decide (ao < ac) = false := decide_eq_false c37
                  clear c37
                  have H' := Aside0.mk H
                  clear H
                  go_wp2
                  go_roundg k5
                  case measure => have := bi.out; have := a5.out; have := br.out; have := HK4.out; have := HK5.out; omega
                  case rel => exact ⟨(wrap64 (ac + 1)), rs_, H', ⟨by have := bi.out; have := a5.out; have := br.out; have := HK4.out; have := HK5.out; omega⟩, ⟨rR_ ag⟩, ⟨bk_ aa⟩, ⟨bk_ ab⟩, ⟨hB_ HB⟩⟩
              ·rw [if_neg c33] at H
               have bx : (aI == 0) = false := beq_eq_false_iff_ne.mpr c33
               have bz : (aI != 0) = true := bne_iff_ne.mpr c33
               obtain rfl := Option.some.inj H
               obtain ⟨b3, b5, eo45⟩ := Kd.R_slice ag.out; subst eo45
               try go_wp2
               replace ag := Aside0.mk (Kd.R_drew ag.out); replace aa := Aside0.mk (blk_drew aa.out); replace ab := Aside0.mk (blk_drew ab.out); replace HB := Aside0.mk (below_drew1 HB.out)
               have p537 : 0 ≤ (ac : Int) := od_
               have q537 : ac < (ad.length : Int) := od_
               obtain ⟨ad537, e537, hx537_0⟩ := Kd.at_int (Kd.R_reads' ag.out).2.2 ac p537 q537
               cases e537
               replace p537 := eq_true p537; replace q537 := eq_true q537
               refine start_ (n := 11) (S := fun w' => w'.cell? ⟨ap, 0, none⟩ = some (.int .u32 ah) ∧ w'.cell? ⟨ap, 1, none⟩ = some (.int .i64 ai) ∧ w'.cell? ⟨ap, 2, none⟩ = some (.slice av af.length aw) ∧ w'.cell? ⟨ap, 3, none⟩ = some (.int .i64 aj) ∧ w'.cell? ⟨ap, 4, none⟩ = some (.int .i64 ak) ∧ w'.cell? ⟨ap, 5, none⟩ = some (.int .i64 al) ∧ w'.cell? ⟨ap, 6, none⟩ = some (.int .i64 am) ∧ w'.cell? (ad537.add (ac).toNat) = some (.int .u32 (rd ad ac))) (ds := []) (tf 11 0) (by kernel_rfl) rfl rfl ⟨(blk_cell aa.out 0).trans rfl, (blk_cell aa.out 1).trans rfl, (blk_cell aa.out 2).trans rfl, (blk_cell aa.out 3).trans rfl, (blk_cell aa.out 4).trans rfl, (blk_cell aa.out 5).trans rfl, (blk_cell aa.out 6).trans rfl, hx537_0⟩ (fun hHeld => ?_); refine with_tabW lodgerref10_Check.tab11 lodgerref10_Check.bits11 (fun HT_ HW_ => ?_)
               generalize wr.drew = w46 at ag aa ab HB hx537_0 hHeld ⊢
               refine pu_ (i := 1) (N := some 46) (tf 11 2) HT_ ?_; refine pu_ (i := 2) (N := some 47) (tf 11 6) HT_ ?_; refine pu_ (i := 3) (N := some 48) (tf 11 14) HT_ ?_; refine tk_ (i := 0) (N := some 45) (tf 11 15) rfl rfl HT_ HW_ hHeld (by rintro w' ⟨s0, s1, s2, s3, s4, s5, s6, s7⟩; go_simp; with_reducible rfl) ?_; refine tk_ (i := 4) (N := some 49) (tf 11 31) rfl rfl HT_ HW_ hHeld (by rintro w' ⟨s0, s1, s2, s3, s4, s5, s6, s7⟩; go_simp; with_reducible rfl) ?_
               refine on_ (i := 5) (N := some 50) (tf 11 63) HT_ (fun K hK => ?_)
               refine goes_ Tryd.func24 (by kernel_rfl) rfl #[.agg #[.int .u32 ah, .int .i64 ai, .slice av af.length aw, .int .i64 aj, .int .i64 ak, .int .i64 al, .int .i64 am], .int .u32 (rd ad ac)] (by rfl) rfl rfl am_ ?_
               with_reducible refine (lodgerref05_Find.calls k4 ah ai _ _ af aj ak al am (rd ad ac) bB aI _ ?side1 ?side2 A32.out).mono ?_
               (case side1 => exact cC_ bv HB)
               (case side2 => exact bu.out)
               rintro e w47 ⟨rfl, hb⟩
               have HS7_ := (hb.cell (World.block_lt_of_cell? _ _ (hHeld.2.2.2.2.2.2.2))).trans (hHeld.2.2.2.2.2.2.2)
               refine ⟨_, rfl, ?_⟩
               replace ag := rB_ ag hb; replace aa := bB_ aa hb; replace ab := bB_ ab hb; replace HB := hS_ HB hb
               (try clear hb)
               (try clear hb2)
               (try clear hk)
               (try clear hi)
               refine hK.out _ _ ⟨(blk_cell aa.out 0).trans rfl, (blk_cell aa.out 1).trans rfl, (blk_cell aa.out 2).trans rfl, (blk_cell aa.out 3).trans rfl, (blk_cell aa.out 4).trans rfl, (blk_cell aa.out 5).trans rfl, (blk_cell aa.out 6).trans rfl, HS7_⟩ (fun hHeld => ?_)
               clear hK K
               refine norm_ (a' := ?_) ?_ ?_
               rotate_left
               ·show Act.put _ (some 50) _ = _
                simp only [Act.put, List.setIfInBounds_toArray, List.set_cons_zero, List.set_cons_succ, i64_w, i32_w]
                rfl
               refine pu_ (i := 6) (N := some 44) (tf 11 127) HT_ ?_; refine pu_ (i := 7) (N := some 51) (tf 11 255) HT_ ?_; refine pu_ (i := 8) (N := some 52) (tf 11 511) HT_ ?_; refine pu_ (i := 9) (N := some 7) (tf 11 1023) HT_ ?_; refine pu_ (i := 10) (N := some 8) (tf 11 2047) HT_ ?_
               refine done_ (done_of HT_.out (by kernel_rfl)) ?_
               try go_wp2
               go_ret
               exact ⟨er_, hB_ HB⟩
             ·rw [if_neg c31] at H
              exact absurd H (by simp)
            ·rw [if_neg c30] at H
             have bw : decide (ac < (ad.length : Int)) = false := decide_eq_false c30
             clear c30
             obtain rfl := Option.some.inj H
             obtain ⟨b4, b6, eo48⟩ := Kd.R_slice ag.out; subst eo48
             go_wp2
             go_ret
             exact ⟨er_, hB_ HB⟩

/-! ### lodgerlaw11_SpecBack: function 5 -/
mutual
def lodgerlaw11_SpecBack.j0 : Nat → List Int → Int → List Int → Bool → Int → Int → List Int → Int → Int → Int → Int → Option (Bool)
 | 0, _, _, _, _, _, _, _, _, _, _, _ => none
 | k + 1, x1, x2, x3, x40, x543000, x543001, x543002, x543003, x543004, x543005, x543006 => if x40 = true then ((lodgerlaw11_awake.f k).bind fun t545 => (some t545)) else ((lodgerref05_Find.f k x543000 x543001 x543002 x543003 x543004 x543005 x543006 x2).bind fun bt546 => (if bt546.2 = 0 then ((spec_Some.f k x543000 x543001 x543002 x543003 x543004 x543005 x543006 x1 2 x2 ([] : List Int)).bind fun bt550 => ((spec_Some.f k x543000 x543001 x543002 x543003 x543004 x543005 x543006 bt550.1 3 x2 ([] : List Int)).bind fun bt563 => ((spec_Some.f k x543000 x543001 x543002 x543003 x543004 x543005 x543006 bt550.1 2 x2 ([] : List Int)).bind fun bt576 => ((spec_Some.f k x543000 x543001 x543002 x543003 x543004 x543005 x543006 bt563.1 3 x2 ([] : List Int)).bind fun bt589 => (if bt550.2.1 = 0 then ((lodgerref03_Ints.f k bt563.1 x1).bind fun t602 => (if t602 = true then (if bt563.2.1 = 0 then (if bt576.2.1 = 5 then (lodgerlaw11_SpecBack.j1 k x1 x3 (bt589.2.1 != 6) x543000 x543001 x543002 x543003 x543004 x543005 x543006) else (lodgerlaw11_SpecBack.j1 k x1 x3 true x543000 x543001 x543002 x543003 x543004 x543005 x543006)) else (lodgerlaw11_SpecBack.j1 k x1 x3 true x543000 x543001 x543002 x543003 x543004 x543005 x543006)) else (lodgerlaw11_SpecBack.j1 k x1 x3 true x543000 x543001 x543002 x543003 x543004 x543005 x543006))) else (if bt563.2.1 = 0 then (if bt576.2.1 = 5 then (lodgerlaw11_SpecBack.j1 k x1 x3 (bt589.2.1 != 6) x543000 x543001 x543002 x543003 x543004 x543005 x543006) else (lodgerlaw11_SpecBack.j1 k x1 x3 true x543000 x543001 x543002 x543003 x543004 x543005 x543006)) else (lodgerlaw11_SpecBack.j1 k x1 x3 true x543000 x543001 x543002 x543003 x543004 x543005 x543006))))))) else (some true)))
def lodgerlaw11_SpecBack.j1 : Nat → List Int → List Int → Bool → Int → Int → List Int → Int → Int → Int → Int → Option (Bool)
 | 0, _, _, _, _, _, _, _, _, _, _ => none
 | k + 1, x1, x3, x105, x543000, x543001, x543002, x543003, x543004, x543005, x543006 => if x105 = true then (some false) else ((lodgerref10_Check.f k x543000 x543001 x543002 x543003 x543004 x543005 x543006 4 0 x3).bind fun t604 => (if t604 = 0 then ((spec_Some.f k x543000 x543001 x543002 x543003 x543004 x543005 x543006 x1 4 0 x3).bind fun bt605 => (lodgerlaw11_SpecBack.l0 k x3 bt605.1 x1 0 x543000 x543001 x543002 x543003 x543004 x543005 x543006 bt605.2.1 bt605.2.2.1 bt605.2.2.2.1 bt605.2.2.2.2.1 bt605.2.2.2.2.2)) else (some true)))
def lodgerlaw11_SpecBack.l0 : Nat → List Int → List Int → List Int → Int → Int → Int → List Int → Int → Int → Int → Int → Int → Int → Bool → List Int → List Int → Option (Bool)
 | 0, _, _, _, _, _, _, _, _, _, _, _, _, _, _, _, _ => none
 | k + 1, x3, x22, x24, x25, x543000, x543001, x543002, x543003, x543004, x543005, x543006, x618000, x618001, x618002, x618003, x618004 => if x25 < (x3.length : Int) then (if 0 ≤ x25 then ((spec_Some.f k x543000 x543001 x543002 x543003 x543004 x543005 x543006 x24 3 (rd x3 x25) ([] : List Int)).bind fun bt619 => (if x25 ≥ (x618004.length : Int) then (some false) else (if x25 < (x618004.length : Int) then (if (rd x618004 x25) = bt619.2.1 then (lodgerlaw11_SpecBack.l0 k x3 x22 bt619.1 (wrap64 (x25 + 1)) x543000 x543001 x543002 x543003 x543004 x543005 x543006 x618000 x618001 x618002 x618003 x618004) else (some false)) else (none)))) else (none)) else ((lodgerref03_Ints.f k x22 x24).bind fun t633 => (if t633 = true then (some ((x618004.length : Int) == (x3.length : Int))) else (some false)))
end
def lodgerlaw11_SpecBack.f (k : Nat) (a0_0 a0_1 : Int) (l0_2 : List Int) (a0_3 a0_4 : Int) (a0_5 a0_6 : Int) (l1 : List Int) (a2 : Int) (l3 : List Int) : Option (Bool) := (lodgerlaw11_awake.f k).bind fun t543 => (if t543 = true then ((lodgerref11_Fits.f k a0_0 a0_1 l0_2 a0_3 a0_4 a0_5 a0_6 l1).bind fun t544 => (if t544 = true then (lodgerlaw11_SpecBack.j0 k l1 a2 l3 (decide ((l3.length : Int) > 64)) a0_0 a0_1 l0_2 a0_3 a0_4 a0_5 a0_6) else (lodgerlaw11_SpecBack.j0 k l1 a2 l3 true a0_0 a0_1 l0_2 a0_3 a0_4 a0_5 a0_6))) else (lodgerlaw11_SpecBack.j0 k l1 a2 l3 true a0_0 a0_1 l0_2 a0_3 a0_4 a0_5 a0_6))
theorem lodgerlaw11_SpecBack.mono_l : ∀ k, (∀ y0 y1 y2 y3 y4 y5 y6 y7 y8 y9 y10, LeO (lodgerlaw11_SpecBack.j0 k y0 y1 y2 y3 y4 y5 y6 y7 y8 y9 y10) (lodgerlaw11_SpecBack.j0 (k + 1) y0 y1 y2 y3 y4 y5 y6 y7 y8 y9 y10)) ∧ (∀ y0 y1 y2 y3 y4 y5 y6 y7 y8 y9, LeO (lodgerlaw11_SpecBack.j1 k y0 y1 y2 y3 y4 y5 y6 y7 y8 y9) (lodgerlaw11_SpecBack.j1 (k + 1) y0 y1 y2 y3 y4 y5 y6 y7 y8 y9)) ∧ (∀ y0 y1 y2 y3 y4 y5 y6 y7 y8 y9 y10 y11 y12 y13 y14 y15, LeO (lodgerlaw11_SpecBack.l0 k y0 y1 y2 y3 y4 y5 y6 y7 y8 y9 y10 y11 y12 y13 y14 y15) (lodgerlaw11_SpecBack.l0 (k + 1) y0 y1 y2 y3 y4 y5 y6 y7 y8 y9 y10 y11 y12 y13 y14 y15))
 | 0 => ⟨fun _ _ _ _ _ _ _ _ _ _ _ r h => by simp [lodgerlaw11_SpecBack.j0] at h, fun _ _ _ _ _ _ _ _ _ _ r h => by simp [lodgerlaw11_SpecBack.j1] at h, fun _ _ _ _ _ _ _ _ _ _ _ _ _ _ _ _ r h => by simp [lodgerlaw11_SpecBack.l0] at h⟩
 | k + 1 => by
  obtain ⟨ih0, ih1, ih2⟩ := lodgerlaw11_SpecBack.mono_l k
  refine ⟨?_, ?_, ?_⟩
  ·intro y0 y1 y2 y3 y4 y5 y6 y7 y8 y9 y10
   unfold lodgerlaw11_SpecBack.j0
   repeat' (with_reducible first | apply ih0 | apply ih1 | apply ih2 | apply lodgerlaw11_awake.mono | apply lodgerref03_Ints.mono | apply lodgerref05_Find.mono | apply lodgerref10_Check.mono | apply lodgerref11_Fits.mono | apply spec_Some.mono | exact LeO.refl _ | exact LeO.none _ | refine LeO.ite ?_ ?_ | refine LeO.bind ?_ (fun _ => ?_))
  ·intro y0 y1 y2 y3 y4 y5 y6 y7 y8 y9
   unfold lodgerlaw11_SpecBack.j1
   repeat' (with_reducible first | apply ih0 | apply ih1 | apply ih2 | apply lodgerlaw11_awake.mono | apply lodgerref03_Ints.mono | apply lodgerref05_Find.mono | apply lodgerref10_Check.mono | apply lodgerref11_Fits.mono | apply spec_Some.mono | exact LeO.refl _ | exact LeO.none _ | refine LeO.ite ?_ ?_ | refine LeO.bind ?_ (fun _ => ?_))
  ·intro y0 y1 y2 y3 y4 y5 y6 y7 y8 y9 y10 y11 y12 y13 y14 y15
   unfold lodgerlaw11_SpecBack.l0
   repeat' (with_reducible first | apply ih0 | apply ih1 | apply ih2 | apply lodgerlaw11_awake.mono | apply lodgerref03_Ints.mono | apply lodgerref05_Find.mono | apply lodgerref10_Check.mono | apply lodgerref11_Fits.mono | apply spec_Some.mono | exact LeO.refl _ | exact LeO.none _ | refine LeO.ite ?_ ?_ | refine LeO.bind ?_ (fun _ => ?_))
theorem lodgerlaw11_SpecBack.mono : ∀ a0 a1 a2 a3 a4 a5 a6 a7 a8 a9 k, LeO (lodgerlaw11_SpecBack.f k a0 a1 a2 a3 a4 a5 a6 a7 a8 a9) (lodgerlaw11_SpecBack.f (k + 1) a0 a1 a2 a3 a4 a5 a6 a7 a8 a9) := by
 intro a0 a1 a2 a3 a4 a5 a6 a7 a8 a9 k
 obtain ⟨ih0, ih1, ih2⟩ := lodgerlaw11_SpecBack.mono_l k
 unfold lodgerlaw11_SpecBack.f
 repeat' (with_reducible first | apply ih0 | apply ih1 | apply ih2 | apply lodgerlaw11_awake.mono | apply lodgerref03_Ints.mono | apply lodgerref05_Find.mono | apply lodgerref10_Check.mono | apply lodgerref11_Fits.mono | apply spec_Some.mono | exact LeO.refl _ | exact LeO.none _ | refine LeO.ite ?_ ?_ | refine LeO.bind ?_ (fun _ => ?_))
def lodgerlaw11_SpecBack.T22 : Bool × List (List Nat × List Nat) := (true, [([], []), ([], []), ([], []), ([], []), ([2, 3], [2, 3]), ([4], [4]), ([5], [5]), ([0, 1, 6], [0, 1, 6]), ([7], [7]), ([8], [8]), ([8], [8]), ([], []), ([9, 7, 0, 1, 2, 3, 4, 5, 6, 7, 8, 9, 11], [9]), ([11, 10, 12, 0, 1, 2, 3, 4, 5, 6, 7, 8, 9, 10, 11, 12], [10, 11])])
def lodgerlaw11_SpecBack.B22 : List Nat := [0, 0, 0, 0, 12, 28, 60, 127, 255, 511, 511, 0, 3071, 8191]
theorem lodgerlaw11_SpecBack.tab22 : rtab .any (opsOf Tryd.f5 22) = lodgerlaw11_SpecBack.T22 := by kernel_rfl
theorem lodgerlaw11_SpecBack.bits22 : waitsOk lodgerlaw11_SpecBack.T22.2 lodgerlaw11_SpecBack.B22 = true := by kernel_rfl
def lodgerlaw11_SpecBack.T23 : Bool × List (List Nat × List Nat) := (true, [([], []), ([], []), ([1], [1]), ([2], [2]), ([0, 3], [0, 3]), ([4], [4]), ([5], [5]), ([6, 5], [5, 6]), ([5], [5]), ([7, 8, 5], [5, 7, 8]), ([9, 5], [5, 9]), ([5], [5]), ([11, 5], [5, 11]), ([10, 12, 5], [5, 10, 12]), ([5, 13], [5, 13])])
def lodgerlaw11_SpecBack.B23 : List Nat := [0, 0, 2, 6, 15, 31, 63, 127, 63, 511, 1023, 63, 2111, 8191, 16383]
theorem lodgerlaw11_SpecBack.tab23 : rtab .any (opsOf Tryd.f5 23) = lodgerlaw11_SpecBack.T23 := by kernel_rfl
theorem lodgerlaw11_SpecBack.bits23 : waitsOk lodgerlaw11_SpecBack.T23.2 lodgerlaw11_SpecBack.B23 = true := by kernel_rfl
end Go.Proofs.YtkiimboedgnoiaaDoor.PSpecBack
