/- The walk of SpecTells, part of it: what the Go functions answer; no condition. -/
import Derived.Test.YtkiimboedgnoiaaDoorQSpecTellsx0
import Derived.Test.YtkiimboedgnoiaaDoorQSpecTellsx7
import Derived.Test.YtkiimboedgnoiaaDoorQSpecTellsx8
namespace Go.Proofs.YtkiimboedgnoiaaDoor.PSpecTells
open Go.RowKit Go.Proofs.YtkiimboedgnoiaaDoorW.PrintWords Go.Proofs.YtkiimboedgnoiaaDoorW.PrintLast Go.Proofs.YtkiimboedgnoiaaDoorW.PrintMore
attribute [local go_sem] max2_int min2_int max_two min_two max_three min_three max_four min_four   -- for this text's walks alone
set_option linter.unusedVariables false
set_option linter.unusedSimpArgs false

/-! ### lodgerref05_Offset: function 37 -/
def lodgerref05_Offset.f (k : Nat) (a0_0 a0_1 a1 : Int) : Option (Int × Int) := if a1 < a0_0 then (some (0, 3)) else ((lodgerref05_Many.f k a0_0 a0_1).bind fun t546 => (if ((a1 - a0_0) % 4294967296) ≥ t546 then (some (0, 3)) else (some ((a1 - a0_0) % 4294967296, 0))))
theorem lodgerref05_Offset.mono : ∀ a0 a1 a2 k, LeO (lodgerref05_Offset.f k a0 a1 a2) (lodgerref05_Offset.f (k + 1) a0 a1 a2) := by
 intro a0 a1 a2 k
 unfold lodgerref05_Offset.f
 repeat' (with_reducible first | apply lodgerref05_Many.mono | exact LeO.refl _ | exact LeO.none _ | refine LeO.ite ?_ ?_ | refine LeO.bind ?_ (fun _ => ?_))
def lodgerref05_Offset.T1 : Bool × List (List Nat × List Nat) := (true, [([], []), ([], []), ([1], [1]), ([0, 2], [0, 2]), ([3], [3]), ([4], [4]), ([4], [4]), ([6, 4], [4, 6]), ([5, 7, 4], [4, 5, 7]), ([8, 4], [4, 8]), ([4], [4]), ([10, 4, 4], [4, 10]), ([9, 11, 4], [4, 9, 11]), ([4, 12], [4, 12])])
def lodgerref05_Offset.B1 : List Nat := [0, 0, 2, 7, 15, 31, 31, 95, 255, 511, 31, 1055, 4095, 8191]
theorem lodgerref05_Offset.tab1 : rtab .any (opsOf Tryd.f37 1) = lodgerref05_Offset.T1 := by kernel_rfl
theorem lodgerref05_Offset.bits1 : waitsOk lodgerref05_Offset.T1.2 lodgerref05_Offset.B1 = true := by kernel_rfl
set_option maxHeartbeats 8000000 in
set_option maxRecDepth 100000 in
theorem lodgerref05_Offset.calls (k : Nat) (ab ac : Int) (a1 r1 r2 : Int) (w : World) (h : lodgerref05_Offset.f k ab ac a1 = some (r1, r2)) :
  Calls Tryd.prog 37 #[.agg #[.int .u32 ab, .int .i64 ac], .int .u32 a1] w fun e w' => e = .returned (.tuple #[.int .i64 r1, .int .i64 r2]) ∧ Below w.heap.size w w' := by
 have hu24 := Tryd.underlying24
 have HB := Aside0.mk (Below.refl w.heap.size w)
 have E1_ : wrap64 (IntKind.u32.wrap (a1 - ab)) = (a1 - ab) % 4294967296 := by rw [IntKind.wrap_u32]; unfold wrap64; omega
 have H : (if a1 < ab then (some (0, 3)) else ((lodgerref05_Many.f k ab ac).bind fun ad => (if ((a1 - ab) % 4294967296) ≥ ad then (some (0, 3)) else (some ((a1 - ab) % 4294967296, 0))))) = some (r1, r2) := h
 clear h
 by_cases c3 : a1 < ab
 ·rw [if_pos c3] at H
  have ah : decide (a1 < ab) = true := decide_eq_true c3
  clear c3; simp only [Option.some.injEq, Prod.mk.injEq] at H; obtain ⟨rfl, rfl⟩ := H
  go_enter Tryd.func37, Tryd.ntmps37
  try go_wp2_with (first | ((with_reducible refine gd_ 2 ?_); refine bx_ (N := 2) (cs := #[.int .u32 ab, .int .i64 ac]) (t := 24) ?_; intro ae hg w4 aa hb; have ag := gG_ hg HB; have af := gG_ hg HB; replace HB := hS_ HB hb; clear hb hg))
  replace aa := Aside0.mk (blk_drew aa.out); replace HB := Aside0.mk (below_drew1 HB.out)
  refine start_ (n := 14) (S := fun w' => L2_ w' ae (.int .u32 ab) (.int .i64 ac)) (ds := []) (tf 14 0) (by kernel_rfl) rfl rfl (cl2_ aa) (fun hHeld => ?_); refine with_tabW lodgerref05_Offset.tab1 lodgerref05_Offset.bits1 (fun HT_ HW_ => ?_)
  generalize w4.drew = w5 at aa HB hHeld ⊢
  refine puU_ 0 6 (tf 14 1) HT_ ?_; refine puU_ 1 7 (tf 14 3) HT_ ?_; refine tkU_ 2 8 (tf 14 7) rfl rfl HT_ HW_ hHeld (by rintro w' ⟨s0, s1⟩; go_simp; with_reducible rfl) ?_; refine puU_ 3 9 (tf 14 15) HT_ ?_; refine puU_ 4 10 (tf 14 31) HT_ ?_; refine pnU_ 5 11 (tf 14 63) HT_ ?_; refine pnU_ 6 12 (tf 14 127) HT_ ?_; refine pnU_ 7 13 (tf 14 255) HT_ ?_; refine pnU_ 8 14 (tf 14 511) HT_ ?_; refine pnU_ 9 15 (tf 14 1023) HT_ ?_; refine pnU_ 10 16 (tf 14 2047) HT_ ?_; refine pnU_ 11 17 (tf 14 4095) HT_ ?_; refine pnU_ 12 18 (tf 14 8191) HT_ ?_; refine puU_ 13 19 (tf 14 16383) HT_ ?_
  refine done_ (done_of HT_.out (by kernel_rfl)) ?_
  try go_wp2
  go_ret2
  exact ⟨er_, hB_ HB⟩
 ·rw [if_neg c3] at H
  have ah : decide (a1 < ab) = false := decide_eq_false c3
  clear c3; replace H := bi_ H; obtain ⟨ad, A60, H⟩ := H
  replace H : (if ((a1 - ab) % 4294967296) ≥ ad then (some (0, 3)) else (some ((a1 - ab) % 4294967296, 0))) = some (r1, r2) := H
  have A6 := Aside0.mk A60; clear A60
  by_cases c7 : ((a1 - ab) % 4294967296) ≥ ad
  ·rw [if_pos c7] at H
   have ai : decide (ad ≤ ((a1 - ab) % 4294967296)) = true := decide_eq_true c7
   clear c7; simp only [Option.some.injEq, Prod.mk.injEq] at H; obtain ⟨rfl, rfl⟩ := H
   go_enter Tryd.func37, Tryd.ntmps37
   try go_wp2_with (first | ((with_reducible refine gd_ 2 ?_); refine bx_ (N := 2) (cs := #[.int .u32 ab, .int .i64 ac]) (t := 24) ?_; intro ae hg w8 aa hb; have ag := gG_ hg HB; have af := gG_ hg HB; replace HB := hS_ HB hb; clear hb hg))
   replace aa := Aside0.mk (blk_drew aa.out); replace HB := Aside0.mk (below_drew1 HB.out)
   refine start_ (n := 14) (S := fun w' => L2_ w' ae (.int .u32 ab) (.int .i64 ac)) (ds := []) (tf 14 0) (by kernel_rfl) rfl rfl (cl2_ aa) (fun hHeld => ?_); refine with_tabW lodgerref05_Offset.tab1 lodgerref05_Offset.bits1 (fun HT_ HW_ => ?_)
   generalize w8.drew = w9 at aa HB hHeld ⊢
   refine puU_ 0 6 (tf 14 1) HT_ ?_; refine puU_ 1 7 (tf 14 3) HT_ ?_; refine tkU_ 2 8 (tf 14 7) rfl rfl HT_ HW_ hHeld (by rintro w' ⟨s0, s1⟩; go_simp; with_reducible rfl) ?_; refine puU_ 3 9 (tf 14 15) HT_ ?_; refine puU_ 4 10 (tf 14 31) HT_ ?_; refine puU_ 5 11 (tf 14 63) HT_ ?_; refine puU_ 6 12 (tf 14 127) HT_ ?_; refine tkU_ 7 13 (tf 14 255) rfl rfl HT_ HW_ hHeld (by rintro w' ⟨s0, s1⟩; go_simp; with_reducible rfl) ?_; refine puU_ 8 14 (tf 14 511) HT_ ?_; refine puU_ 9 15 (tf 14 1023) HT_ ?_; refine tkU_ 10 16 (tf 14 2047) rfl rfl HT_ HW_ hHeld (by rintro w' ⟨s0, s1⟩; go_simp; with_reducible rfl) ?_
   refine on_ (i := 11) (N := some 17) (tf 14 4095) HT_ (fun K hK => ?_)
   refine gN_ Tryd.func30 (lodgerref05_Many.calls k ab ac ad _ A6.out) ?_
   rintro e w10 ⟨rfl, hb⟩
   refine ⟨_, rfl, ?_⟩
   replace aa := bB_ aa hb; replace HB := hS_ HB hb
   (try clear hb)
   (try clear hb2)
   (try clear hk)
   (try clear hi)
   refine hK.out _ _ (cl2_ aa) (fun hHeld => ?_)
   clear hK K
   refine norm_ (a' := ?_) ?_ ?_
   rotate_left
   ·show Act.put _ (some 17) _ = _
    simp only [Act.put, List.setIfInBounds_toArray, List.set_cons_zero, List.set_cons_succ, i64_w, i32_w]
    rfl
   refine puU_ 12 18 (tf 14 8191) HT_ ?_; refine puU_ 13 19 (tf 14 16383) HT_ ?_
   refine done_ (done_of HT_.out (by kernel_rfl)) ?_
   try go_wp2
   go_ret2
   exact ⟨er_, hB_ HB⟩
  ·rw [if_neg c7] at H
   have ai : decide (ad ≤ ((a1 - ab) % 4294967296)) = false := decide_eq_false c7
   clear c7; simp only [Option.some.injEq, Prod.mk.injEq] at H; obtain ⟨rfl, rfl⟩ := H
   go_enter Tryd.func37, Tryd.ntmps37
   try go_wp2_with (first | ((with_reducible refine gd_ 2 ?_); refine bx_ (N := 2) (cs := #[.int .u32 ab, .int .i64 ac]) (t := 24) ?_; intro ae hg w11 aa hb; have ag := gG_ hg HB; have af := gG_ hg HB; replace HB := hS_ HB hb; clear hb hg))
   replace aa := Aside0.mk (blk_drew aa.out); replace HB := Aside0.mk (below_drew1 HB.out)
   refine start_ (n := 14) (S := fun w' => L2_ w' ae (.int .u32 ab) (.int .i64 ac)) (ds := []) (tf 14 0) (by kernel_rfl) rfl rfl (cl2_ aa) (fun hHeld => ?_); refine with_tabW lodgerref05_Offset.tab1 lodgerref05_Offset.bits1 (fun HT_ HW_ => ?_)
   generalize w11.drew = w12 at aa HB hHeld ⊢
   refine puU_ 0 6 (tf 14 1) HT_ ?_; refine puU_ 1 7 (tf 14 3) HT_ ?_; refine tkU_ 2 8 (tf 14 7) rfl rfl HT_ HW_ hHeld (by rintro w' ⟨s0, s1⟩; go_simp; with_reducible rfl) ?_; refine puU_ 3 9 (tf 14 15) HT_ ?_; refine puU_ 4 10 (tf 14 31) HT_ ?_; refine puU_ 5 11 (tf 14 63) HT_ ?_; refine puU_ 6 12 (tf 14 127) HT_ ?_; refine tkU_ 7 13 (tf 14 255) rfl rfl HT_ HW_ hHeld (by rintro w' ⟨s0, s1⟩; go_simp; with_reducible rfl) ?_; refine puU_ 8 14 (tf 14 511) HT_ ?_; refine puU_ 9 15 (tf 14 1023) HT_ ?_; refine tkU_ 10 16 (tf 14 2047) rfl rfl HT_ HW_ hHeld (by rintro w' ⟨s0, s1⟩; go_simp; with_reducible rfl) ?_
   refine on_ (i := 11) (N := some 17) (tf 14 4095) HT_ (fun K hK => ?_)
   refine gN_ Tryd.func30 (lodgerref05_Many.calls k ab ac ad _ A6.out) ?_
   rintro e w13 ⟨rfl, hb⟩
   refine ⟨_, rfl, ?_⟩
   replace aa := bB_ aa hb; replace HB := hS_ HB hb
   (try clear hb)
   (try clear hb2)
   (try clear hk)
   (try clear hi)
   refine hK.out _ _ (cl2_ aa) (fun hHeld => ?_)
   clear hK K
   refine norm_ (a' := ?_) ?_ ?_
   rotate_left
   ·show Act.put _ (some 17) _ = _
    simp only [Act.put, List.setIfInBounds_toArray, List.set_cons_zero, List.set_cons_succ, i64_w, i32_w]
    rfl
   refine puU_ 12 18 (tf 14 8191) HT_ ?_; refine puU_ 13 19 (tf 14 16383) HT_ ?_
   refine done_ (done_of HT_.out (by kernel_rfl)) ?_
   obtain ⟨aj, ak, al, am⟩ := cz2_ (w := w13) aa
   try go_wp2
   go_ret2
   exact ⟨er_, hB_ HB⟩

/-! ### lodgerref05_Find: function 24 -/
def lodgerref05_Find.f (k : Nat) (a0_0 a0_1 : Int) (l0_2 : List Int) (a0_3 a0_4 : Int) (a0_5 a0_6 a1 : Int) : Option (Int × Int) := (lodgerref05_Offset.f k a0_0 a0_1 a1).bind fun bt548 => (if bt548.2 = 0 then ((lodgerref05_Held.f k a0_0 a0_1 l0_2 a0_3 a0_4 a0_5 a0_6 bt548.1).bind fun t550 => (if t550 = true then (some (0, 4)) else (some (bt548.1, 0)))) else (some (0, 3)))
theorem lodgerref05_Find.mono : ∀ a0 a1 a2 a3 a4 a5 a6 a7 k, LeO (lodgerref05_Find.f k a0 a1 a2 a3 a4 a5 a6 a7) (lodgerref05_Find.f (k + 1) a0 a1 a2 a3 a4 a5 a6 a7) := by
 intro a0 a1 a2 a3 a4 a5 a6 a7 k
 unfold lodgerref05_Find.f
 repeat' (with_reducible first | apply lodgerref05_Held.mono | apply lodgerref05_Offset.mono | exact LeO.refl _ | exact LeO.none _ | refine LeO.ite ?_ ?_ | refine LeO.bind ?_ (fun _ => ?_))
set_option maxHeartbeats 8000000 in
set_option maxRecDepth 100000 in
theorem lodgerref05_Find.calls (k : Nat) (ab ac : Int) (al : Option Addr) (am : Nat) (ad : List Int) (ae af : Int) (ag ah : Int) (a1 r1 r2 : Int) (w : World) (hr0_2 : Kd.C (Kd.int .i64) w al ad.length ad) (hc0_2 : ad.length ≤ am) (h : lodgerref05_Find.f k ab ac ad ae af ag ah a1 = some (r1, r2)) :
  Calls Tryd.prog 24 #[.agg #[.int .u32 ab, .int .i64 ac, .slice al ad.length am, .int .i64 ae, .int .i64 af, .int .i64 ag, .int .i64 ah], .int .u32 a1] w fun e w' => e = .returned (.tuple #[.int .i64 r1, .int .i64 r2]) ∧ Below w.heap.size w w' := by
 have hu27 := Tryd.underlying27
 have hu24 := Tryd.underlying24
 have aq := Aside0.mk hr0_2
 have ap := Aside0.mk hc0_2
 clear hr0_2 hc0_2
 have HB := Aside0.mk (Below.refl w.heap.size w)
 have H : ((lodgerref05_Offset.f k ab ac a1).bind fun bt548 => (if bt548.2 = 0 then ((lodgerref05_Held.f k ab ac ad ae af ag ah bt548.1).bind fun ak => (if ak = true then (some (0, 4)) else (some (bt548.1, 0)))) else (some (0, 3)))) = some (r1, r2) := h
 clear h
 replace H := bi_ H
 obtain ⟨⟨ai, aj⟩, A30, H⟩ := H
 replace H : (if aj = 0 then ((lodgerref05_Held.f k ab ac ad ae af ag ah ai).bind fun ak => (if ak = true then (some (0, 4)) else (some (ai, 0)))) else (some (0, 3))) = some (r1, r2) := H
 have A3 := Aside0.mk A30
 clear A30
 by_cases c4 : aj = 0
 ·rw [if_pos c4] at H
  have au : (aj == 0) = true := beq_iff_eq.mpr c4
  have av : (aj != 0) = false := bne_eq_false_iff_eq.mpr c4
  clear c4; replace H := bi_ H; obtain ⟨ak, A50, H⟩ := H
  replace H : (if ak = true then (some (0, 4)) else (some (ai, 0))) = some (r1, r2) := H
  have A5 := Aside0.mk A50; clear A50
  by_cases c6 : ak = true
  ·subst c6
   have H1 : (some (0, 4)) = some (r1, r2) := pf_ rfl H
   clear H; have H := H1; clear H1; simp only [Option.some.injEq, Prod.mk.injEq] at H; obtain ⟨rfl, rfl⟩ := H
   go_enter Tryd.func24, Tryd.ntmps24
   go_wp2_with (first | ((with_reducible refine gd_ 2 ?_); refine bx_ (N := 2) (cs := #[.int .u32 ab, .int .i64 ac, .slice al ad.length am, .int .i64 ae, .int .i64 af, .int .i64 ag, .int .i64 ah]) (t := 27) ?_; intro ar hg w7 aa hb; have ao := gG_ hg HB; have an := gG_ hg HB; replace HB := hS_ HB hb; clear hb hg; obtain ⟨br, bs, bt, bu, bv, bw, bx, bz, bA, bB, bC, bD, bE, bF⟩ := cz7_ (w := w7) aa) | ((with_reducible refine gate_callee (f := 37) rfl ?_); refine gM_ (some 12) Tryd.func37 (lodgerref05_Offset.calls k ab ac a1 ai aj _ A3.out) ?_; rintro e w9 ⟨rfl, hb⟩; refine ⟨_, rfl, ?_⟩; replace HB := hS_ HB hb; replace aa := bB_ aa hb; (try clear hb); obtain ⟨aw, ax, ay, az, aA, aB, aC, aY, aZ, a0, a2, a3, a4, a5⟩ := cz7_ (w := w9) aa) | ((with_reducible refine gate_callee (f := 22) rfl ?_); refine gM_ (some 19) Tryd.func22 (lodgerref05_Held.calls k ab ac _ _ ad ae af ag ah ai true _ (cC_ aq HB) ap.out A5.out) ?_; rintro e w11 ⟨rfl, hb⟩; refine ⟨_, rfl, ?_⟩; replace HB := hS_ HB hb; replace aa := bB_ aa hb; (try clear hb)))
   go_ret2
   exact ⟨er_, hB_ HB⟩
  ·replace c6 := Bool.eq_false_iff.mpr c6
   subst c6
   have H1 : (some (ai, 0)) = some (r1, r2) := nf_ H
   clear H; have H := H1; clear H1; simp only [Option.some.injEq, Prod.mk.injEq] at H; obtain ⟨rfl, rfl⟩ := H
   go_enter Tryd.func24, Tryd.ntmps24
   go_wp2_with (first | ((with_reducible refine gd_ 2 ?_); refine bx_ (N := 2) (cs := #[.int .u32 ab, .int .i64 ac, .slice al ad.length am, .int .i64 ae, .int .i64 af, .int .i64 ag, .int .i64 ah]) (t := 27) ?_; intro ar hg w12 aa hb; have ao := gG_ hg HB; have an := gG_ hg HB; replace HB := hS_ HB hb; clear hb hg; obtain ⟨aD, aE, aF, aG, aH, aI, aJ, a6, a7, a8, a9, ba, bb, bc⟩ := cz7_ (w := w12) aa) | ((with_reducible refine gate_callee (f := 37) rfl ?_); refine gM_ (some 12) Tryd.func37 (lodgerref05_Offset.calls k ab ac a1 ai aj _ A3.out) ?_; rintro e w14 ⟨rfl, hb⟩; refine ⟨_, rfl, ?_⟩; replace HB := hS_ HB hb; replace aa := bB_ aa hb; (try clear hb); obtain ⟨aK, aL, aM, aN, aO, aP, aQ, bd, be, bf, bg, bh, bi, bj⟩ := cz7_ (w := w14) aa) | ((with_reducible refine gate_callee (f := 22) rfl ?_); refine gM_ (some 19) Tryd.func22 (lodgerref05_Held.calls k ab ac _ _ ad ae af ag ah ai false _ (cC_ aq HB) ap.out A5.out) ?_; rintro e w16 ⟨rfl, hb⟩; refine ⟨_, rfl, ?_⟩; replace HB := hS_ HB hb; replace aa := bB_ aa hb; (try clear hb)))
   go_ret2
   exact ⟨er_, hB_ HB⟩
 ·rw [if_neg c4] at H
  have au : (aj == 0) = false := beq_eq_false_iff_ne.mpr c4
  have av : (aj != 0) = true := bne_iff_ne.mpr c4
  simp only [Option.some.injEq, Prod.mk.injEq] at H; obtain ⟨rfl, rfl⟩ := H
  go_enter Tryd.func24, Tryd.ntmps24
  go_wp2_with (first | ((with_reducible refine gd_ 2 ?_); refine bx_ (N := 2) (cs := #[.int .u32 ab, .int .i64 ac, .slice al ad.length am, .int .i64 ae, .int .i64 af, .int .i64 ag, .int .i64 ah]) (t := 27) ?_; intro ar hg w17 aa hb; have ao := gG_ hg HB; have an := gG_ hg HB; replace HB := hS_ HB hb; clear hb hg; obtain ⟨aR, aS, aT, aU, aV, aW, aX, bk, bl, bm, bn, bo, bp, bq⟩ := cz7_ (w := w17) aa) | ((with_reducible refine gate_callee (f := 37) rfl ?_); refine gM_ (some 12) Tryd.func37 (lodgerref05_Offset.calls k ab ac a1 ai aj _ A3.out) ?_; rintro e w19 ⟨rfl, hb⟩; refine ⟨_, rfl, ?_⟩; replace HB := hS_ HB hb; (try clear hb)))
  go_ret2
  exact ⟨er_, hB_ HB⟩

/-! ### lodgerref10_Names: function 43 -/
def lodgerref10_Names.j0 : Nat → Bool → Int → Int → List Int → Option (List Int)
 | 0, _, _, _, _ => none
 | k + 1, x15, x552000, x552001, x552002 => if x15 = true then (some (([x552001] : List Int))) else (if x552000 = 4 then ((some (([] : List Int) : List Int)).bind fun y555 => (if y555.length + x552002.length < 35184372088832 then (some (y555 ++ x552002)) else (none))) else (some ([] : List Int)))
def lodgerref10_Names.f (k : Nat) (a0_0 a0_1 : Int) (l0_2 : List Int) : Option (List Int) := if a0_0 = 2 then (lodgerref10_Names.j0 k true a0_0 a0_1 l0_2) else (if a0_0 = 3 then (lodgerref10_Names.j0 k true a0_0 a0_1 l0_2) else (lodgerref10_Names.j0 k (a0_0 == 5) a0_0 a0_1 l0_2))
theorem lodgerref10_Names.mono_l : ∀ k, (∀ y0 y1 y2 y3, LeO (lodgerref10_Names.j0 k y0 y1 y2 y3) (lodgerref10_Names.j0 (k + 1) y0 y1 y2 y3))
 | 0 => fun _ _ _ _ r h => by simp [lodgerref10_Names.j0] at h
 | k + 1 => by
  have ih0 := lodgerref10_Names.mono_l k
  ·intro y0 y1 y2 y3
   unfold lodgerref10_Names.j0
   repeat' (with_reducible first | apply ih0 | exact LeO.refl _ | exact LeO.none _ | refine LeO.ite ?_ ?_ | refine LeO.bind ?_ (fun _ => ?_))
theorem lodgerref10_Names.mono : ∀ a0 a1 a2 k, LeO (lodgerref10_Names.f k a0 a1 a2) (lodgerref10_Names.f (k + 1) a0 a1 a2) := by
 intro a0 a1 a2 k
 have ih0 := lodgerref10_Names.mono_l k
 unfold lodgerref10_Names.f
 repeat' (with_reducible first | apply ih0 | exact LeO.refl _ | exact LeO.none _ | refine LeO.ite ?_ ?_ | refine LeO.bind ?_ (fun _ => ?_))
set_option maxHeartbeats 8000000 in
set_option maxRecDepth 100000 in
theorem lodgerref10_Names.calls (k : Nat) (aa ad : Int) (ah : Option Addr) (ai : Nat) (ac r : List Int) (w : World) (hr0_2 : Kd.C (Kd.int .u32) w ah ac.length ac) (hc0_2 : ac.length ≤ ai) (h : lodgerref10_Names.f k aa ad ac = some r) :
  Calls Tryd.prog 43 #[.agg #[.int .i64 aa, .int .u32 ad, .slice ah ac.length ai]] w fun e w' => ∃ v0_ : Value, e = .returned (v0_) ∧ Kd.R (Kd.int .u32) 22 w' w.heap.size (fun _ => True) v0_ r ∧ Below w.heap.size w w' := by
 have hu30 := Tryd.underlying30
 have aP := Aside0.mk hr0_2
 have bm := Aside0.mk hc0_2
 clear hr0_2 hc0_2
 have HB := Aside0.mk (Below.refl w.heap.size w)
 have H : (if aa = 2 then (lodgerref10_Names.j0 k true aa ad ac) else (if aa = 3 then (lodgerref10_Names.j0 k true aa ad ac) else (lodgerref10_Names.j0 k (aa == 5) aa ad ac))) = some r := h
 clear h
 have al := Aside0.mk H
 clear H
 go_enter Tryd.func43, Tryd.ntmps43
 go_upto_region 1 with (first | ((with_reducible refine gd_ 1 ?_); refine bx_ (N := 1) (cs := #[.int .i64 aa, .int .u32 ad, .slice ah ac.length ai]) (t := 30) ?_; intro ak hg w3 ab hb; have bl := gG_ hg HB; have bk := gG_ hg HB; replace HB := hS_ HB hb; clear hb hg))
 (try simp only [Act.put, List.setIfInBounds_toArray, List.set_cons_zero, List.set_cons_succ])
 go_cut [15] (fun v15 wc => ∃ (kq : Nat) (ag : Bool), v15 = .bool ag ∧ Aside0 (lodgerref10_Names.j0 kq ag aa ad ac = some r) ∧ Aside0 (kq ≤ k) ∧ Aside0 (wc.heap[ak]? = some (.cells #[.int .i64 aa, .int .u32 ad, (.slice ah ac.length ai)] 30 (0, 0))) ∧ Aside0 (Below w.heap.size w wc))
 case first =>
  have H := al.out; clear al
  by_cases c4 : aa = 2
  ·rw [if_pos c4] at H
   have af : (aa == 2) = true := beq_iff_eq.mpr c4
   have am : (aa != 2) = false := bne_eq_false_iff_eq.mpr c4
   clear c4
   (first | rw [af] | (simp only [i64_w, i32_w]; rw [af]) | skip)
   have H' := Aside0.mk H
   clear H; obtain ⟨ap, aq, ar, aA, aC, aD⟩ := cz3_ (w := w3) ab
   go_wp2
   go_meet
   case rel => exact ⟨_, (true), rs_, H', ⟨by first | omega | exact Nat.le_refl _⟩, ⟨bk_ ab⟩, ⟨hB_ HB⟩⟩
  ·rw [if_neg c4] at H
   have af : (aa == 2) = false := beq_eq_false_iff_ne.mpr c4
   have am : (aa != 2) = true := bne_iff_ne.mpr c4
   (first | rw [af] | (simp only [i64_w, i32_w]; rw [af]) | skip)
   by_cases c6 : aa = 3
   ·rw [if_pos c6] at H
    have an : (aa == 3) = true := beq_iff_eq.mpr c6
    have ao : (aa != 3) = false := bne_eq_false_iff_eq.mpr c6
    clear c6
    have H' := Aside0.mk H
    clear H; obtain ⟨au, av, aw, aE, aG, aH⟩ := cz3_ (w := w3) ab
    go_wp2
    go_meet
    case rel => exact ⟨_, (true), rs_, H', ⟨by first | omega | exact Nat.le_refl _⟩, ⟨bk_ ab⟩, ⟨hB_ HB⟩⟩
   ·rw [if_neg c6] at H
    have an : (aa == 3) = false := beq_eq_false_iff_ne.mpr c6
    have ao : (aa != 3) = true := bne_iff_ne.mpr c6
    have H' := Aside0.mk H
    clear H; obtain ⟨ax, ay, az, aI, aJ, aK⟩ := cz3_ (w := w3) ab
    go_wp2
    go_meet
    case rel => exact ⟨_, ((aa == 5)), rs_, H', ⟨by first | omega | exact Nat.le_refl _⟩, ⟨bk_ ab⟩, ⟨hB_ HB⟩⟩
 case rest =>
  clear al
  try clear p2
  try clear c4
  try clear af
  try clear am
  try clear c6
  try clear an
  try clear ao
  try clear ap aq ar
  try clear au av aw
  try clear ax ay az
  try clear aA aC aD
  try clear aE aG aH
  try clear aI aJ aK
  obtain ⟨kq, ag, rfl, HA, bn, ab, HB⟩ := hcut
  cases kq with
  | zero => exact absurd HA.out (by simp [lodgerref10_Names.j0])
  | succ kj1 =>
   have H := HA.out; clear HA; simp only [lodgerref10_Names.j0] at H
   by_cases c9 : ag = true
   ·subst c9
    have H1 : (some (([ad] : List Int))) = some r := pf_ rfl H
    clear H; have H := H1; clear H1; obtain ⟨aU, hy552⟩ : ∃ y_ : List Int, y_ = (([ad] : List Int)) := ⟨_, rfl⟩
    replace H : (some aU) = some r := rp_ hy552 H
    have Ny552 := Aside0.mk hy552; clear hy552
    obtain rfl := Option.some.inj H
    obtain ⟨aW, aX, aY, a8, a9, ba⟩ := cz3_ (w := wc) ab
    go_wp2_with (first | ((with_reducible refine gd_ 18 ?_); refine Kd.R_lit (Kd.int .u32) _ 22 ?hg (N := 18) ?hd (xs := ([ad] : List Int)) (inner := [.int .u32 ad]) (ok := fun _ => True) (okp := fun _ => True) ?hr ?hp (fun _ hk => hk) trivial (Below.refl _ _) (Nat.le_refl _) (by simp) ?_; (case hd => rfl); (case hg => rfl); (case hr => first | (go_simp; done) | (go_simp; rfl)); (case hp => exact (Reps.one (show Kd.M (Kd.int .u32) _ _ _ ad [.int .u32 ad] from rfl) (Reps.none _ _))); intro v553 w11 ho12 hb hg_ hnew_; clear hg_ hnew_; (first | rw [← Ny552.out] at ho12 | (simp only [Int.reduceToNat] at ho12; rw [← Ny552.out] at ho12)); have aM := Aside0.mk (Kd.R_lower ho12 (below_size (hB_ HB))); replace HB := hS_ HB hb; replace ab := bB_ ab hb; clear hb ho12))
    go_ret
    exact ⟨_, er_, rR_ aM, hB_ HB⟩
   ·replace c9 := Bool.eq_false_iff.mpr c9
    subst c9
    have H1 : (if aa = 4 then ((some (([] : List Int) : List Int)).bind fun ae => (if ae.length + ac.length < 35184372088832 then (some (ae ++ ac)) else (none))) else (some ([] : List Int))) = some r := nf_ H
    clear H; have H := H1; clear H1
    by_cases c13 : aa = 4
    ·rw [if_pos c13] at H
     have aQ : (aa == 4) = true := beq_iff_eq.mpr c13
     have aT : (aa != 4) = false := bne_eq_false_iff_eq.mpr c13
     clear c13; obtain ⟨ae, hy555⟩ : ∃ y_ : List Int, y_ = (([] : List Int)) := ⟨_, rfl⟩
     replace H : (if ae.length + ac.length < 35184372088832 then (some (ae ++ ac)) else (none)) = some r := rp_ hy555 H
     have Ny555 := Aside0.mk hy555; clear hy555
     by_cases c14 : ae.length + ac.length < 35184372088832
     ·rw [if_pos c14] at H
      have LMc14 := Aside0.mk c14; clear c14; obtain ⟨aV, hy558⟩ : ∃ y_ : List Int, y_ = (ae ++ ac) := ⟨_, rfl⟩
      replace H : (some aV) = some r := rp_ hy558 H
      have Ny558 := Aside0.mk hy558; clear hy558
      obtain rfl := Option.some.inj H
      obtain ⟨aZ, a0, a1, bb, bc, bd⟩ := cz3_ (w := wc) ab
      go_wp2_with (first | ((with_reducible refine gd_ 22 ?_); refine Kd.R_lit (Kd.int .u32) _ 22 ?hg (N := 22) ?hd (xs := ([] : List Int)) (inner := []) (ok := fun _ => True) (okp := fun _ => True) ?hr ?hp (fun _ hk => hk) trivial (Below.refl _ _) (Nat.le_refl _) (by simp) ?_; (case hd => rfl); (case hg => rfl); (case hr => first | (go_simp; done) | (go_simp; rfl)); (case hp => exact (Reps.none _ _)); intro v556 w16 ho17 hb hg_ hnew_; clear hg_ hnew_; (first | rw [← Ny555.out] at ho17 | (simp only [Int.reduceToNat] at ho17; rw [← Ny555.out] at ho17)); have aj := Aside0.mk (Kd.R_lower ho17 (below_size (hB_ HB))); replace HB := hS_ HB hb; replace ab := bB_ ab hb; clear hb ho17; obtain ⟨a2, a3, a4, be, bf, bg⟩ := cz3_ (w := w16) ab) | ((with_reducible refine gate_builtin (b := .append) (xs := #[.tmp 22, .tmp 24]) rfl ?_); at_builtin; refine Kd.R_append_rows (Kd.int .u32) (w0 := w) w.heap.size rfl (.tmp 22) (.tmp 24) 28 22 (.int .u32 0) 4 rfl Tryd.underlying28 info22 rfl (by decide) (by omega) v556 ae ac _ _ _ (fun _ => True) (fun _ => False) rfl rfl ?aO ?aR (fun _ _ h => h) (fun _ h => h.elim) ?aF ?aB ?aS ?aL ?_; (case aR => exact cC_ aP HB); (case aB => exact (hB_ HB)); (case aF => exact (fun _ _ => trivial)); (case aO => exact (rR_ aj)); (case aS => exact (below_size (hB_ HB))); (case aL => have := LMc14.out; omega); intro v559 w19 ho hb hg hat; rw [← Ny558.out] at ho; replace ab := Aside0.mk (blk_grown (g := ak) (o := .cells #[.int .i64 aa, .int .u32 ad, .slice ah ac.length ai] 30 (0, 0)) (bk_ ab) hg (Kd.R_ne aj.out ab.out (by decide))); replace HB := Aside0.mk (hb); have aN := Aside0.mk (ho); clear aj ho hb hg hat))
      go_ret
      exact ⟨_, er_, rR_ aN, hB_ HB⟩
     ·rw [if_neg c14] at H
      exact absurd H (by simp)
    ·rw [if_neg c13] at H
     have aQ : (aa == 4) = false := beq_eq_false_iff_ne.mpr c13
     have aT : (aa != 4) = true := bne_iff_ne.mpr c13
     obtain rfl := Option.some.inj H
     obtain ⟨a5, a6, a7, bh, bi, bj⟩ := cz3_ (w := wc) ab
     go_wp2
     go_ret
     exact ⟨_, er_, nl_, hB_ HB⟩

end Go.Proofs.YtkiimboedgnoiaaDoor.PSpecTells
