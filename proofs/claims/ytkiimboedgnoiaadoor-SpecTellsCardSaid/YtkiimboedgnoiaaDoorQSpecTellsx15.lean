/- The walk of SpecTells, part of it: what the Go functions answer; no condition. -/
import Derived.Test.YtkiimboedgnoiaaDoorQSpecTellsx0
import Derived.Test.YtkiimboedgnoiaaDoorQSpecTellsx7
import Derived.Test.YtkiimboedgnoiaaDoorQSpecTellsx8
import Derived.Test.YtkiimboedgnoiaaDoorQSpecTellsx12
namespace Go.Proofs.YtkiimboedgnoiaaDoor.PSpecTells
open Go.RowKit Go.Proofs.YtkiimboedgnoiaaDoorW.PrintWords Go.Proofs.YtkiimboedgnoiaaDoorW.PrintLast Go.Proofs.YtkiimboedgnoiaaDoorW.PrintMore
attribute [local go_sem] max2_int min2_int max_two min_two max_three min_three max_four min_four   -- for this text's walks alone
set_option linter.unusedVariables false
set_option linter.unusedSimpArgs false

/-! ### lodgerref09_Full: function 27 -/
def lodgerref09_Full.l0 : Nat → List Int → Int → Int → Int → List Int → Int → Int → Int → Int → Option (Bool)
 | 0, _, _, _, _, _, _, _, _, _ => none
 | k + 1, x1, x5, x572000, x572001, x572002, x572003, x572004, x572005, x572006 => (lodgerref05_Many.f k x572000 x572001).bind fun t572 => (if x5 < t572 then ((lodgerref05_Held.f k x572000 x572001 x572002 x572003 x572004 x572005 x572006 x5).bind fun t573 => (if t573 = true then (lodgerref09_Full.l0 k x1 (wrap64 (x5 + 1)) x572000 x572001 x572002 x572003 x572004 x572005 x572006) else ((lodgerref09_Has.f k x1 x5).bind fun t574 => (if t574 = true then (lodgerref09_Full.l0 k x1 (wrap64 (x5 + 1)) x572000 x572001 x572002 x572003 x572004 x572005 x572006) else (some false))))) else (some true))
def lodgerref09_Full.f (k : Nat) (a0_0 a0_1 : Int) (l0_2 : List Int) (a0_3 a0_4 : Int) (a0_5 a0_6 : Int) (l1 : List Int) : Option (Bool) := lodgerref09_Full.l0 k l1 0 a0_0 a0_1 l0_2 a0_3 a0_4 a0_5 a0_6
theorem lodgerref09_Full.mono_l : ∀ k, (∀ y0 y1 y2 y3 y4 y5 y6 y7 y8, LeO (lodgerref09_Full.l0 k y0 y1 y2 y3 y4 y5 y6 y7 y8) (lodgerref09_Full.l0 (k + 1) y0 y1 y2 y3 y4 y5 y6 y7 y8))
 | 0 => fun _ _ _ _ _ _ _ _ _ r h => by simp [lodgerref09_Full.l0] at h
 | k + 1 => by
  have ih0 := lodgerref09_Full.mono_l k
  ·intro y0 y1 y2 y3 y4 y5 y6 y7 y8
   unfold lodgerref09_Full.l0
   repeat' (with_reducible first | apply ih0 | apply lodgerref05_Held.mono | apply lodgerref05_Many.mono | apply lodgerref09_Has.mono | exact LeO.refl _ | exact LeO.none _ | refine LeO.ite ?_ ?_ | refine LeO.bind ?_ (fun _ => ?_))
theorem lodgerref09_Full.mono : ∀ a0 a1 a2 a3 a4 a5 a6 a7 k, LeO (lodgerref09_Full.f k a0 a1 a2 a3 a4 a5 a6 a7) (lodgerref09_Full.f (k + 1) a0 a1 a2 a3 a4 a5 a6 a7) := by
 intro a0 a1 a2 a3 a4 a5 a6 a7 k
 have ih0 := lodgerref09_Full.mono_l k
 unfold lodgerref09_Full.f
 repeat' (with_reducible first | apply ih0 | apply lodgerref05_Held.mono | apply lodgerref05_Many.mono | apply lodgerref09_Has.mono | exact LeO.refl _ | exact LeO.none _ | refine LeO.ite ?_ ?_ | refine LeO.bind ?_ (fun _ => ?_))
set_option maxHeartbeats 8000000 in
set_option maxRecDepth 100000 in
theorem lodgerref09_Full.calls (k : Nat) (ac ad : Int) (al : Option Addr) (ao : Nat) (ae : List Int) (af ag : Int) (ah ai : Int) (A1 : Option Addr) (c1 : Nat) (l1 : List Int) (r : Bool) (w : World) (hr0_2 : Kd.C (Kd.int .i64) w al ae.length ae) (hc0_2 : ae.length ≤ ao) (hr1 : Kd.C (Kd.int .i64) w A1 l1.length l1) (hc1 : l1.length ≤ c1) (h : lodgerref09_Full.f k ac ad ae af ag ah ai l1 = some r) :
  Calls Tryd.prog 27 #[.agg #[.int .u32 ac, .int .i64 ad, .slice al ae.length ao, .int .i64 af, .int .i64 ag, .int .i64 ah, .int .i64 ai], .slice A1 l1.length c1] w fun e w' => e = .returned (.bool r) ∧ Below w.heap.size w w' := by
 have hu27 := Tryd.underlying27
 have hu24 := Tryd.underlying24
 have an := Aside0.mk hr0_2
 have am := Aside0.mk hc0_2
 clear hr0_2 hc0_2
 have au := Aside0.mk hr1
 have ar := Aside0.mk hc1
 clear hr1 hc1
 have HB := Aside0.mk (Below.refl w.heap.size w)
 have H : (lodgerref09_Full.l0 k l1 0 ac ad ae af ag ah ai) = some r := h
 clear h
 have H' := Aside0.mk H
 clear H
 go_enter Tryd.func27, Tryd.ntmps27
 go_wp2_with (first | ((with_reducible refine gd_ 2 ?_); refine bx_ (N := 2) (cs := #[.int .u32 ac, .int .i64 ad, .slice al ae.length ao, .int .i64 af, .int .i64 ag, .int .i64 ah, .int .i64 ai]) (t := 27) ?_; intro aq hg w3 aa hb; have b8 := gG_ hg HB; have b7 := gG_ hg HB; replace HB := hS_ HB hb; clear hb hg))
 go_loopg [5] k (fun kq v5 w' => ∃ (ab : Int), v5 = .int .i64 ab ∧ Aside0 (lodgerref09_Full.l0 kq l1 ab ac ad ae af ag ah ai = some r) ∧ Aside0 (kq ≤ k) ∧ Aside0 (w'.heap[aq]? = some (.cells #[.int .u32 ac, .int .i64 ad, (.slice al ae.length ao), .int .i64 af, .int .i64 ag, .int .i64 ah, .int .i64 ai] 27 (0, 0))) ∧ Aside0 (Below w.heap.size w w'))
 case atStart => exact ⟨(0), rs_, H', ⟨Nat.le_refl _⟩, ⟨bk_ aa⟩, ⟨hB_ HB⟩⟩
 case round =>
  clear H'
  try clear c1
  try clear c2
  try clear p2
  obtain ⟨ab, rfl, HA, HK1, aa, HB⟩ := hrel
  cases gk with
  | zero => exact absurd HA.out (by simp [lodgerref09_Full.l0])
  | succ k1 =>
   have H := HA.out; clear HA; simp only [lodgerref09_Full.l0] at H; replace H := bi_ H; obtain ⟨aj, A40, H⟩ := H
   replace H : (if ab < aj then ((lodgerref05_Held.f k1 ac ad ae af ag ah ai ab).bind fun ap => (if ap = true then (lodgerref09_Full.l0 k1 l1 (wrap64 (ab + 1)) ac ad ae af ag ah ai) else ((lodgerref09_Has.f k1 l1 ab).bind fun ak => (if ak = true then (lodgerref09_Full.l0 k1 l1 (wrap64 (ab + 1)) ac ad ae af ag ah ai) else (some false))))) else (some true)) = some r := H
   have A4 := Aside0.mk A40; clear A40
   by_cases c5 : ab < aj
   ·rw [if_pos c5] at H
    have av : decide (ab < aj) = true := decide_eq_true c5
    clear c5; replace H := bi_ H; obtain ⟨ap, A60, H⟩ := H
    replace H : (if ap = true then (lodgerref09_Full.l0 k1 l1 (wrap64 (ab + 1)) ac ad ae af ag ah ai) else ((lodgerref09_Has.f k1 l1 ab).bind fun ak => (if ak = true then (lodgerref09_Full.l0 k1 l1 (wrap64 (ab + 1)) ac ad ae af ag ah ai) else (some false)))) = some r := H
    have A6 := Aside0.mk A60; clear A60
    by_cases c7 : ap = true
    ·subst c7
     have H1 : (lodgerref09_Full.l0 k1 l1 (wrap64 (ab + 1)) ac ad ae af ag ah ai) = some r := pf_ rfl H
     clear H; have H := H1; clear H1
     have H' := Aside0.mk H
     clear H; obtain ⟨bT, bU, bV, bW, bX, bY, bZ, b0, b1, b2, b3, b4, b5, b6⟩ := cz7_ (w := wr) aa
     go_wp2_with (first | ((with_reducible refine gate_callee (f := 30) rfl ?_); refine gM_ (some 9) Tryd.func30 (lodgerref05_Many.calls k1 ac ad aj _ A4.out) ?_; rintro e w9 ⟨rfl, hb⟩; refine ⟨_, rfl, ?_⟩; replace HB := hS_ HB hb; replace aa := bB_ aa hb; (try clear hb); obtain ⟨aw, ax, ay, az, aA, aB, aC, bc, bd, be, bf, bg, bh, bi⟩ := cz7_ (w := w9) aa) | ((with_reducible refine gate_callee (f := 22) rfl ?_); refine gM_ (some 15) Tryd.func22 (lodgerref05_Held.calls k1 ac ad _ _ ae af ag ah ai ab true _ (cC_ an HB) am.out A6.out) ?_; rintro e w11 ⟨rfl, hb⟩; refine ⟨_, rfl, ?_⟩; replace HB := hS_ HB hb; replace aa := bB_ aa hb; (try clear hb)))
     go_roundg k1
     case measure => have := HK1.out; omega
     case rel => exact ⟨(wrap64 (ab + 1)), rs_, H', ⟨om_ HK1⟩, ⟨bk_ aa⟩, ⟨hB_ HB⟩⟩
    ·replace c7 := Bool.eq_false_iff.mpr c7
     subst c7
     have H1 : ((lodgerref09_Has.f k1 l1 ab).bind fun ak => (if ak = true then (lodgerref09_Full.l0 k1 l1 (wrap64 (ab + 1)) ac ad ae af ag ah ai) else (some false))) = some r := nf_ H
     clear H; have H := H1; clear H1; replace H := bi_ H; obtain ⟨ak, A120, H⟩ := H
     replace H : (if ak = true then (lodgerref09_Full.l0 k1 l1 (wrap64 (ab + 1)) ac ad ae af ag ah ai) else (some false)) = some r := H
     have A12 := Aside0.mk A120; clear A120
     by_cases c13 : ak = true
     ·subst c13
      have H1 : (lodgerref09_Full.l0 k1 l1 (wrap64 (ab + 1)) ac ad ae af ag ah ai) = some r := pf_ rfl H
      clear H; have H := H1; clear H1
      have H' := Aside0.mk H
      clear H; obtain ⟨aD, aE, aF, aG, aH, aI, aJ, bj, bk, bl, bm, bn, bo, bp⟩ := cz7_ (w := wr) aa
      go_wp2_with (first | ((with_reducible refine gate_callee (f := 30) rfl ?_); refine gM_ (some 9) Tryd.func30 (lodgerref05_Many.calls k1 ac ad aj _ A4.out) ?_; rintro e w15 ⟨rfl, hb⟩; refine ⟨_, rfl, ?_⟩; replace HB := hS_ HB hb; replace aa := bB_ aa hb; (try clear hb); obtain ⟨aK, aL, aM, aN, aO, aP, aQ, bq, br, bs, bt, bu, bv, bw⟩ := cz7_ (w := w15) aa) | ((with_reducible refine gate_callee (f := 22) rfl ?_); refine gM_ (some 15) Tryd.func22 (lodgerref05_Held.calls k1 ac ad _ _ ae af ag ah ai ab false _ (cC_ an HB) am.out A6.out) ?_; rintro e w17 ⟨rfl, hb⟩; refine ⟨_, rfl, ?_⟩; replace HB := hS_ HB hb; replace aa := bB_ aa hb; (try clear hb)) | (go_at_call 21; (with_reducible refine (lodgerref09_Has.calls k1 _ _ l1 ab true _ (cC_ au HB) ar.out A12.out).mono ?_); rintro e w' ⟨rfl, ⟨nd, rfl⟩⟩))
      go_roundg k1
      case measure => have := HK1.out; omega
      case rel => exact ⟨(wrap64 (ab + 1)), rs_, H', ⟨om_ HK1⟩, ⟨bk_ aa⟩, ⟨hB_ HB⟩⟩
     ·replace c13 := Bool.eq_false_iff.mpr c13
      subst c13
      have H1 : (some false) = some r := nf_ H
      clear H; have H := H1; clear H1
      obtain rfl := Option.some.inj H
      obtain ⟨aR, aS, aT, aU, aV, aW, aX, bx, bz, bA, bB, bC, bD, bE⟩ := cz7_ (w := wr) aa
      go_wp2_with (first | ((with_reducible refine gate_callee (f := 30) rfl ?_); refine gM_ (some 9) Tryd.func30 (lodgerref05_Many.calls k1 ac ad aj _ A4.out) ?_; rintro e w19 ⟨rfl, hb⟩; refine ⟨_, rfl, ?_⟩; replace HB := hS_ HB hb; replace aa := bB_ aa hb; (try clear hb); obtain ⟨aY, aZ, a0, a1, a2, a3, a4, bF, bG, bH, bI, bJ, bK, bL⟩ := cz7_ (w := w19) aa) | ((with_reducible refine gate_callee (f := 22) rfl ?_); refine gM_ (some 15) Tryd.func22 (lodgerref05_Held.calls k1 ac ad _ _ ae af ag ah ai ab false _ (cC_ an HB) am.out A6.out) ?_; rintro e w21 ⟨rfl, hb⟩; refine ⟨_, rfl, ?_⟩; replace HB := hS_ HB hb; replace aa := bB_ aa hb; (try clear hb)) | (go_at_call 21; (with_reducible refine (lodgerref09_Has.calls k1 _ _ l1 ab false _ (cC_ au HB) ar.out A12.out).mono ?_); rintro e w' ⟨rfl, ⟨nd, rfl⟩⟩))
      go_ret
      exact ⟨er_, hB_ HB⟩
   ·rw [if_neg c5] at H
    have av : decide (ab < aj) = false := decide_eq_false c5
    clear c5
    obtain rfl := Option.some.inj H
    obtain ⟨a5, a6, a7, a8, a9, ba, bb, bM, bN, bO, bP, bQ, bR, bS⟩ := cz7_ (w := wr) aa
    go_wp2_with (first | ((with_reducible refine gate_callee (f := 30) rfl ?_); refine gM_ (some 9) Tryd.func30 (lodgerref05_Many.calls k1 ac ad aj _ A4.out) ?_; rintro e w23 ⟨rfl, hb⟩; refine ⟨_, rfl, ?_⟩; replace HB := hS_ HB hb; (try clear hb)))
    go_ret
    exact ⟨er_, hB_ HB⟩

/-! ### lodgerref11_only: function 36 -/
def lodgerref11_only.f (k : Nat) (a0_0 a0_1 : Int) (a0_2 : Bool) (l0_3 l0_4 : List Int) (a1 : Int) : Option (Bool) := (lodgerref08_Answers.f k a0_0 a0_1 a0_2 l0_3 l0_4 a1 0 false ([] : List Int) ([] : List Int)).bind fun t576 => (some t576)
theorem lodgerref11_only.mono : ∀ a0 a1 a2 a3 a4 a5 k, LeO (lodgerref11_only.f k a0 a1 a2 a3 a4 a5) (lodgerref11_only.f (k + 1) a0 a1 a2 a3 a4 a5) := by
 intro a0 a1 a2 a3 a4 a5 k
 unfold lodgerref11_only.f
 repeat' (with_reducible first | apply lodgerref08_Answers.mono | exact LeO.refl _ | exact LeO.none _ | refine LeO.ite ?_ ?_ | refine LeO.bind ?_ (fun _ => ?_))
set_option maxHeartbeats 8000000 in
set_option maxRecDepth 100000 in
theorem lodgerref11_only.calls (k : Nat) (ac ad : Int) (ae : Bool) (af : Option Addr) (ah : Nat) (aa : List Int) (ag : Option Addr) (ai : Nat) (ab : List Int) (a1 : Int) (r : Bool) (w : World) (hr0_3 : Kd.C (Kd.int .u32) w af aa.length aa) (hc0_3 : aa.length ≤ ah) (hr0_4 : Kd.C (Kd.int .i64) w ag ab.length ab) (hc0_4 : ab.length ≤ ai) (h : lodgerref11_only.f k ac ad ae aa ab a1 = some r) :
  Calls Tryd.prog 36 #[.agg #[.int .i64 ac, .int .u32 ad, .bool ae, .slice af aa.length ah, .slice ag ab.length ai], .int .i64 a1] w fun e w' => e = .returned (.bool r) ∧ Below w.heap.size w w' := by
 have hu34 := Tryd.underlying34
 have an := Aside0.mk hr0_3
 have al := Aside0.mk hc0_3
 clear hr0_3 hc0_3
 have ao := Aside0.mk hr0_4
 have am := Aside0.mk hc0_4
 clear hr0_4 hc0_4
 have HB := Aside0.mk (Below.refl w.heap.size w)
 have H : ((lodgerref08_Answers.f k ac ad ae aa ab a1 0 false ([] : List Int) ([] : List Int)).bind fun aj => (some aj)) = some r := h
 clear h
 replace H := bi_ H
 obtain ⟨aj, A30, H⟩ := H
 replace H : (some aj) = some r := H
 have A3 := Aside0.mk A30
 clear A30
 obtain rfl := Option.some.inj H
 go_enter Tryd.func36, Tryd.ntmps36
 go_wp2_with (first | ((with_reducible refine gd_ 2 ?_); refine bx_ (N := 2) (cs := #[.int .i64 ac, .int .u32 ad, .bool ae, .slice af aa.length ah, .slice ag ab.length ai]) (t := 34) ?_; intro aD hg w4 ak hb; have aC := gG_ hg HB; have aB := gG_ hg HB; replace HB := hS_ HB hb; clear hb hg; obtain ⟨ap, aq, ar, au, av, aw, ax, ay, az, aA⟩ := cz5_ (w := w4) ak) | ((with_reducible refine gate_callee (f := 18) rfl ?_); refine gL_ (some 8) Tryd.func18 #[.agg #[.int .i64 ac, .int .u32 ad, .bool ae, .slice af aa.length ah, .slice ag ab.length ai], .agg #[.int .i64 a1, .int .u32 0, .bool false, .slice none 0 0, .slice none 0 0]] ?_; (refine (lodgerref08_Answers.calls k ac ad ae _ _ aa _ _ ab a1 0 false _ _ ([] : List Int) _ _ ([] : List Int) aj _ ?side1 ?side2 ?side3 ?side4 ?side5 ?side6 ?side7 ?side8 A3.out).mono ?_); (case side1 => exact cC_ an HB); (case side2 => exact al.out); (case side3 => exact cC_ ao HB); (case side4 => exact am.out); (case side5 => exact Kd.C_nil _ _); (case side6 => exact Nat.le_refl _); (case side7 => exact Kd.C_nil _ _); (case side8 => exact Nat.le_refl _); rintro e w6 ⟨rfl, hb⟩; refine ⟨_, rfl, ?_⟩; replace HB := hS_ HB hb; (try clear hb)))
 go_ret
 exact ⟨er_, hB_ HB⟩

/-! ### lodgerref09_Without: function 38 -/
def lodgerref09_Without.l0 : Nat → List Int → Int → List Int → Int → Option (List Int)
 | 0, _, _, _, _ => none
 | k + 1, x0, x1, x5, x6 => if x6 < (x0.length : Int) then (if 0 ≤ x6 then (if (rd x0 x6) = x1 then (lodgerref09_Without.l0 k x0 x1 x5 (wrap64 (x6 + 1))) else (if x5.length < 17592186044416 then (lodgerref09_Without.l0 k x0 x1 (x5 ++ [rd x0 x6]) (wrap64 (x6 + 1))) else (none))) else (none)) else (some x5)
def lodgerref09_Without.f (k : Nat) (l0 : List Int) (a1 : Int) : Option (List Int) := lodgerref09_Without.l0 k l0 a1 ([] : List Int) 0
theorem lodgerref09_Without.mono_l : ∀ k, (∀ y0 y1 y2 y3, LeO (lodgerref09_Without.l0 k y0 y1 y2 y3) (lodgerref09_Without.l0 (k + 1) y0 y1 y2 y3))
 | 0 => fun _ _ _ _ r h => by simp [lodgerref09_Without.l0] at h
 | k + 1 => by
  have ih0 := lodgerref09_Without.mono_l k
  ·intro y0 y1 y2 y3
   unfold lodgerref09_Without.l0
   repeat' (with_reducible first | apply ih0 | exact LeO.refl _ | exact LeO.none _ | refine LeO.ite ?_ ?_ | refine LeO.bind ?_ (fun _ => ?_))
theorem lodgerref09_Without.mono : ∀ a0 a1 k, LeO (lodgerref09_Without.f k a0 a1) (lodgerref09_Without.f (k + 1) a0 a1) := by
 intro a0 a1 k
 have ih0 := lodgerref09_Without.mono_l k
 unfold lodgerref09_Without.f
 repeat' (with_reducible first | apply ih0 | exact LeO.refl _ | exact LeO.none _ | refine LeO.ite ?_ ?_ | refine LeO.bind ?_ (fun _ => ?_))
set_option maxHeartbeats 8000000 in
set_option maxRecDepth 100000 in
theorem lodgerref09_Without.calls (k : Nat) (A0 : Option Addr) (c0 : Nat) (l0 : List Int) (a1 : Int) (r : List Int) (w : World) (hr0 : Kd.C (Kd.int .i64) w A0 l0.length l0) (hc0 : l0.length ≤ c0) (h : lodgerref09_Without.f k l0 a1 = some r) :
  Calls Tryd.prog 38 #[.slice A0 l0.length c0, .int .i64 a1] w fun e w' => ∃ v0_ : Value, e = .returned (v0_) ∧ Kd.R (Kd.int .i64) 3 w' w.heap.size (fun _ => True) v0_ r ∧ Below w.heap.size w w' := by
 have ad := Aside0.mk hr0
 have ak := Aside0.mk hc0
 clear hr0 hc0
 have HB := Aside0.mk (Below.refl w.heap.size w)
 have H : (lodgerref09_Without.l0 k l0 a1 ([] : List Int) 0) = some r := h
 clear h
 have H' := Aside0.mk H
 clear H
 go_enter Tryd.func38, Tryd.ntmps38
 go_wp2
 go_loopg [5, 6] k (fun kq v5 v6 w' => ∃ (ab : List Int) (aa : Int), v6 = .int .i64 aa ∧ Aside0 (lodgerref09_Without.l0 kq l0 a1 ab aa = some r) ∧ Aside0 (kq ≤ k) ∧ Aside0 (Kd.R (Kd.int .i64) 3 w' w.heap.size (fun _ => True) v5 ab) ∧ Aside0 (Below w.heap.size w w'))
 case atStart => exact ⟨(([] : List Int)), (0), rs_, H', ⟨Nat.le_refl _⟩, ⟨nl_⟩, ⟨hB_ HB⟩⟩
 case round =>
  clear H'
  try clear p2
  obtain ⟨ab, aa, rfl, HA, HK1, ac, HB⟩ := hrel
  cases gk with
  | zero => exact absurd HA.out (by simp [lodgerref09_Without.l0])
  | succ k1 =>
   have H := HA.out; clear HA; simp only [lodgerref09_Without.l0] at H
   by_cases c3 : aa < (l0.length : Int)
   ·rw [if_pos c3] at H
    have ag : decide (aa < (l0.length : Int)) = true := decide_eq_true c3
    clear c3
    by_cases c4 : 0 ≤ aa
    ·rw [if_pos c4] at H
     have aj : decide (0 ≤ aa) = true := decide_eq_true c4
     clear c4
     by_cases c5 : (rd l0 aa) = a1
     ·rw [if_pos c5] at H
      have ah : ((rd l0 aa) == a1) = true := beq_iff_eq.mpr c5
      have ai : ((rd l0 aa) != a1) = false := bne_eq_false_iff_eq.mpr c5
      clear c5
      have H' := Aside0.mk H
      clear H
      have p577 : 0 ≤ (aa : Int) := od_
      have q577 : aa < (l0.length : Int) := od_
      obtain ⟨ad577, e577, hx577_0⟩ := Kd.at_int ad.out aa p577 q577
      cases e577
      replace hx577_0 := (HB.out.cell (World.block_lt_of_cell? w _ hx577_0)).trans hx577_0; replace p577 := eq_true p577; replace q577 := eq_true q577
      go_wp2
      go_roundg k1
      case measure => have := HK1.out; omega
      case rel => exact ⟨(ab), (wrap64 (aa + 1)), rs_, H', ⟨om_ HK1⟩, ⟨rR_ ac⟩, ⟨hB_ HB⟩⟩
     ·rw [if_neg c5] at H
      have ah : ((rd l0 aa) == a1) = false := beq_eq_false_iff_ne.mpr c5
      have ai : ((rd l0 aa) != a1) = true := bne_iff_ne.mpr c5
      by_cases c6 : ab.length < 17592186044416
      ·rw [if_pos c6] at H
       have LMc6 := Aside0.mk c6; clear c6; obtain ⟨ae, hy579⟩ : ∃ y_ : List Int, y_ = (ab ++ [rd l0 aa]) := ⟨_, rfl⟩
       replace H : (lodgerref09_Without.l0 k1 l0 a1 ae (wrap64 (aa + 1))) = some r := rp_ hy579 H
       have Ny579 := Aside0.mk hy579; clear hy579
       have H' := Aside0.mk H
       clear H
       have p577 : 0 ≤ (aa : Int) := od_
       have q577 : aa < (l0.length : Int) := od_
       obtain ⟨ad577, e577, hx577_0⟩ := Kd.at_int ad.out aa p577 q577
       cases e577
       replace hx577_0 := (HB.out.cell (World.block_lt_of_cell? w _ hx577_0)).trans hx577_0; replace p577 := eq_true p577; replace q577 := eq_true q577
       have p578 : 0 ≤ (aa : Int) := od_
       have q578 : aa < (l0.length : Int) := od_
       obtain ⟨ad578, e578, hx578_0⟩ := Kd.at_int ad.out aa p578 q578
       obtain rfl : ad577 = ad578 := (by injection e578)
       replace hx578_0 := (HB.out.cell (World.block_lt_of_cell? w _ hx578_0)).trans hx578_0; replace p578 := eq_true p578; replace q578 := eq_true q578
       go_wp2_with (first | ((with_reducible refine gate_builtin (b := .append) (xs := #[.tmp 19, .tmp 24]) rfl ?_); at_builtin; refine Kd.R_append (Kd.int .i64) (w0 := w) w.heap.size rfl (.tmp 19) (.tmp 24) 25 3 (.int .i64 0) 8 rfl Tryd.underlying25 info3 rfl (by decide) (by omega) u5 ab (rd l0 aa) [.int .i64 (rd l0 aa)] (fun _ => True) (fun _ => False) rfl rfl ?aP (fun _ hk => hk.elim) ?aF ?aO ?aB ?aS ?aL ?_; (case aP => exact rfl); (case aB => exact (hB_ HB)); (case aF => exact (fun _ _ => trivial)); (case aO => exact (rR_ ac)); (case aS => exact (below_size (hB_ HB))); (case aL => have := LMc6.out; omega); intro v580 w7 ho hb hg hat; rw [← Ny579.out] at ho; replace HB := Aside0.mk (hb); have af := Aside0.mk (ho); clear ac ho hb hg hat))
       go_roundg k1
       case measure => have := HK1.out; omega
       case rel => exact ⟨(ae), (wrap64 (aa + 1)), rs_, H', ⟨om_ HK1⟩, ⟨rR_ af⟩, ⟨hB_ HB⟩⟩
      ·rw [if_neg c6] at H
       exact absurd H (by simp)
    ·rw [if_neg c4] at H
     exact absurd H (by simp)
   ·rw [if_neg c3] at H
    have ag : decide (aa < (l0.length : Int)) = false := decide_eq_false c3
    clear c3
    obtain rfl := Option.some.inj H
    go_wp2
    go_ret
    exact ⟨_, er_, rR_ ac, hB_ HB⟩

/-! ### lodgerref09_Addrs: function 39 -/
def lodgerref09_Addrs.l0 : Nat → List Int → List Int → Int → Int → Int → List Int → Int → Int → Int → Int → Option (List Int)
 | 0, _, _, _, _, _, _, _, _, _, _ => none
 | k + 1, x1, x5, x6, x583000, x583001, x583002, x583003, x583004, x583005, x583006 => if x6 < (x1.length : Int) then (if 0 ≤ x6 then (if x5.length < 35184372088832 then (lodgerref09_Addrs.l0 k x1 (x5 ++ [(x583000 + (rd x1 x6)) % 4294967296]) (wrap64 (x6 + 1)) x583000 x583001 x583002 x583003 x583004 x583005 x583006) else (none)) else (none)) else (some x5)
def lodgerref09_Addrs.f (k : Nat) (a0_0 a0_1 : Int) (l0_2 : List Int) (a0_3 a0_4 : Int) (a0_5 a0_6 : Int) (l1 : List Int) : Option (List Int) := lodgerref09_Addrs.l0 k l1 ([] : List Int) 0 a0_0 a0_1 l0_2 a0_3 a0_4 a0_5 a0_6
theorem lodgerref09_Addrs.mono_l : ∀ k, (∀ y0 y1 y2 y3 y4 y5 y6 y7 y8 y9, LeO (lodgerref09_Addrs.l0 k y0 y1 y2 y3 y4 y5 y6 y7 y8 y9) (lodgerref09_Addrs.l0 (k + 1) y0 y1 y2 y3 y4 y5 y6 y7 y8 y9))
 | 0 => fun _ _ _ _ _ _ _ _ _ _ r h => by simp [lodgerref09_Addrs.l0] at h
 | k + 1 => by
  have ih0 := lodgerref09_Addrs.mono_l k
  ·intro y0 y1 y2 y3 y4 y5 y6 y7 y8 y9
   unfold lodgerref09_Addrs.l0
   repeat' (with_reducible first | apply ih0 | exact LeO.refl _ | exact LeO.none _ | refine LeO.ite ?_ ?_ | refine LeO.bind ?_ (fun _ => ?_))
theorem lodgerref09_Addrs.mono : ∀ a0 a1 a2 a3 a4 a5 a6 a7 k, LeO (lodgerref09_Addrs.f k a0 a1 a2 a3 a4 a5 a6 a7) (lodgerref09_Addrs.f (k + 1) a0 a1 a2 a3 a4 a5 a6 a7) := by
 intro a0 a1 a2 a3 a4 a5 a6 a7 k
 have ih0 := lodgerref09_Addrs.mono_l k
 unfold lodgerref09_Addrs.f
 repeat' (with_reducible first | apply ih0 | exact LeO.refl _ | exact LeO.none _ | refine LeO.ite ?_ ?_ | refine LeO.bind ?_ (fun _ => ?_))
def lodgerref09_Addrs.T5 : Bool × List (List Nat × List Nat) := (true, [([], []), ([], []), ([1], [1]), ([2], [2]), ([], []), ([], []), ([4, 5], [4, 5]), ([6], [6]), ([7], [7]), ([3, 8], [3, 8]), ([9], [9]), ([0, 10], [0, 10]), ([11, 11, 0, 1, 2, 3, 4, 5, 6, 7, 8, 9, 10, 11], [0, 11])])
def lodgerref09_Addrs.B5 : List Nat := [0, 0, 2, 6, 0, 0, 48, 112, 240, 510, 1022, 2047, 4095]
theorem lodgerref09_Addrs.tab5 : rtab .any (opsOf Tryd.f39 5) = lodgerref09_Addrs.T5 := by kernel_rfl
theorem lodgerref09_Addrs.bits5 : waitsOk lodgerref09_Addrs.T5.2 lodgerref09_Addrs.B5 = true := by kernel_rfl
set_option maxHeartbeats 8000000 in
set_option maxRecDepth 100000 in
theorem lodgerref09_Addrs.calls (k : Nat) (ac af : Int) (al : Option Addr) (am : Nat) (ad : List Int) (ag ah : Int) (ai aj : Int) (A1 : Option Addr) (c1 : Nat) (l1 r : List Int) (w : World) (hr0_2 : Kd.C (Kd.int .i64) w al ad.length ad) (hc0_2 : ad.length ≤ am) (hr1 : Kd.C (Kd.int .i64) w A1 l1.length l1) (hc1 : l1.length ≤ c1) (h : lodgerref09_Addrs.f k ac af ad ag ah ai aj l1 = some r) :
  Calls Tryd.prog 39 #[.agg #[.int .u32 ac, .int .i64 af, .slice al ad.length am, .int .i64 ag, .int .i64 ah, .int .i64 ai, .int .i64 aj], .slice A1 l1.length c1] w fun e w' => ∃ v0_ : Value, e = .returned (v0_) ∧ Kd.R (Kd.int .u32) 22 w' w.heap.size (fun _ => True) v0_ r ∧ Below w.heap.size w w' := by
 have hu27 := Tryd.underlying27
 have ax := Aside0.mk hr0_2
 have aw := Aside0.mk hc0_2
 clear hr0_2 hc0_2
 have ar := Aside0.mk hr1
 have az := Aside0.mk hc1
 clear hr1 hc1
 have HB := Aside0.mk (Below.refl w.heap.size w)
 have H : (lodgerref09_Addrs.l0 k l1 ([] : List Int) 0 ac af ad ag ah ai aj) = some r := h
 clear h
 have H' := Aside0.mk H
 clear H
 go_enter Tryd.func39, Tryd.ntmps39
 go_wp2_with (first | ((with_reducible refine gd_ 2 ?_); refine bx_ (N := 2) (cs := #[.int .u32 ac, .int .i64 af, .slice al ad.length am, .int .i64 ag, .int .i64 ah, .int .i64 ai, .int .i64 aj]) (t := 27) ?_; intro ae hg w3 aa hb; have av := gG_ hg HB; have au := gG_ hg HB; replace HB := hS_ HB hb; clear hb hg))
 go_loopg [5, 6] k (fun kq v5 v6 w' => ∃ (an : List Int) (ab : Int), v6 = .int .i64 ab ∧ Aside0 (lodgerref09_Addrs.l0 kq l1 an ab ac af ad ag ah ai aj = some r) ∧ Aside0 (kq ≤ k) ∧ Aside0 (Kd.R (Kd.int .u32) 22 w' w.heap.size (fun _ => True) v5 an) ∧ Aside0 (w'.heap[ae]? = some (.cells #[.int .u32 ac, .int .i64 af, (.slice al ad.length am), .int .i64 ag, .int .i64 ah, .int .i64 ai, .int .i64 aj] 27 (0, 0))) ∧ Aside0 (Below w.heap.size w w'))
 case atStart => exact ⟨(([] : List Int)), (0), rs_, H', ⟨Nat.le_refl _⟩, ⟨nl_⟩, ⟨bk_ aa⟩, ⟨hB_ HB⟩⟩
 case round =>
  clear H'
  try clear c1
  try clear p2
  try clear c3
  obtain ⟨an, ab, rfl, HA, HK1, ak, aa, HB⟩ := hrel
  cases gk with
  | zero => exact absurd HA.out (by simp [lodgerref09_Addrs.l0])
  | succ k1 =>
   have H := HA.out; clear HA; simp only [lodgerref09_Addrs.l0] at H
   by_cases c4 : ab < (l1.length : Int)
   ·rw [if_pos c4] at H
    have aq : decide (ab < (l1.length : Int)) = true := decide_eq_true c4
    clear c4
    by_cases c5 : 0 ≤ ab
    ·rw [if_pos c5] at H
     have ay : decide (0 ≤ ab) = true := decide_eq_true c5
     clear c5
     by_cases c6 : an.length < 35184372088832
     ·rw [if_pos c6] at H
      have LMc6 := Aside0.mk c6; clear c6; obtain ⟨ao, hy584⟩ : ∃ y_ : List Int, y_ = (an ++ [(ac + (rd l1 ab)) % 4294967296]) := ⟨_, rfl⟩
      replace H : (lodgerref09_Addrs.l0 k1 l1 ao (wrap64 (ab + 1)) ac af ad ag ah ai aj) = some r := rp_ hy584 H
      have Ny584 := Aside0.mk hy584; clear hy584
      have H' := Aside0.mk H
      clear H
      try go_wp2
      replace ak := Aside0.mk (Kd.R_drew ak.out); replace aa := Aside0.mk (blk_drew aa.out); replace HB := Aside0.mk (below_drew1 HB.out)
      have p583 : 0 ≤ (ab : Int) := od_
      have q583 : ab < (l1.length : Int) := od_
      obtain ⟨ad583, e583, hx583_0⟩ := Kd.at_int ar.out ab p583 q583; have hw583_0 := hx583_0
      cases e583
      replace hx583_0 := (HB.out.cell (World.block_lt_of_cell? w _ hx583_0)).trans hx583_0; replace p583 := eq_true p583; replace q583 := eq_true q583
      refine start_ (n := 13) (S := fun w' => w'.cell? ⟨ae, 0, none⟩ = some (.int .u32 ac) ∧ w'.cell? ⟨ae, 1, none⟩ = some (.int .i64 af) ∧ w'.cell? ⟨ae, 2, none⟩ = some (.slice al ad.length am) ∧ w'.cell? ⟨ae, 3, none⟩ = some (.int .i64 ag) ∧ w'.cell? ⟨ae, 4, none⟩ = some (.int .i64 ah) ∧ w'.cell? ⟨ae, 5, none⟩ = some (.int .i64 ai) ∧ w'.cell? ⟨ae, 6, none⟩ = some (.int .i64 aj) ∧ w'.cell? (ad583.add (ab).toNat) = some (.int .i64 (rd l1 ab))) (ds := []) (tf 13 0) (by kernel_rfl) rfl rfl ⟨(blk_cell aa.out 0).trans rfl, (blk_cell aa.out 1).trans rfl, (blk_cell aa.out 2).trans rfl, (blk_cell aa.out 3).trans rfl, (blk_cell aa.out 4).trans rfl, (blk_cell aa.out 5).trans rfl, (blk_cell aa.out 6).trans rfl, ((HB.out.cell (World.block_lt_of_cell? w _ hw583_0)).trans hw583_0)⟩ (fun hHeld => ?_); refine with_tabW lodgerref09_Addrs.tab5 lodgerref09_Addrs.bits5 (fun HT_ HW_ => ?_)
      generalize wr.drew = w7 at ak aa HB hx583_0 hHeld ⊢
      refine pvU_ 0 13 (tf 13 1) HT_ ?_; refine pvU_ 1 14 (tf 13 3) HT_ ?_; refine pvU_ 2 15 (tf 13 7) HT_ ?_; refine pvU_ 4 17 (tf 13 23) HT_ ?_; refine pvU_ 5 18 (tf 13 55) HT_ ?_; refine pvU_ 6 19 (tf 13 119) HT_ ?_; refine tvU_ 3 16 (tf 13 127) rfl rfl HT_ HW_ hHeld (by rintro w' ⟨s0, s1, s2, s3, s4, s5, s6, s7⟩; go_simp; with_reducible rfl) ?_; refine tvU_ 7 20 (tf 13 255) rfl rfl HT_ HW_ hHeld (by rintro w' ⟨s0, s1, s2, s3, s4, s5, s6, s7⟩; go_simp; with_reducible rfl) ?_; refine pvU_ 8 21 (tf 13 511) HT_ ?_; refine pvU_ 9 22 (tf 13 1023) HT_ ?_
      refine on_ (i := 10) (N := some 23) (tf 13 2047) HT_ (fun K hK => ?_)
      refine value_ (w1 := ?_) (v := ?_) (by rfl) rfl ?_ ?_
      rotate_left 2
      ·go_simp
       constructor
       ·rfl
       ·rfl
      refine hK.out _ _ ⟨(blk_cell (blk_alloc aa.out _) 0).trans rfl, (blk_cell (blk_alloc aa.out _) 1).trans rfl, (blk_cell (blk_alloc aa.out _) 2).trans rfl, (blk_cell (blk_alloc aa.out _) 3).trans rfl, (blk_cell (blk_alloc aa.out _) 4).trans rfl, (blk_cell (blk_alloc aa.out _) 5).trans rfl, (blk_cell (blk_alloc aa.out _) 6).trans rfl, (World.cell?_alloc_lt _ _ _ (World.block_lt_of_cell? _ _ (((HB.out.cell (World.block_lt_of_cell? w _ hw583_0)).trans hw583_0)))).trans (((HB.out.cell (World.block_lt_of_cell? w _ hw583_0)).trans hw583_0))⟩ (fun hHeld => ?_)
      clear hK K
      refine norm_ (a' := ?_) ?_ ?_
      rotate_left
      ·show Act.put _ (some 23) _ = _
       simp only [Act.put, List.setIfInBounds_toArray, List.set_cons_zero, List.set_cons_succ, i64_w, i32_w, IntKind.wrap_u32, Int.add_emod_emod, Int.emod_add_emod]
       rfl
      refine on_ (i := 11) (N := some 24) (tf 13 4095) HT_ (fun K hK => ?_)
      refine Kd.R_append_step (Kd.int .u32) (w0 := w) w.heap.size (by rfl) (.tmp 13) (.tmp 23) 28 22 (.int .u32 0) 4 rfl Tryd.underlying28 info22 rfl (by decide) (by omega) u5 an ((ac + (rd l1 ab)) % 4294967296) [.int .u32 ((ac + (rd l1 ab)) % 4294967296)] (fun _ => True) (fun _ => False) rfl rfl ?aP (fun _ hk => hk.elim) ?aF ?aO ?aB ?aS ?aL ?_
      (case aP => exact rfl)
      (case aB => exact (hB_ HB))
      (case aF => exact (fun _ _ => trivial))
      (case aO => exact (rR_ ak))
      (case aS => exact (below_size (hB_ HB)))
      (case aL => have := LMc6.out; omega)
      intro v585 w8 ho hb hg hat
      rw [← Ny584.out] at ho
      replace aa := Aside0.mk (blk_grown (g := ae) (o := .cells #[.int .u32 ac, .int .i64 af, .slice al ad.length am, .int .i64 ag, .int .i64 ah, .int .i64 ai, .int .i64 aj] 27 (0, 0)) (bk_ aa) hg (Kd.R_ne ak.out aa.out (by decide))); replace HB := Aside0.mk (hb); have ap := Aside0.mk (ho); clear ak ho hb hg hat
      refine hK.out _ _ ⟨(blk_cell aa.out 0).trans rfl, (blk_cell aa.out 1).trans rfl, (blk_cell aa.out 2).trans rfl, (blk_cell aa.out 3).trans rfl, (blk_cell aa.out 4).trans rfl, (blk_cell aa.out 5).trans rfl, (blk_cell aa.out 6).trans rfl, ((HB.out.cell (World.block_lt_of_cell? w _ hw583_0)).trans hw583_0)⟩ (fun hHeld => ?_)
      clear hK K
      refine norm_ (a' := ?_) ?_ ?_
      rotate_left
      ·show Act.put _ (some 24) _ = _
       simp only [Act.put, List.setIfInBounds_toArray, List.set_cons_zero, List.set_cons_succ, i64_w, i32_w, IntKind.wrap_u32, Int.add_emod_emod, Int.emod_add_emod]
       rfl
      refine pvU_ 12 5 (tf 13 8191) HT_ ?_
      refine done_ (done_of HT_.out (by kernel_rfl)) ?_
      try go_wp2
      go_roundg k1
      case measure => have := HK1.out; omega
      case rel => exact ⟨(ao), (wrap64 (ab + 1)), rs_, H', ⟨om_ HK1⟩, ⟨rR_ ap⟩, ⟨bk_ aa⟩, ⟨hB_ HB⟩⟩
     ·rw [if_neg c6] at H
      exact absurd H (by simp)
    ·rw [if_neg c5] at H
     exact absurd H (by simp)
   ·rw [if_neg c4] at H
    have aq : decide (ab < (l1.length : Int)) = false := decide_eq_false c4
    clear c4
    obtain rfl := Option.some.inj H
    go_wp2
    go_ret
    exact ⟨_, er_, rR_ ak, hB_ HB⟩

end Go.Proofs.YtkiimboedgnoiaaDoor.PSpecTells
