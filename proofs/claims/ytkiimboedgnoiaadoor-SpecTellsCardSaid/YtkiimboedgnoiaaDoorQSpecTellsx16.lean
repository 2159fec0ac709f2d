/- The walk of SpecTells, part of it: what the Go functions answer; no condition. -/
import Derived.Test.YtkiimboedgnoiaaDoorQSpecTellsx0
import Derived.Test.YtkiimboedgnoiaaDoorQSpecTellsx1
import Derived.Test.YtkiimboedgnoiaaDoorQSpecTellsx12
import Derived.Test.YtkiimboedgnoiaaDoorQSpecTellsx13
import Derived.Test.YtkiimboedgnoiaaDoorQSpecTellsx14
import Derived.Test.YtkiimboedgnoiaaDoorQSpecTellsx15
namespace Go.Proofs.YtkiimboedgnoiaaDoor.PSpecTells
open Go.RowKit Go.Proofs.YtkiimboedgnoiaaDoorW.PrintWords Go.Proofs.YtkiimboedgnoiaaDoorW.PrintLast Go.Proofs.YtkiimboedgnoiaaDoorW.PrintMore
attribute [local go_sem] max2_int min2_int max_two min_two max_three min_three max_four min_four   -- for this text's walks alone
set_option linter.unusedVariables false
set_option linter.unusedSimpArgs false

/-! ### lodgerref11_Legal: function 14 -/
mutual
def lodgerref11_Legal.j0 : Nat → List Int → Bool → Int → Int → List Int → Int → Int → Int → Int → Int → Int → List Int → Int → Int → Bool → List Int → List Int → Option (List Int × Bool)
 | 0, _, _, _, _, _, _, _, _, _, _, _, _, _, _, _, _, _ => none
 | k + 1, x1, x26, x588000, x588001, x588002, x588003, x588004, x588005, x588006, x589000, x589001, x589002, x590000, x590001, x590002, x590003, x590004 => if x26 = true then (some (x1, true)) else ((lodgerref10_Check.f k x588000 x588001 x588002 x588003 x588004 x588005 x588006 x589000 x589001 x589002).bind fun t592 => (if t592 = 0 then ((lodgerref05_Offset.f k x588000 x588001 x589001).bind fun bt594 => ((lodgerref09_Has.f k x1 bt594.1).bind fun t596 => (if x589000 = 1 then ((lodgerref11_only.f k x590000 x590001 x590002 x590003 x590004 9).bind fun t597 => (if t597 = true then ((lodgerref09_Full.f k x588000 x588001 x588002 x588003 x588004 x588005 x588006 x1).bind fun t598 => (some (x1, t598))) else ((lodgerref05_Find.f k x588000 x588001 x588002 x588003 x588004 x588005 x588006 x590001).bind fun bt599 => ((lodgerref08_Answers.f k x590000 x590001 x590002 x590003 x590004 0 x590001 false ([] : List Int) ([] : List Int)).bind fun t601 => (if t601 = true then (if bt599.2 = 0 then ((lodgerref09_Has.f k x1 bt599.1).bind fun t602 => (lodgerref11_Legal.j1 k x1 bt599.1 t602)) else (lodgerref11_Legal.j1 k x1 bt599.1 true)) else (lodgerref11_Legal.j1 k x1 bt599.1 true)))))) else (if x589000 = 2 then (if t596 = true then ((lodgerref11_only.f k x590000 x590001 x590002 x590003 x590004 5).bind fun t606 => (some (x1, t606))) else ((lodgerref08_Answers.f k x590000 x590001 x590002 x590003 x590004 0 x589001 false ([] : List Int) ([] : List Int)).bind fun t607 => (if t607 = true then ((lodgerref09_With.f k x1 bt594.1).bind fun t608 => (some (t608, true))) else (some (x1, false))))) else (if x589000 = 3 then (if t596 = true then ((lodgerref11_only.f k x590000 x590001 x590002 x590003 x590004 0).bind fun t612 => (if t612 = true then ((lodgerref09_Without.f k x1 bt594.1).bind fun t613 => (some (t613, true))) else (some (x1, false)))) else ((lodgerref11_only.f k x590000 x590001 x590002 x590003 x590004 6).bind fun t611 => (some (x1, t611)))) else (if x589000 = 4 then (lodgerref11_Legal.l0 k x1 x1 ([] : List Int) 0 x588000 x588001 x588002 x588003 x588004 x588005 x588006 x589000 x589001 x589002 x590000 x590001 x590002 x590003 x590004) else (if x589000 = 5 then ((lodgerref08_Answers.f k x590000 x590001 x590002 x590003 x590004 0 0 t596 ([] : List Int) ([] : List Int)).bind fun t633 => (some (x1, t633))) else (if x589000 = 6 then ((lodgerref11_only.f k x590000 x590001 x590002 x590003 x590004 11).bind fun t634 => (if t634 = true then (some (x1, true)) else ((lodgerref09_Addrs.f k x588000 x588001 x588002 x588003 x588004 x588005 x588006 x1).bind fun t635 => ((lodgerref08_Answers.f k x590000 x590001 x590002 x590003 x590004 0 0 false t635 ([] : List Int)).bind fun t638 => (some (x1, t638)))))) else ((lodgerref11_only.f k x590000 x590001 x590002 x590003 x590004 0).bind fun t639 => (some (x1, t639))))))))))) else ((lodgerref11_only.f k x590000 x590001 x590002 x590003 x590004 t592).bind fun t593 => (some (x1, t593)))))
def lodgerref11_Legal.j1 : Nat → List Int → Int → Bool → Option (List Int × Bool)
 | 0, _, _, _ => none
 | k + 1, x1, x14, x79 => if x79 = true then (some (x1, false)) else ((lodgerref09_With.f k x1 x14).bind fun t603 => (some (t603, true)))
def lodgerref11_Legal.l0 : Nat → List Int → List Int → List Int → Int → Int → Int → List Int → Int → Int → Int → Int → Int → Int → List Int → Int → Int → Bool → List Int → List Int → Option (List Int × Bool)
 | 0, _, _, _, _, _, _, _, _, _, _, _, _, _, _, _, _, _, _, _ => none
 | k + 1, x1, x16, x17, x18, x588000, x588001, x588002, x588003, x588004, x588005, x588006, x589000, x589001, x589002, x590000, x590001, x590002, x590003, x590004 => if x18 < (x589002.length : Int) then (if 0 ≤ x18 then ((lodgerref05_Offset.f k x588000 x588001 (rd x589002 x18)).bind fun bt617 => ((lodgerref09_Has.f k x16 bt617.1).bind fun t619 => (if t619 = true then (if x17.length < 17592186044416 then ((lodgerref09_Without.f k x16 bt617.1).bind fun t623 => (lodgerref11_Legal.l0 k x1 t623 (x17 ++ [0]) (wrap64 (x18 + 1)) x588000 x588001 x588002 x588003 x588004 x588005 x588006 x589000 x589001 x589002 x590000 x590001 x590002 x590003 x590004)) else (none)) else (if x17.length < 17592186044416 then ((lodgerref09_Without.f k x16 bt617.1).bind fun t629 => (lodgerref11_Legal.l0 k x1 t629 (x17 ++ [6]) (wrap64 (x18 + 1)) x588000 x588001 x588002 x588003 x588004 x588005 x588006 x589000 x589001 x589002 x590000 x590001 x590002 x590003 x590004)) else (none))))) else (none)) else ((lodgerref08_Answers.f k x590000 x590001 x590002 x590003 x590004 0 0 false ([] : List Int) x17).bind fun t632 => (if t632 = true then (some (x16, true)) else (some (x1, false))))
end
def lodgerref11_Legal.f (k : Nat) (a0_0 a0_1 : Int) (l0_2 : List Int) (a0_3 a0_4 : Int) (a0_5 a0_6 : Int) (l1 : List Int) (a2_0 a2_1 : Int) (l2_2 : List Int) (a3_0 a3_1 : Int) (a3_2 : Bool) (l3_3 l3_4 : List Int) : Option (List Int × Bool) := (lodgerref11_only.f k a3_0 a3_1 a3_2 l3_3 l3_4 10).bind fun t590 => (if t590 = true then (lodgerref11_Legal.j0 k l1 true a0_0 a0_1 l0_2 a0_3 a0_4 a0_5 a0_6 a2_0 a2_1 l2_2 a3_0 a3_1 a3_2 l3_3 l3_4) else ((lodgerref11_only.f k a3_0 a3_1 a3_2 l3_3 l3_4 12).bind fun t591 => (lodgerref11_Legal.j0 k l1 t591 a0_0 a0_1 l0_2 a0_3 a0_4 a0_5 a0_6 a2_0 a2_1 l2_2 a3_0 a3_1 a3_2 l3_3 l3_4)))
theorem lodgerref11_Legal.mono_l : ∀ k, (∀ y0 y1 y2 y3 y4 y5 y6 y7 y8 y9 y10 y11 y12 y13 y14 y15 y16, LeO (lodgerref11_Legal.j0 k y0 y1 y2 y3 y4 y5 y6 y7 y8 y9 y10 y11 y12 y13 y14 y15 y16) (lodgerref11_Legal.j0 (k + 1) y0 y1 y2 y3 y4 y5 y6 y7 y8 y9 y10 y11 y12 y13 y14 y15 y16)) ∧ (∀ y0 y1 y2, LeO (lodgerref11_Legal.j1 k y0 y1 y2) (lodgerref11_Legal.j1 (k + 1) y0 y1 y2)) ∧ (∀ y0 y1 y2 y3 y4 y5 y6 y7 y8 y9 y10 y11 y12 y13 y14 y15 y16 y17 y18, LeO (lodgerref11_Legal.l0 k y0 y1 y2 y3 y4 y5 y6 y7 y8 y9 y10 y11 y12 y13 y14 y15 y16 y17 y18) (lodgerref11_Legal.l0 (k + 1) y0 y1 y2 y3 y4 y5 y6 y7 y8 y9 y10 y11 y12 y13 y14 y15 y16 y17 y18))
 | 0 => ⟨fun _ _ _ _ _ _ _ _ _ _ _ _ _ _ _ _ _ r h => by simp [lodgerref11_Legal.j0] at h, fun _ _ _ r h => by simp [lodgerref11_Legal.j1] at h, fun _ _ _ _ _ _ _ _ _ _ _ _ _ _ _ _ _ _ _ r h => by simp [lodgerref11_Legal.l0] at h⟩
 | k + 1 => by
  obtain ⟨ih0, ih1, ih2⟩ := lodgerref11_Legal.mono_l k
  refine ⟨?_, ?_, ?_⟩
  ·intro y0 y1 y2 y3 y4 y5 y6 y7 y8 y9 y10 y11 y12 y13 y14 y15 y16
   unfold lodgerref11_Legal.j0
   repeat' (with_reducible first | apply ih0 | apply ih1 | apply ih2 | apply lodgerref05_Find.mono | apply lodgerref05_Offset.mono | apply lodgerref08_Answers.mono | apply lodgerref09_Addrs.mono | apply lodgerref09_Full.mono | apply lodgerref09_Has.mono | apply lodgerref09_With.mono | apply lodgerref09_Without.mono | apply lodgerref10_Check.mono | apply lodgerref11_only.mono | exact LeO.refl _ | exact LeO.none _ | refine LeO.ite ?_ ?_ | refine LeO.bind ?_ (fun _ => ?_))
  ·intro y0 y1 y2
   unfold lodgerref11_Legal.j1
   repeat' (with_reducible first | apply ih0 | apply ih1 | apply ih2 | apply lodgerref05_Find.mono | apply lodgerref05_Offset.mono | apply lodgerref08_Answers.mono | apply lodgerref09_Addrs.mono | apply lodgerref09_Full.mono | apply lodgerref09_Has.mono | apply lodgerref09_With.mono | apply lodgerref09_Without.mono | apply lodgerref10_Check.mono | apply lodgerref11_only.mono | exact LeO.refl _ | exact LeO.none _ | refine LeO.ite ?_ ?_ | refine LeO.bind ?_ (fun _ => ?_))
  ·intro y0 y1 y2 y3 y4 y5 y6 y7 y8 y9 y10 y11 y12 y13 y14 y15 y16 y17 y18
   unfold lodgerref11_Legal.l0
   repeat' (with_reducible first | apply ih0 | apply ih1 | apply ih2 | apply lodgerref05_Find.mono | apply lodgerref05_Offset.mono | apply lodgerref08_Answers.mono | apply lodgerref09_Addrs.mono | apply lodgerref09_Full.mono | apply lodgerref09_Has.mono | apply lodgerref09_With.mono | apply lodgerref09_Without.mono | apply lodgerref10_Check.mono | apply lodgerref11_only.mono | exact LeO.refl _ | exact LeO.none _ | refine LeO.ite ?_ ?_ | refine LeO.bind ?_ (fun _ => ?_))
theorem lodgerref11_Legal.mono : ∀ a0 a1 a2 a3 a4 a5 a6 a7 a8 a9 a10 a11 a12 a13 a14 a15 k, LeO (lodgerref11_Legal.f k a0 a1 a2 a3 a4 a5 a6 a7 a8 a9 a10 a11 a12 a13 a14 a15) (lodgerref11_Legal.f (k + 1) a0 a1 a2 a3 a4 a5 a6 a7 a8 a9 a10 a11 a12 a13 a14 a15) := by
 intro a0 a1 a2 a3 a4 a5 a6 a7 a8 a9 a10 a11 a12 a13 a14 a15 k
 obtain ⟨ih0, ih1, ih2⟩ := lodgerref11_Legal.mono_l k
 unfold lodgerref11_Legal.f
 repeat' (with_reducible first | apply ih0 | apply ih1 | apply ih2 | apply lodgerref05_Find.mono | apply lodgerref05_Offset.mono | apply lodgerref08_Answers.mono | apply lodgerref09_Addrs.mono | apply lodgerref09_Full.mono | apply lodgerref09_Has.mono | apply lodgerref09_With.mono | apply lodgerref09_Without.mono | apply lodgerref10_Check.mono | apply lodgerref11_only.mono | exact LeO.refl _ | exact LeO.none _ | refine LeO.ite ?_ ?_ | refine LeO.bind ?_ (fun _ => ?_))
def lodgerref11_Legal.T34 : Bool × List (List Nat × List Nat) := (true, [([], []), ([0], [0]), ([], []), ([2], [2]), ([], []), ([3, 4], [3, 4]), ([5], [5]), ([1, 6], [1, 6]), ([7], [7]), ([8], [8]), ([8], [8]), ([9, 7, 0, 1, 2, 3, 4, 5, 6, 7, 8, 9], [9]), ([10, 11, 0, 1, 2, 3, 4, 5, 6, 7, 8, 9, 10, 11], [10])])
def lodgerref11_Legal.B34 : List Nat := [0, 1, 0, 4, 0, 28, 60, 127, 255, 511, 511, 1023, 4095]
theorem lodgerref11_Legal.tab34 : rtab .any (opsOf Tryd.f14 34) = lodgerref11_Legal.T34 := by kernel_rfl
theorem lodgerref11_Legal.bits34 : waitsOk lodgerref11_Legal.T34.2 lodgerref11_Legal.B34 = true := by kernel_rfl
def lodgerref11_Legal.T45 : Bool × List (List Nat × List Nat) := (true, [([], []), ([], []), ([1], [1]), ([2, 2], [2]), ([3], [3]), ([3], [3]), ([3], [3]), ([5, 6, 3, 3], [3, 5, 6]), ([7, 3], [3, 7]), ([4, 8, 7, 3], [3, 4, 8]), ([3, 9], [3, 9]), ([0, 9, 0], [0]), ([10, 11, 0, 1, 2, 3, 4, 5, 6, 7, 8, 9, 10, 11], [10])])
def lodgerref11_Legal.B45 : List Nat := [0, 0, 2, 6, 14, 14, 14, 110, 238, 510, 1022, 1023, 4095]
theorem lodgerref11_Legal.tab45 : rtab .any (opsOf Tryd.f14 45) = lodgerref11_Legal.T45 := by kernel_rfl
theorem lodgerref11_Legal.bits45 : waitsOk lodgerref11_Legal.T45.2 lodgerref11_Legal.B45 = true := by kernel_rfl
set_option maxHeartbeats 8000000 in
set_option maxRecDepth 100000 in
theorem lodgerref11_Legal.calls (k : Nat) (ak al : Int) (bi : Option Addr) (bj : Nat) (am : List Int) (ao ap : Int) (aq ar : Int) (P1_ : Nat → Prop) (A1 : Option Addr) (c1 : Nat) (l1 : List Int) (aj an : Int) (bx : Option Addr) (bn : Nat) (au : List Int) (ah ae : Int) (ai : Bool) (a0 : Option Addr) (a2 : Nat) (af : List Int) (a1 : Option Addr) (a3 : Nat) (ag r1 : List Int) (r2 : Bool) (w : World) (hr0_2 : Kd.C (Kd.int .i64) w bi am.length am) (hc0_2 : am.length ≤ bj) (sy : Kd.V (Kd.int .i64) 3 w w.heap.size (fun k_ => P1_ k_) (.slice A1 l1.length c1) l1) (hr2_2 : Kd.C (Kd.int .u32) w bx au.length au) (hc2_2 : au.length ≤ bn) (hr3_3 : Kd.C (Kd.int .u32) w a0 af.length af) (hc3_3 : af.length ≤ a2) (hr3_4 : Kd.C (Kd.int .i64) w a1 ag.length ag) (hc3_4 : ag.length ≤ a3) (h : lodgerref11_Legal.f k ak al am ao ap aq ar l1 aj an au ah ae ai af ag = some (r1, r2)) :
  Calls Tryd.prog 14 #[.agg #[.int .u32 ak, .int .i64 al, .slice bi am.length bj, .int .i64 ao, .int .i64 ap, .int .i64 aq, .int .i64 ar], .slice A1 l1.length c1, .agg #[.int .i64 aj, .int .u32 an, .slice bx au.length bn], .agg #[.int .i64 ah, .int .u32 ae, .bool ai, .slice a0 af.length a2, .slice a1 ag.length a3]] w fun e w' => ∃ v0_ : Value, e = .returned (.tuple #[v0_, .bool r2]) ∧ Kd.V (Kd.int .i64) 3 w' w.heap.size (fun k_ => (P1_ k_ ∨ w.heap.size ≤ k_)) v0_ r1 ∧ Below w.heap.size w w' := by
 have hu27 := Tryd.underlying27
 have hu30 := Tryd.underlying30
 have hu34 := Tryd.underlying34
 have hu24 := Tryd.underlying24
 have aV := Aside0.mk hr0_2
 have aU := Aside0.mk hc0_2
 clear hr0_2 hc0_2
 have bm := Aside0.mk (show Kd.V (Kd.int .i64) 3 w w.heap.size (fun k_ => (P1_ k_ ∨ w.heap.size ≤ k_)) (.slice A1 l1.length c1) l1 from Kd.V_mono sy (fun k_ hk => .inl hk))
 have aZ := Aside0.mk hr2_2
 have a5 := Aside0.mk hc2_2
 clear hr2_2 hc2_2
 have aK := Aside0.mk hr3_3
 have aI := Aside0.mk hc3_3
 clear hr3_3 hc3_3
 have aM := Aside0.mk hr3_4
 have aJ := Aside0.mk hc3_4
 clear hr3_4 hc3_4
 have HB := Aside0.mk (Below.refl w.heap.size w)
 have H : ((lodgerref11_only.f k ah ae ai af ag 10).bind fun fl => (if fl = true then (lodgerref11_Legal.j0 k l1 true ak al am ao ap aq ar aj an au ah ae ai af ag) else ((lodgerref11_only.f k ah ae ai af ag 12).bind fun bt => (lodgerref11_Legal.j0 k l1 bt ak al am ao ap aq ar aj an au ah ae ai af ag)))) = some (r1, r2) := h
 clear h
 have l4 := Aside0.mk H
 clear H
 go_enter Tryd.func14, Tryd.ntmps14
 go_upto_region 1 with (first | ((with_reducible refine gd_ 4 ?_); refine box_event ?hg (N := 4) ?hd (cs := #[.int .u32 ak, .int .i64 al, .slice bi am.length bj, .int .i64 ao, .int .i64 ap, .int .i64 aq, .int .i64 ar]) (t := 27) ?hr ?_; (case hd => rfl); (case hg => rfl); (case hr => first | (go_simp; done) | (go_simp; rfl)); intro aR hg w6 hbox hb; replace bm := vE_ bm hg hb; have aa := Aside0.mk (hbox); have sE := gG_ hg HB; have sB := gG_ hg HB; replace HB := hS_ HB hb; clear hb hbox hg) | ((with_reducible refine gd_ 6 ?_); refine box_event ?hg (N := 6) ?hd (cs := #[.int .i64 aj, .int .u32 an, .slice bx au.length bn]) (t := 30) ?hr ?_; (case hd => rfl); (case hg => rfl); (case hr => first | (go_simp; done) | (go_simp; rfl)); intro aW hg w7 hbox hb; replace bm := vE_ bm hg hb; have ab := Aside0.mk (hbox); have sF := gG_ hg HB; have sC := gG_ hg HB; replace HB := hS_ HB hb; have az := nL_ hg aa; have aA := nG_ hg aa; replace aa := bB_ aa hb; clear hb hbox hg) | ((with_reducible refine gd_ 7 ?_); refine box_event ?hg (N := 7) ?hd (cs := #[.int .i64 ah, .int .u32 ae, .bool ai, .slice a0 af.length a2, .slice a1 ag.length a3]) (t := 34) ?hr ?_; (case hd => rfl); (case hg => rfl); (case hr => first | (go_simp; done) | (go_simp; rfl)); intro aX hg w8 hbox hb; replace bm := vE_ bm hg hb; have ac := Aside0.mk (hbox); have sG := gG_ hg HB; have sD := gG_ hg HB; have ax := nL_ hg aa; have ay := nG_ hg aa; have av := nL_ hg ab; have aw := nG_ hg ab; replace ab := bB_ ab hb; replace aa := bB_ aa hb; replace HB := hS_ HB hb; clear hb hbox hg))
 (try simp only [Act.put, List.setIfInBounds_toArray, List.set_cons_zero, List.set_cons_succ])
 go_cut [26] (fun v26 wc => ∃ (kq : Nat) (b6 : Bool), v26 = .bool b6 ∧ Aside0 (lodgerref11_Legal.j0 kq l1 b6 ak al am ao ap aq ar aj an au ah ae ai af ag = some (r1, r2)) ∧ Aside0 (kq ≤ k) ∧ Aside0 (Kd.V (Kd.int .i64) 3 wc w.heap.size (fun k_ => (P1_ k_ ∨ w.heap.size ≤ k_) ∧ k_ ≠ aR ∧ k_ ≠ aW ∧ k_ ≠ aX) (.slice A1 l1.length c1) l1) ∧ Aside0 (wc.heap[aR]? = some (.cells #[.int .u32 ak, .int .i64 al, (.slice bi am.length bj), .int .i64 ao, .int .i64 ap, .int .i64 aq, .int .i64 ar] 27 (0, 0))) ∧ Aside0 (wc.heap[aW]? = some (.cells #[.int .i64 aj, .int .u32 an, (.slice bx au.length bn)] 30 (0, 0))) ∧ Aside0 (wc.heap[aX]? = some (.cells #[.int .i64 ah, .int .u32 ae, .bool ai, (.slice a0 af.length a2), (.slice a1 ag.length a3)] 34 (0, 0))) ∧ Aside0 (Below w.heap.size w wc))
 case first =>
  have H := l4.out; clear l4; replace H := bi_ H; obtain ⟨fl, A90, H⟩ := H
  replace H : (if fl = true then (lodgerref11_Legal.j0 k l1 true ak al am ao ap aq ar aj an au ah ae ai af ag) else ((lodgerref11_only.f k ah ae ai af ag 12).bind fun bt => (lodgerref11_Legal.j0 k l1 bt ak al am ao ap aq ar aj an au ah ae ai af ag))) = some (r1, r2) := H
  have A9 := Aside0.mk A90; clear A90
  by_cases c10 : fl = true
  ·subst c10
   have H1 : (lodgerref11_Legal.j0 k l1 true ak al am ao ap aq ar aj an au ah ae ai af ag) = some (r1, r2) := pf_ rfl H
   clear H; have H := H1; clear H1
   have H' := Aside0.mk H
   clear H; have sJ := ay.out; have td := ax.out; have sK := aw.out; have te := av.out; obtain ⟨bz, bA, bB, bC, bD, bO, bP, bQ, bR, bS⟩ := cz5_ (w := w8) ac
   go_wp2_with (first | ((with_reducible refine gate_callee (f := 36) rfl ?_); refine gM_ (some 22) Tryd.func36 (lodgerref11_only.calls k ah ae ai _ _ af _ _ ag 10 true _ (cC_ aK HB) aI.out (cC_ aM HB) aJ.out A9.out) ?_; rintro e w14 ⟨rfl, hb⟩; refine ⟨_, rfl, ?_⟩; replace bm := vB_ bm hb; replace ab := bB_ ab hb; replace HB := hS_ HB hb; replace aa := bB_ aa hb; replace ac := bB_ ac hb; (try clear hb)))
   go_meet
   case rel => exact ⟨_, (true), rs_, H', ⟨by first | omega | exact Nat.le_refl _⟩, ⟨Kd.V_mono (vV_ bm) (fun _ hk => ⟨hk.1.1.1, ⟨hk.1.1.2, ⟨hk.1.2, hk.2⟩⟩⟩)⟩, ⟨bk_ aa⟩, ⟨bk_ ab⟩, ⟨bk_ ac⟩, ⟨hB_ HB⟩⟩
  ·replace c10 := Bool.eq_false_iff.mpr c10
   subst c10
   have H1 : ((lodgerref11_only.f k ah ae ai af ag 12).bind fun bt => (lodgerref11_Legal.j0 k l1 bt ak al am ao ap aq ar aj an au ah ae ai af ag)) = some (r1, r2) := nf_ H
   clear H; have H := H1; clear H1; replace H := bi_ H; obtain ⟨bt, A150, H⟩ := H
   replace H : (lodgerref11_Legal.j0 k l1 bt ak al am ao ap aq ar aj an au ah ae ai af ag) = some (r1, r2) := H
   have A15 := Aside0.mk A150; clear A150
   have H' := Aside0.mk H
   clear H; have sL := ay.out; have tg := ax.out; have sM := aw.out; have th := av.out; obtain ⟨bE, bF, bG, bH, bI, bT, bU, bV, bW, bX⟩ := cz5_ (w := w8) ac
   go_wp2_with (first | ((with_reducible refine gate_callee (f := 36) rfl ?_); refine gM_ (some 22) Tryd.func36 (lodgerref11_only.calls k ah ae ai _ _ af _ _ ag 10 false _ (cC_ aK HB) aI.out (cC_ aM HB) aJ.out A9.out) ?_; rintro e w19 ⟨rfl, hb⟩; refine ⟨_, rfl, ?_⟩; replace bm := vB_ bm hb; replace ab := bB_ ab hb; replace HB := hS_ HB hb; replace aa := bB_ aa hb; replace ac := bB_ ac hb; (try clear hb); obtain ⟨bJ, bK, bL, bM, bN, bY, bZ, b0, b1, b2⟩ := cz5_ (w := w19) ac) | (go_at_call 36; (with_reducible refine (lodgerref11_only.calls k ah ae ai _ _ af _ _ ag 12 bt _ (cC_ aK HB) aI.out (cC_ aM HB) aJ.out A15.out).mono ?_); rintro e w21 ⟨rfl, hb⟩; replace bm := vB_ bm hb; replace ab := bB_ ab hb; replace HB := hS_ HB hb; replace aa := bB_ aa hb; replace ac := bB_ ac hb; (try clear hb)))
   go_meet
   case rel => exact ⟨_, (bt), rs_, H', ⟨by first | omega | exact Nat.le_refl _⟩, ⟨Kd.V_mono (vV_ bm) (fun _ hk => ⟨hk.1.1.1, ⟨hk.1.1.2, ⟨hk.1.2, hk.2⟩⟩⟩)⟩, ⟨bk_ aa⟩, ⟨bk_ ab⟩, ⟨bk_ ac⟩, ⟨hB_ HB⟩⟩
 case rest =>
  clear l4
  try clear c1
  try clear c2
  try clear p2
  try clear c3
  try clear c10
  try clear c11
  try clear c12
  try clear c14
  try clear c16
  try clear c17
  try clear bz bA bB bC bD
  try clear bE bF bG bH bI
  try clear bJ bK bL bM bN
  try clear bO bP bQ bR bS
  try clear bT bU bV bW bX
  try clear bY bZ b0 b1 b2
  obtain ⟨kq, b6, rfl, HA, b7, ad, aa, ab, ac, HB⟩ := hcut
  cases kq with
  | zero => exact absurd HA.out (by simp [lodgerref11_Legal.j0])
  | succ kj4 =>
   have H := HA.out; clear HA; simp only [lodgerref11_Legal.j0] at H
   by_cases c22 : b6 = true
   ·subst c22
    have H1 : (some (l1, true)) = some (r1, r2) := pf_ rfl H
    clear H; have H := H1; clear H1; simp only [Option.some.injEq, Prod.mk.injEq] at H; obtain ⟨rfl, rfl⟩ := H
    go_wp2
    go_ret2
    exact ⟨_, er_, Kd.V_mono (vV_ ad) (fun _ hk => hk.1), hB_ HB⟩
   ·replace c22 := Bool.eq_false_iff.mpr c22
    subst c22
    have H1 : ((lodgerref10_Check.f kj4 ak al am ao ap aq ar aj an au).bind fun aQ => (if aQ = 0 then ((lodgerref05_Offset.f kj4 ak al an).bind fun bt594 => ((lodgerref09_Has.f kj4 l1 bt594.1).bind fun aN => (if aj = 1 then ((lodgerref11_only.f kj4 ah ae ai af ag 9).bind fun bo => (if bo = true then ((lodgerref09_Full.f kj4 ak al am ao ap aq ar l1).bind fun bc => (some (l1, bc))) else ((lodgerref05_Find.f kj4 ak al am ao ap aq ar ae).bind fun bt599 => ((lodgerref08_Answers.f kj4 ah ae ai af ag 0 ae false ([] : List Int) ([] : List Int)).bind fun a6 => (if a6 = true then (if bt599.2 = 0 then ((lodgerref09_Has.f kj4 l1 bt599.1).bind fun aY => (lodgerref11_Legal.j1 kj4 l1 bt599.1 aY)) else (lodgerref11_Legal.j1 kj4 l1 bt599.1 true)) else (lodgerref11_Legal.j1 kj4 l1 bt599.1 true)))))) else (if aj = 2 then (if aN = true then ((lodgerref11_only.f kj4 ah ae ai af ag 5).bind fun be => (some (l1, be))) else ((lodgerref08_Answers.f kj4 ah ae ai af ag 0 an false ([] : List Int) ([] : List Int)).bind fun bf => (if bf = true then ((lodgerref09_With.f kj4 l1 bt594.1).bind fun a7 => (some (a7, true))) else (some (l1, false))))) else (if aj = 3 then (if aN = true then ((lodgerref11_only.f kj4 ah ae ai af ag 0).bind fun bh => (if bh = true then ((lodgerref09_Without.f kj4 l1 bt594.1).bind fun a8 => (some (a8, true))) else (some (l1, false)))) else ((lodgerref11_only.f kj4 ah ae ai af ag 6).bind fun bg => (some (l1, bg)))) else (if aj = 4 then (lodgerref11_Legal.l0 kj4 l1 l1 ([] : List Int) 0 ak al am ao ap aq ar aj an au ah ae ai af ag) else (if aj = 5 then ((lodgerref08_Answers.f kj4 ah ae ai af ag 0 0 aN ([] : List Int) ([] : List Int)).bind fun bp => (some (l1, bp))) else (if aj = 6 then ((lodgerref11_only.f kj4 ah ae ai af ag 11).bind fun bq => (if bq = true then (some (l1, true)) else ((lodgerref09_Addrs.f kj4 ak al am ao ap aq ar l1).bind fun a9 => ((lodgerref08_Answers.f kj4 ah ae ai af ag 0 0 false a9 ([] : List Int)).bind fun ba => (some (l1, ba)))))) else ((lodgerref11_only.f kj4 ah ae ai af ag 0).bind fun br => (some (l1, br))))))))))) else ((lodgerref11_only.f kj4 ah ae ai af ag aQ).bind fun b3 => (some (l1, b3))))) = some (r1, r2) := nf_ H
    clear H; have H := H1; clear H1; replace H := bi_ H; obtain ⟨aQ, A230, H⟩ := H
    replace H : (if aQ = 0 then ((lodgerref05_Offset.f kj4 ak al an).bind fun bt594 => ((lodgerref09_Has.f kj4 l1 bt594.1).bind fun aN => (if aj = 1 then ((lodgerref11_only.f kj4 ah ae ai af ag 9).bind fun bo => (if bo = true then ((lodgerref09_Full.f kj4 ak al am ao ap aq ar l1).bind fun bc => (some (l1, bc))) else ((lodgerref05_Find.f kj4 ak al am ao ap aq ar ae).bind fun bt599 => ((lodgerref08_Answers.f kj4 ah ae ai af ag 0 ae false ([] : List Int) ([] : List Int)).bind fun a6 => (if a6 = true then (if bt599.2 = 0 then ((lodgerref09_Has.f kj4 l1 bt599.1).bind fun aY => (lodgerref11_Legal.j1 kj4 l1 bt599.1 aY)) else (lodgerref11_Legal.j1 kj4 l1 bt599.1 true)) else (lodgerref11_Legal.j1 kj4 l1 bt599.1 true)))))) else (if aj = 2 then (if aN = true then ((lodgerref11_only.f kj4 ah ae ai af ag 5).bind fun be => (some (l1, be))) else ((lodgerref08_Answers.f kj4 ah ae ai af ag 0 an false ([] : List Int) ([] : List Int)).bind fun bf => (if bf = true then ((lodgerref09_With.f kj4 l1 bt594.1).bind fun a7 => (some (a7, true))) else (some (l1, false))))) else (if aj = 3 then (if aN = true then ((lodgerref11_only.f kj4 ah ae ai af ag 0).bind fun bh => (if bh = true then ((lodgerref09_Without.f kj4 l1 bt594.1).bind fun a8 => (some (a8, true))) else (some (l1, false)))) else ((lodgerref11_only.f kj4 ah ae ai af ag 6).bind fun bg => (some (l1, bg)))) else (if aj = 4 then (lodgerref11_Legal.l0 kj4 l1 l1 ([] : List Int) 0 ak al am ao ap aq ar aj an au ah ae ai af ag) else (if aj = 5 then ((lodgerref08_Answers.f kj4 ah ae ai af ag 0 0 aN ([] : List Int) ([] : List Int)).bind fun bp => (some (l1, bp))) else (if aj = 6 then ((lodgerref11_only.f kj4 ah ae ai af ag 11).bind fun bq => (if bq = true then (some (l1, true)) else ((lodgerref09_Addrs.f kj4 ak al am ao ap aq ar l1).bind fun a9 => ((lodgerref08_Answers.f kj4 ah ae ai af ag 0 0 false a9 ([] : List Int)).bind fun ba => (some (l1, ba)))))) else ((lodgerref11_only.f kj4 ah ae ai af ag 0).bind fun br => (some (l1, br))))))))))) else ((lodgerref11_only.f kj4 ah ae ai af ag aQ).bind fun b3 => (some (l1, b3)))) = some (r1, r2) := H
    have A23 := Aside0.mk A230; clear A230
    by_cases c24 : aQ = 0
    ·rw [if_pos c24] at H
     have fg : (aQ == 0) = true := beq_iff_eq.mpr c24
     have fh : (aQ != 0) = false := bne_eq_false_iff_eq.mpr c24
     clear c24; replace H := bi_ H; obtain ⟨⟨aE, bd⟩, A250, H⟩ := H
     replace H : ((lodgerref09_Has.f kj4 l1 aE).bind fun aN => (if aj = 1 then ((lodgerref11_only.f kj4 ah ae ai af ag 9).bind fun bo => (if bo = true then ((lodgerref09_Full.f kj4 ak al am ao ap aq ar l1).bind fun bc => (some (l1, bc))) else ((lodgerref05_Find.f kj4 ak al am ao ap aq ar ae).bind fun bt599 => ((lodgerref08_Answers.f kj4 ah ae ai af ag 0 ae false ([] : List Int) ([] : List Int)).bind fun a6 => (if a6 = true then (if bt599.2 = 0 then ((lodgerref09_Has.f kj4 l1 bt599.1).bind fun aY => (lodgerref11_Legal.j1 kj4 l1 bt599.1 aY)) else (lodgerref11_Legal.j1 kj4 l1 bt599.1 true)) else (lodgerref11_Legal.j1 kj4 l1 bt599.1 true)))))) else (if aj = 2 then (if aN = true then ((lodgerref11_only.f kj4 ah ae ai af ag 5).bind fun be => (some (l1, be))) else ((lodgerref08_Answers.f kj4 ah ae ai af ag 0 an false ([] : List Int) ([] : List Int)).bind fun bf => (if bf = true then ((lodgerref09_With.f kj4 l1 aE).bind fun a7 => (some (a7, true))) else (some (l1, false))))) else (if aj = 3 then (if aN = true then ((lodgerref11_only.f kj4 ah ae ai af ag 0).bind fun bh => (if bh = true then ((lodgerref09_Without.f kj4 l1 aE).bind fun a8 => (some (a8, true))) else (some (l1, false)))) else ((lodgerref11_only.f kj4 ah ae ai af ag 6).bind fun bg => (some (l1, bg)))) else (if aj = 4 then (lodgerref11_Legal.l0 kj4 l1 l1 ([] : List Int) 0 ak al am ao ap aq ar aj an au ah ae ai af ag) else (if aj = 5 then ((lodgerref08_Answers.f kj4 ah ae ai af ag 0 0 aN ([] : List Int) ([] : List Int)).bind fun bp => (some (l1, bp))) else (if aj = 6 then ((lodgerref11_only.f kj4 ah ae ai af ag 11).bind fun bq => (if bq = true then (some (l1, true)) else ((lodgerref09_Addrs.f kj4 ak al am ao ap aq ar l1).bind fun a9 => ((lodgerref08_Answers.f kj4 ah ae ai af ag 0 0 false a9 ([] : List Int)).bind fun ba => (some (l1, ba)))))) else ((lodgerref11_only.f kj4 ah ae ai af ag 0).bind fun br => (some (l1, br)))))))))) = some (r1, r2) := H
     have A25 := Aside0.mk A250; clear A250; replace H := bi_ H; obtain ⟨aN, A260, H⟩ := H
     replace H : (if aj = 1 then ((lodgerref11_only.f kj4 ah ae ai af ag 9).bind fun bo => (if bo = true then ((lodgerref09_Full.f kj4 ak al am ao ap aq ar l1).bind fun bc => (some (l1, bc))) else ((lodgerref05_Find.f kj4 ak al am ao ap aq ar ae).bind fun bt599 => ((lodgerref08_Answers.f kj4 ah ae ai af ag 0 ae false ([] : List Int) ([] : List Int)).bind fun a6 => (if a6 = true then (if bt599.2 = 0 then ((lodgerref09_Has.f kj4 l1 bt599.1).bind fun aY => (lodgerref11_Legal.j1 kj4 l1 bt599.1 aY)) else (lodgerref11_Legal.j1 kj4 l1 bt599.1 true)) else (lodgerref11_Legal.j1 kj4 l1 bt599.1 true)))))) else (if aj = 2 then (if aN = true then ((lodgerref11_only.f kj4 ah ae ai af ag 5).bind fun be => (some (l1, be))) else ((lodgerref08_Answers.f kj4 ah ae ai af ag 0 an false ([] : List Int) ([] : List Int)).bind fun bf => (if bf = true then ((lodgerref09_With.f kj4 l1 aE).bind fun a7 => (some (a7, true))) else (some (l1, false))))) else (if aj = 3 then (if aN = true then ((lodgerref11_only.f kj4 ah ae ai af ag 0).bind fun bh => (if bh = true then ((lodgerref09_Without.f kj4 l1 aE).bind fun a8 => (some (a8, true))) else (some (l1, false)))) else ((lodgerref11_only.f kj4 ah ae ai af ag 6).bind fun bg => (some (l1, bg)))) else (if aj = 4 then (lodgerref11_Legal.l0 kj4 l1 l1 ([] : List Int) 0 ak al am ao ap aq ar aj an au ah ae ai af ag) else (if aj = 5 then ((lodgerref08_Answers.f kj4 ah ae ai af ag 0 0 aN ([] : List Int) ([] : List Int)).bind fun bp => (some (l1, bp))) else (if aj = 6 then ((lodgerref11_only.f kj4 ah ae ai af ag 11).bind fun bq => (if bq = true then (some (l1, true)) else ((lodgerref09_Addrs.f kj4 ak al am ao ap aq ar l1).bind fun a9 => ((lodgerref08_Answers.f kj4 ah ae ai af ag 0 0 false a9 ([] : List Int)).bind fun ba => (some (l1, ba)))))) else ((lodgerref11_only.f kj4 ah ae ai af ag 0).bind fun br => (some (l1, br))))))))) = some (r1, r2) := H
     have A26 := Aside0.mk A260; clear A260
     by_cases c27 : aj = 1
     ·rw [if_pos c27] at H
      have fi : (aj == 1) = true := beq_iff_eq.mpr c27
      have fj : (aj != 1) = false := bne_eq_false_iff_eq.mpr c27
      clear c27; replace H := bi_ H; obtain ⟨bo, A280, H⟩ := H
      replace H : (if bo = true then ((lodgerref09_Full.f kj4 ak al am ao ap aq ar l1).bind fun bc => (some (l1, bc))) else ((lodgerref05_Find.f kj4 ak al am ao ap aq ar ae).bind fun bt599 => ((lodgerref08_Answers.f kj4 ah ae ai af ag 0 ae false ([] : List Int) ([] : List Int)).bind fun a6 => (if a6 = true then (if bt599.2 = 0 then ((lodgerref09_Has.f kj4 l1 bt599.1).bind fun aY => (lodgerref11_Legal.j1 kj4 l1 bt599.1 aY)) else (lodgerref11_Legal.j1 kj4 l1 bt599.1 true)) else (lodgerref11_Legal.j1 kj4 l1 bt599.1 true))))) = some (r1, r2) := H
      have A28 := Aside0.mk A280; clear A280
      by_cases c29 : bo = true
      ·subst c29
       have H1 : ((lodgerref09_Full.f kj4 ak al am ao ap aq ar l1).bind fun bc => (some (l1, bc))) = some (r1, r2) := pf_ rfl H
       clear H; have H := H1; clear H1; replace H := bi_ H; obtain ⟨bc, A300, H⟩ := H
       replace H : (some (l1, bc)) = some (r1, r2) := H
       have A30 := Aside0.mk A300; clear A300; simp only [Option.some.injEq, Prod.mk.injEq] at H; obtain ⟨rfl, rfl⟩ := H; have sN := az.out; have ti := aA.out; have sO := ax.out; have tj := ay.out; obtain ⟨b8, b9, ca, cb, cc, cd, ce, dM, dN, dO, dP, dQ, dR, dS⟩ := cz7_ (w := wc) aa; have sP := av.out; have tl := aw.out; obtain ⟨cf, cg, ch, dT, dU, dV⟩ := cz3_ (w := wc) ab
       go_wp2_with (first | ((with_reducible refine gate_callee (f := 25) rfl ?_); refine gM_ (some 30) Tryd.func25 (lodgerref10_Check.calls kj4 ak al _ _ am ao ap aq ar aj an _ _ au aQ _ (cC_ aV HB) aU.out (cC_ aZ HB) a5.out A23.out) ?_; rintro e w36 ⟨rfl, hb⟩; refine ⟨_, rfl, ?_⟩; replace ad := vB_ ad hb; replace ab := bB_ ab hb; replace HB := hS_ HB hb; replace aa := bB_ aa hb; replace ac := bB_ ac hb; (try clear hb); obtain ⟨ci, cj, ck, cl, cm, cn, co, dW, dX, dY, dZ, d0, d1, d2⟩ := cz7_ (w := w36) aa; obtain ⟨cp, cq, cr, d3, d4, d5⟩ := cz3_ (w := w36) ab) | ((with_reducible refine gate_callee (f := 37) rfl ?_); refine gM_ (some 42) Tryd.func37 (lodgerref05_Offset.calls kj4 ak al an aE bd _ A25.out) ?_; rintro e w39 ⟨rfl, hb⟩; refine ⟨_, rfl, ?_⟩; replace ad := vB_ ad hb; replace ab := bB_ ab hb; replace HB := hS_ HB hb; replace aa := bB_ aa hb; replace ac := bB_ ac hb; (try clear hb)) | ((with_reducible refine gate_callee (f := 21) rfl ?_); refine gM_ (some 47) Tryd.func21 (lodgerref09_Has.calls kj4 _ _ l1 aE aN _ (cD_ (Kd.V_reads' ad.out).2.2) ((Kd.V_reads' ad.out).2.1) A26.out) ?_; rintro e w' ⟨rfl, ⟨nd, rfl⟩⟩; refine ⟨_, rfl, ?_⟩; obtain ⟨ct, cu, cv, d6, d7, d8⟩ := cz3_ (w := w39) ab; obtain ⟨cw, cx, cy, cz, cA, d9, ea, eb, ec, ed⟩ := cz5_ (w := w39) ac) | ((with_reducible refine gate_callee (f := 36) rfl ?_); refine gM_ (some 53) Tryd.func36 (lodgerref11_only.calls kj4 ah ae ai _ _ af _ _ ag 9 true _ (cD_ (Kd.C_below aK.out (hB_ HB))) aI.out (cD_ (Kd.C_below aM.out (hB_ HB))) aJ.out A28.out) ?_; rintro e w42 ⟨rfl, hb⟩; refine ⟨_, rfl, ?_⟩; replace ad := vB_ ad hb; replace ab := bB_ ab hb; replace HB := hS_ HB hb; replace aa := bB_ aa hb; replace ac := bB_ ac hb; (try clear hb); obtain ⟨cB, cC, cD, cE, cF, cG, cH, ee, ef, eg, eh, ei, ej, ek⟩ := cz7_ (w := w42) aa) | ((with_reducible refine gate_callee (f := 27) rfl ?_); refine gM_ (some 57) Tryd.func27 (lodgerref09_Full.calls kj4 ak al _ _ am ao ap aq ar _ _ l1 bc _ (cC_ aV HB) aU.out (cD_ (Kd.V_reads' ad.out).2.2) ((Kd.V_reads' ad.out).2.1) A30.out) ?_; rintro e w44 ⟨rfl, hb⟩; refine ⟨_, rfl, ?_⟩; replace ad := vB_ ad hb; replace ab := bB_ ab hb; replace HB := hS_ HB hb; replace aa := bB_ aa hb; replace ac := bB_ ac hb; (try clear hb)))
       go_ret2
       exact ⟨_, er_, Kd.V_mono (vV_ ad) (fun _ hk => hk.1), hB_ HB⟩
      ·replace c29 := Bool.eq_false_iff.mpr c29
       subst c29
       have H1 : ((lodgerref05_Find.f kj4 ak al am ao ap aq ar ae).bind fun bt599 => ((lodgerref08_Answers.f kj4 ah ae ai af ag 0 ae false ([] : List Int) ([] : List Int)).bind fun a6 => (if a6 = true then (if bt599.2 = 0 then ((lodgerref09_Has.f kj4 l1 bt599.1).bind fun aY => (lodgerref11_Legal.j1 kj4 l1 bt599.1 aY)) else (lodgerref11_Legal.j1 kj4 l1 bt599.1 true)) else (lodgerref11_Legal.j1 kj4 l1 bt599.1 true)))) = some (r1, r2) := nf_ H
       clear H; have H := H1; clear H1; replace H := bi_ H; obtain ⟨⟨a4, bu⟩, A450, H⟩ := H
       replace H : ((lodgerref08_Answers.f kj4 ah ae ai af ag 0 ae false ([] : List Int) ([] : List Int)).bind fun a6 => (if a6 = true then (if bu = 0 then ((lodgerref09_Has.f kj4 l1 a4).bind fun aY => (lodgerref11_Legal.j1 kj4 l1 a4 aY)) else (lodgerref11_Legal.j1 kj4 l1 a4 true)) else (lodgerref11_Legal.j1 kj4 l1 a4 true))) = some (r1, r2) := H
       have A45 := Aside0.mk A450; clear A450; have fs := Aside0.mk H; clear H; have sQ := az.out; have tm := aA.out; have sR := ax.out; have tn := ay.out; obtain ⟨cI, cJ, cK, cL, cM, cN, cO, el, em, en, eo, ep, er, et⟩ := cz7_ (w := wc) aa; have sS := av.out; have tp := aw.out; obtain ⟨cP, cQ, cR, eu, ev, ew⟩ := cz3_ (w := wc) ab
       go_upto_region 13 with (first | ((with_reducible refine gate_callee (f := 25) rfl ?_); refine gM_ (some 30) Tryd.func25 (lodgerref10_Check.calls kj4 ak al _ _ am ao ap aq ar aj an _ _ au aQ _ (cC_ aV HB) aU.out (cC_ aZ HB) a5.out A23.out) ?_; rintro e w52 ⟨rfl, hb⟩; refine ⟨_, rfl, ?_⟩; replace ad := vB_ ad hb; replace ab := bB_ ab hb; replace HB := hS_ HB hb; replace aa := bB_ aa hb; replace ac := bB_ ac hb; (try clear hb); obtain ⟨cS, cT, cU, cV, cW, cX, cY, ex, ey, ez, eA, eB, eC, eD⟩ := cz7_ (w := w52) aa; obtain ⟨cZ, c0, da, eE, eF, eG⟩ := cz3_ (w := w52) ab) | ((with_reducible refine gate_callee (f := 37) rfl ?_); refine gM_ (some 42) Tryd.func37 (lodgerref05_Offset.calls kj4 ak al an aE bd _ A25.out) ?_; rintro e w55 ⟨rfl, hb⟩; refine ⟨_, rfl, ?_⟩; replace ad := vB_ ad hb; replace ab := bB_ ab hb; replace HB := hS_ HB hb; replace aa := bB_ aa hb; replace ac := bB_ ac hb; (try clear hb)) | ((with_reducible refine gate_callee (f := 21) rfl ?_); refine gM_ (some 47) Tryd.func21 (lodgerref09_Has.calls kj4 _ _ l1 aE aN _ (cD_ (Kd.V_reads' ad.out).2.2) ((Kd.V_reads' ad.out).2.1) A26.out) ?_; rintro e w' ⟨rfl, ⟨nd, rfl⟩⟩; refine ⟨_, rfl, ?_⟩; obtain ⟨db, dc, dd, eH, eI, eJ⟩ := cz3_ (w := w55) ab; obtain ⟨de, df, dg, dh, di, eK, eL, eM, eN, eO⟩ := cz5_ (w := w55) ac) | ((with_reducible refine gate_callee (f := 36) rfl ?_); refine gM_ (some 53) Tryd.func36 (lodgerref11_only.calls kj4 ah ae ai _ _ af _ _ ag 9 false _ (cD_ (Kd.C_below aK.out (hB_ HB))) aI.out (cD_ (Kd.C_below aM.out (hB_ HB))) aJ.out A28.out) ?_; rintro e w58 ⟨rfl, hb⟩; refine ⟨_, rfl, ?_⟩; replace ad := vB_ ad hb; replace ab := bB_ ab hb; replace HB := hS_ HB hb; replace aa := bB_ aa hb; replace ac := bB_ ac hb; (try clear hb); obtain ⟨dj, dk, dl, dm, dn, dp, dq, eP, eQ, eR, eS, eT, eU, eV⟩ := cz7_ (w := w58) aa; obtain ⟨dr, dt, du, dv, dw, eW, eX, eY, eZ, e0⟩ := cz5_ (w := w58) ac) | ((with_reducible refine gate_callee (f := 24) rfl ?_); refine gM_ (some 62) Tryd.func24 (lodgerref05_Find.calls kj4 ak al _ _ am ao ap aq ar ae a4 bu _ (cC_ aV HB) aU.out A45.out) ?_; rintro e w61 ⟨rfl, hb⟩; refine ⟨_, rfl, ?_⟩; replace ad := vB_ ad hb; replace ab := bB_ ab hb; replace HB := hS_ HB hb; replace aa := bB_ aa hb; replace ac := bB_ ac hb; (try clear hb)))
       (try simp only [Act.put, List.setIfInBounds_toArray, List.set_cons_zero, List.set_cons_succ])
       go_cut [79] (fun v79 wc => ∃ (kq : Nat) (bw : Bool), v79 = .bool bw ∧ Aside0 (lodgerref11_Legal.j1 kq l1 a4 bw = some (r1, r2)) ∧ Aside0 (kq ≤ kj4) ∧ Aside0 (Kd.V (Kd.int .i64) 3 wc w.heap.size (fun k_ => (P1_ k_ ∨ w.heap.size ≤ k_) ∧ k_ ≠ aR ∧ k_ ≠ aW ∧ k_ ≠ aX) (.slice A1 l1.length c1) l1) ∧ Aside0 (wc.heap[aR]? = some (.cells #[.int .u32 ak, .int .i64 al, (.slice bi am.length bj), .int .i64 ao, .int .i64 ap, .int .i64 aq, .int .i64 ar] 27 (0, 0))) ∧ Aside0 (wc.heap[aW]? = some (.cells #[.int .i64 aj, .int .u32 an, (.slice bx au.length bn)] 30 (0, 0))) ∧ Aside0 (wc.heap[aX]? = some (.cells #[.int .i64 ah, .int .u32 ae, .bool ai, (.slice a0 af.length a2), (.slice a1 ag.length a3)] 34 (0, 0))) ∧ Aside0 (Below w.heap.size w wc))
       case first =>
        have H := fs.out; clear fs; replace H := bi_ H; obtain ⟨a6, A620, H⟩ := H
        replace H : (if a6 = true then (if bu = 0 then ((lodgerref09_Has.f kj4 l1 a4).bind fun aY => (lodgerref11_Legal.j1 kj4 l1 a4 aY)) else (lodgerref11_Legal.j1 kj4 l1 a4 true)) else (lodgerref11_Legal.j1 kj4 l1 a4 true)) = some (r1, r2) := H
        have A62 := Aside0.mk A620; clear A620
        by_cases c63 : a6 = true
        ·subst c63
         have H1 : (if bu = 0 then ((lodgerref09_Has.f kj4 l1 a4).bind fun aY => (lodgerref11_Legal.j1 kj4 l1 a4 aY)) else (lodgerref11_Legal.j1 kj4 l1 a4 true)) = some (r1, r2) := pf_ rfl H
         clear H; have H := H1; clear H1
         by_cases c64 : bu = 0
         ·rw [if_pos c64] at H
          have bs : (bu == 0) = true := beq_iff_eq.mpr c64
          have fk : (bu != 0) = false := bne_eq_false_iff_eq.mpr c64
          clear c64
          (first | rw [bs] | (simp only [i64_w, i32_w]; rw [bs]) | skip)
          replace H := bi_ H; obtain ⟨aY, A650, H⟩ := H
          replace H : (lodgerref11_Legal.j1 kj4 l1 a4 aY) = some (r1, r2) := H
          have A65 := Aside0.mk A650; clear A650
          have H' := Aside0.mk H
          clear H; have sT := ay.out; have tq := ax.out; have sU := aw.out; have tr := av.out; obtain ⟨dx, dy, dz, dA, dB, e1, e2, e3, e4, e5⟩ := cz5_ (w := w61) ac
          go_wp2_with (first | ((with_reducible refine gate_callee (f := 18) rfl ?_); refine gL_ (some 69) Tryd.func18 #[.agg #[.int .i64 ah, .int .u32 ae, .bool ai, .slice a0 af.length a2, .slice a1 ag.length a3], .agg #[.int .i64 0, .int .u32 ae, .bool false, .slice none 0 0, .slice none 0 0]] ?_; (refine (lodgerref08_Answers.calls kj4 ah ae ai _ _ af _ _ ag 0 ae false _ _ ([] : List Int) _ _ ([] : List Int) true _ ?side1 ?side2 ?side3 ?side4 ?side5 ?side6 ?side7 ?side8 A62.out).mono ?_); (case side1 => exact cC_ aK HB); (case side2 => exact aI.out); (case side3 => exact cC_ aM HB); (case side4 => exact aJ.out); (case side5 => exact Kd.C_nil _ _); (case side6 => exact Nat.le_refl _); (case side7 => exact Kd.C_nil _ _); (case side8 => exact Nat.le_refl _); rintro e w69 ⟨rfl, hb⟩; refine ⟨_, rfl, ?_⟩; replace ad := vB_ ad hb; replace ab := bB_ ab hb; replace HB := hS_ HB hb; replace aa := bB_ aa hb; replace ac := bB_ ac hb; (try clear hb)) | (go_at_call 21; (with_reducible refine (lodgerref09_Has.calls kj4 _ _ l1 a4 aY _ (cD_ (Kd.V_reads' ad.out).2.2) ((Kd.V_reads' ad.out).2.1) A65.out).mono ?_); rintro e w' ⟨rfl, ⟨nd, rfl⟩⟩))
          go_meet
          case rel => exact ⟨_, (aY), rs_, H', ⟨by have := b7.out; first | omega | exact Nat.le_refl _⟩, ⟨vV_ ad⟩, ⟨bk_ aa⟩, ⟨bk_ ab⟩, ⟨bk_ ac⟩, ⟨hB_ HB⟩⟩
         ·rw [if_neg c64] at H
          have bs : (bu == 0) = false := beq_eq_false_iff_ne.mpr c64
          have fk : (bu != 0) = true := bne_iff_ne.mpr c64
          (first | rw [bs] | (simp only [i64_w, i32_w]; rw [bs]) | skip)
          have H' := Aside0.mk H
          clear H; have sV := ay.out; have ts := ax.out; have sW := aw.out; have tt := av.out; obtain ⟨dC, dD, dE, dF, dG, e6, e7, e8, e9, fa⟩ := cz5_ (w := w61) ac
          go_wp2_with (first | ((with_reducible refine gate_callee (f := 18) rfl ?_); refine gL_ (some 69) Tryd.func18 #[.agg #[.int .i64 ah, .int .u32 ae, .bool ai, .slice a0 af.length a2, .slice a1 ag.length a3], .agg #[.int .i64 0, .int .u32 ae, .bool false, .slice none 0 0, .slice none 0 0]] ?_; (refine (lodgerref08_Answers.calls kj4 ah ae ai _ _ af _ _ ag 0 ae false _ _ ([] : List Int) _ _ ([] : List Int) true _ ?side1 ?side2 ?side3 ?side4 ?side5 ?side6 ?side7 ?side8 A62.out).mono ?_); (case side1 => exact cC_ aK HB); (case side2 => exact aI.out); (case side3 => exact cC_ aM HB); (case side4 => exact aJ.out); (case side5 => exact Kd.C_nil _ _); (case side6 => exact Nat.le_refl _); (case side7 => exact Kd.C_nil _ _); (case side8 => exact Nat.le_refl _); rintro e w73 ⟨rfl, hb⟩; refine ⟨_, rfl, ?_⟩; replace ad := vB_ ad hb; replace ab := bB_ ab hb; replace HB := hS_ HB hb; replace aa := bB_ aa hb; replace ac := bB_ ac hb; (try clear hb)))
          go_meet
          case rel => exact ⟨_, (true), rs_, H', ⟨by have := b7.out; first | omega | exact Nat.le_refl _⟩, ⟨vV_ ad⟩, ⟨bk_ aa⟩, ⟨bk_ ab⟩, ⟨bk_ ac⟩, ⟨hB_ HB⟩⟩
        ·replace c63 := Bool.eq_false_iff.mpr c63
         subst c63
         have H1 : (lodgerref11_Legal.j1 kj4 l1 a4 true) = some (r1, r2) := nf_ H
         clear H; have H := H1; clear H1
         have H' := Aside0.mk H
         clear H; have sX := ay.out; have tu := ax.out; have sY := aw.out; have tw := av.out; obtain ⟨dH, dI, dJ, dK, dL, fb, fc, fd, fe, ff⟩ := cz5_ (w := w61) ac
         go_wp2_with (first | ((with_reducible refine gate_callee (f := 18) rfl ?_); refine gL_ (some 69) Tryd.func18 #[.agg #[.int .i64 ah, .int .u32 ae, .bool ai, .slice a0 af.length a2, .slice a1 ag.length a3], .agg #[.int .i64 0, .int .u32 ae, .bool false, .slice none 0 0, .slice none 0 0]] ?_; (refine (lodgerref08_Answers.calls kj4 ah ae ai _ _ af _ _ ag 0 ae false _ _ ([] : List Int) _ _ ([] : List Int) false _ ?side1 ?side2 ?side3 ?side4 ?side5 ?side6 ?side7 ?side8 A62.out).mono ?_); (case side1 => exact cC_ aK HB); (case side2 => exact aI.out); (case side3 => exact cC_ aM HB); (case side4 => exact aJ.out); (case side5 => exact Kd.C_nil _ _); (case side6 => exact Nat.le_refl _); (case side7 => exact Kd.C_nil _ _); (case side8 => exact Nat.le_refl _); rintro e w77 ⟨rfl, hb⟩; refine ⟨_, rfl, ?_⟩; replace ad := vB_ ad hb; replace ab := bB_ ab hb; replace HB := hS_ HB hb; replace aa := bB_ aa hb; replace ac := bB_ ac hb; (try clear hb)))
         go_meet
         case rel => exact ⟨_, (true), rs_, H', ⟨by have := b7.out; first | omega | exact Nat.le_refl _⟩, ⟨vV_ ad⟩, ⟨bk_ aa⟩, ⟨bk_ ab⟩, ⟨bk_ ac⟩, ⟨hB_ HB⟩⟩
       case rest =>
        clear fs
        try clear c1
        try clear c2
        try clear p2
        try clear c3
        try clear c4
        try clear c5
        try clear c6
        try clear c7
        try clear c10
        try clear c11
        try clear c12
        try clear c14
        try clear c16
        try clear c17
        try clear c18
        try clear c21
        try clear c22
        try clear c24
        try clear fg
        try clear fh
        try clear c25
        try clear c27
        try clear fi
        try clear fj
        try clear c29
        try clear c31
        try clear c32
        try clear c34
        try clear c36
        try clear c37
        try clear c47
        try clear c48
        try clear c50
        try clear c63
        try clear c64
        try clear bs
        try clear fk
        try clear c66
        try clear c67
        try clear c70
        try clear c71
        try clear c74
        try clear c75
        try clear bz bA bB bC bD
        try clear bE bF bG bH bI
        try clear bJ bK bL bM bN
        try clear b8 b9 ca cb cc cd ce
        try clear cf cg ch
        try clear ci cj ck cl cm cn co
        try clear cp cq cr
        try clear ct cu cv
        try clear cw cx cy cz cA
        try clear cB cC cD cE cF cG cH
        try clear cI cJ cK cL cM cN cO
        try clear cP cQ cR
        try clear cS cT cU cV cW cX cY
        try clear cZ c0 da
        try clear db dc dd
        try clear de df dg dh di
        try clear dj dk dl dm dn dp dq
        try clear dr dt du dv dw
        try clear dx dy dz dA dB
        try clear dC dD dE dF dG
        try clear dH dI dJ dK dL
        try clear bO bP bQ bR bS
        try clear bT bU bV bW bX
        try clear bY bZ b0 b1 b2
        try clear dM dN dO dP dQ dR dS
        try clear dT dU dV
        try clear dW dX dY dZ d0 d1 d2
        try clear d3 d4 d5
        try clear d6 d7 d8
        try clear d9 ea eb ec ed
        try clear ee ef eg eh ei ej ek
        try clear el em en eo ep er et
        try clear eu ev ew
        try clear ex ey ez eA eB eC eD
        try clear eE eF eG
        try clear eH eI eJ
        try clear eK eL eM eN eO
        try clear eP eQ eR eS eT eU eV
        try clear eW eX eY eZ e0
        try clear e1 e2 e3 e4 e5
        try clear e6 e7 e8 e9 fa
        try clear fb fc fd fe ff
        try clear p2
        obtain ⟨kq, bw, rfl, HA, tB, ad, aa, ab, ac, HB⟩ := hcut
        cases kq with
        | zero => exact absurd HA.out (by simp [lodgerref11_Legal.j1])
        | succ kj45 =>
         have H := HA.out; clear HA; simp only [lodgerref11_Legal.j1] at H
         by_cases c78 : bw = true
         ·subst c78
          have H1 : (some (l1, false)) = some (r1, r2) := pf_ rfl H
          clear H; have H := H1; clear H1; simp only [Option.some.injEq, Prod.mk.injEq] at H; obtain ⟨rfl, rfl⟩ := H
          go_wp2
          go_ret2
          exact ⟨_, er_, Kd.V_mono (vV_ ad) (fun _ hk => hk.1), hB_ HB⟩
         ·replace c78 := Bool.eq_false_iff.mpr c78
          subst c78
          have H1 : ((lodgerref09_With.f kj45 l1 a4).bind fun fm => (some (fm, true))) = some (r1, r2) := nf_ H
          clear H; have H := H1; clear H1; replace H := bi_ H; obtain ⟨fm, A790, H⟩ := H
          replace H : (some (fm, true)) = some (r1, r2) := H
          have A79 := Aside0.mk A790; clear A790; simp only [Option.some.injEq, Prod.mk.injEq] at H; obtain ⟨rfl, rfl⟩ := H
          go_wp2_with (first | ((with_reducible refine gate_callee (f := 23) rfl ?_); refine gM_ (some 83) Tryd.func23 (lodgerref09_With.calls kj45 _ _ l1 a4 fm _ (cD_ (Kd.V_reads' ad.out).2.2) ((Kd.V_reads' ad.out).2.1) A79.out) ?_; rintro e w80 ⟨v604, rfl, ho0, hb⟩; refine ⟨_, rfl, ?_⟩; replace ad := Aside0.mk (Kd.V_elder' (vV_ ad) (Kd.R_base ho0) hb); have mg := Aside0.mk (Kd.R_lower (Kd.R_newM (M := fun k_ => (w.heap.size ≤ k_)) ho0 (below_size (hB_ HB)) (fun k_ h_ => h_)) (below_size (hB_ HB))); replace ab := bB_ ab hb; replace HB := hS_ HB hb; replace aa := bB_ aa hb; replace ac := bB_ ac hb; (try clear hb); (try clear ho0)))
          go_ret2
          exact ⟨_, er_, Kd.V_mono (Kd.R_V (Kd.R_mono (rR_ mg) (fun _ hk => hk.1))) (fun k_ hk => by first | exact ⟨(.inr (hk.1)), hk.2⟩ | exact (.inr (hk))), hB_ HB⟩
     ·rw [if_neg c27] at H
      have fi : (aj == 1) = false := beq_eq_false_iff_ne.mpr c27
      have fj : (aj != 1) = true := bne_iff_ne.mpr c27
      by_cases c81 : aj = 2
      ·rw [if_pos c81] at H
       have k4 : (aj == 2) = true := beq_iff_eq.mpr c81
       have k5 : (aj != 2) = false := bne_eq_false_iff_eq.mpr c81
       clear c81
       by_cases c82 : aN = true
       ·subst c82
        have H1 : ((lodgerref11_only.f kj4 ah ae ai af ag 5).bind fun be => (some (l1, be))) = some (r1, r2) := pf_ rfl H
        clear H; have H := H1; clear H1; replace H := bi_ H; obtain ⟨be, A830, H⟩ := H
        replace H : (some (l1, be)) = some (r1, r2) := H
        have A83 := Aside0.mk A830; clear A830; simp only [Option.some.injEq, Prod.mk.injEq] at H; obtain ⟨rfl, rfl⟩ := H; have sZ := az.out; have tx := aA.out; have ta := ax.out; have ty := ay.out; obtain ⟨k6, k7, k8, k9, la, lb, lc, lA, lB, lC, lD, lE, lF, lG⟩ := cz7_ (w := wc) aa; have tb := av.out; have tz := aw.out; obtain ⟨ld, lf, lg, lH, lI, lJ⟩ := cz3_ (w := wc) ab
        go_wp2_with (first | ((with_reducible refine gate_callee (f := 25) rfl ?_); refine gM_ (some 30) Tryd.func25 (lodgerref10_Check.calls kj4 ak al _ _ am ao ap aq ar aj an _ _ au aQ _ (cC_ aV HB) aU.out (cC_ aZ HB) a5.out A23.out) ?_; rintro e w89 ⟨rfl, hb⟩; refine ⟨_, rfl, ?_⟩; replace ad := vB_ ad hb; replace ab := bB_ ab hb; replace HB := hS_ HB hb; replace aa := bB_ aa hb; replace ac := bB_ ac hb; (try clear hb); obtain ⟨lh, li, lj, lk, ll, lm, ln, lK, lL, lM, lN, lO, lP, lQ⟩ := cz7_ (w := w89) aa; obtain ⟨lo, lp, lq, lR, lS, lT⟩ := cz3_ (w := w89) ab) | ((with_reducible refine gate_callee (f := 37) rfl ?_); refine gM_ (some 42) Tryd.func37 (lodgerref05_Offset.calls kj4 ak al an aE bd _ A25.out) ?_; rintro e w92 ⟨rfl, hb⟩; refine ⟨_, rfl, ?_⟩; replace ad := vB_ ad hb; replace ab := bB_ ab hb; replace HB := hS_ HB hb; replace aa := bB_ aa hb; replace ac := bB_ ac hb; (try clear hb)) | ((with_reducible refine gate_callee (f := 21) rfl ?_); refine gM_ (some 47) Tryd.func21 (lodgerref09_Has.calls kj4 _ _ l1 aE true _ (cD_ (Kd.V_reads' ad.out).2.2) ((Kd.V_reads' ad.out).2.1) A26.out) ?_; rintro e w' ⟨rfl, ⟨nd, rfl⟩⟩; refine ⟨_, rfl, ?_⟩; obtain ⟨lr, ls, lu, lU, lV, lW⟩ := cz3_ (w := w92) ab; obtain ⟨lv, lw, lx, ly, lz, lX, lY, lZ, l2, l3⟩ := cz5_ (w := w92) ac) | ((with_reducible refine gate_callee (f := 36) rfl ?_); refine gM_ (some 89) Tryd.func36 (lodgerref11_only.calls kj4 ah ae ai _ _ af _ _ ag 5 be _ (cD_ (Kd.C_below aK.out (hB_ HB))) aI.out (cD_ (Kd.C_below aM.out (hB_ HB))) aJ.out A83.out) ?_; rintro e w95 ⟨rfl, hb⟩; refine ⟨_, rfl, ?_⟩; replace ad := vB_ ad hb; replace ab := bB_ ab hb; replace HB := hS_ HB hb; replace aa := bB_ aa hb; replace ac := bB_ ac hb; (try clear hb)))
        go_ret2
        exact ⟨_, er_, Kd.V_mono (vV_ ad) (fun _ hk => hk.1), hB_ HB⟩
       ·replace c82 := Bool.eq_false_iff.mpr c82
        subst c82
        have H1 : ((lodgerref08_Answers.f kj4 ah ae ai af ag 0 an false ([] : List Int) ([] : List Int)).bind fun bf => (if bf = true then ((lodgerref09_With.f kj4 l1 aE).bind fun a7 => (some (a7, true))) else (some (l1, false)))) = some (r1, r2) := nf_ H
        clear H; have H := H1; clear H1; replace H := bi_ H; obtain ⟨bf, A960, H⟩ := H
        replace H : (if bf = true then ((lodgerref09_With.f kj4 l1 aE).bind fun a7 => (some (a7, true))) else (some (l1, false))) = some (r1, r2) := H
        have A96 := Aside0.mk A960; clear A960
        by_cases c97 : bf = true
        ·subst c97
         have H1 : ((lodgerref09_With.f kj4 l1 aE).bind fun a7 => (some (a7, true))) = some (r1, r2) := pf_ rfl H
         clear H; have H := H1; clear H1; replace H := bi_ H; obtain ⟨a7, A980, H⟩ := H
         replace H : (some (a7, true)) = some (r1, r2) := H
         have A98 := Aside0.mk A980; clear A980; simp only [Option.some.injEq, Prod.mk.injEq] at H; obtain ⟨rfl, rfl⟩ := H; have tc := az.out; have tA := aA.out; have q8 := ax.out; have rQ := ay.out; obtain ⟨ft, fu, fv, fw, fx, fy, fz, ij, ik, il, im, io, ip, iq⟩ := cz7_ (w := wc) aa; have q9 := av.out; have rR := aw.out; obtain ⟨fA, fB, fC, ir, it, iu⟩ := cz3_ (w := wc) ab
         go_wp2_with (first | ((with_reducible refine gate_callee (f := 25) rfl ?_); refine gM_ (some 30) Tryd.func25 (lodgerref10_Check.calls kj4 ak al _ _ am ao ap aq ar aj an _ _ au aQ _ (cC_ aV HB) aU.out (cC_ aZ HB) a5.out A23.out) ?_; rintro e w104 ⟨rfl, hb⟩; refine ⟨_, rfl, ?_⟩; replace ad := vB_ ad hb; replace ab := bB_ ab hb; replace HB := hS_ HB hb; replace aa := bB_ aa hb; replace ac := bB_ ac hb; (try clear hb); obtain ⟨fD, fE, fF, fG, fH, fI, fJ, iv, iw, ix, iy, iz, iA, iB⟩ := cz7_ (w := w104) aa; obtain ⟨fK, fL, fM, iC, iD, iE⟩ := cz3_ (w := w104) ab) | ((with_reducible refine gate_callee (f := 37) rfl ?_); refine gM_ (some 42) Tryd.func37 (lodgerref05_Offset.calls kj4 ak al an aE bd _ A25.out) ?_; rintro e w107 ⟨rfl, hb⟩; refine ⟨_, rfl, ?_⟩; replace ad := vB_ ad hb; replace ab := bB_ ab hb; replace HB := hS_ HB hb; replace aa := bB_ aa hb; replace ac := bB_ ac hb; (try clear hb)) | ((with_reducible refine gate_callee (f := 21) rfl ?_); refine gM_ (some 47) Tryd.func21 (lodgerref09_Has.calls kj4 _ _ l1 aE false _ (cD_ (Kd.V_reads' ad.out).2.2) ((Kd.V_reads' ad.out).2.1) A26.out) ?_; rintro e w' ⟨rfl, ⟨nd, rfl⟩⟩; refine ⟨_, rfl, ?_⟩; obtain ⟨fN, fO, fP, iF, iG, iH⟩ := cz3_ (w := w107) ab; obtain ⟨fQ, fR, fS, fT, fU, iI, iJ, iK, iL, iM⟩ := cz5_ (w := w107) ac) | ((with_reducible refine gate_callee (f := 18) rfl ?_); refine gL_ (some 94) Tryd.func18 #[.agg #[.int .i64 ah, .int .u32 ae, .bool ai, .slice a0 af.length a2, .slice a1 ag.length a3], .agg #[.int .i64 0, .int .u32 an, .bool false, .slice none 0 0, .slice none 0 0]] ?_; (refine (lodgerref08_Answers.calls kj4 ah ae ai _ _ af _ _ ag 0 an false _ _ ([] : List Int) _ _ ([] : List Int) true _ ?side1 ?side2 ?side3 ?side4 ?side5 ?side6 ?side7 ?side8 A96.out).mono ?_); (case side1 => exact cD_ (Kd.C_below aK.out (hB_ HB))); (case side2 => exact aI.out); (case side3 => exact cD_ (Kd.C_below aM.out (hB_ HB))); (case side4 => exact aJ.out); (case side5 => exact Kd.C_nil _ _); (case side6 => exact Nat.le_refl _); (case side7 => exact Kd.C_nil _ _); (case side8 => exact Nat.le_refl _); rintro e w110 ⟨rfl, hb⟩; refine ⟨_, rfl, ?_⟩; replace ad := vB_ ad hb; replace ab := bB_ ab hb; replace HB := hS_ HB hb; replace aa := bB_ aa hb; replace ac := bB_ ac hb; (try clear hb)) | ((with_reducible refine gate_callee (f := 23) rfl ?_); refine gM_ (some 99) Tryd.func23 (lodgerref09_With.calls kj4 _ _ l1 aE a7 _ (cD_ (Kd.V_reads' ad.out).2.2) ((Kd.V_reads' ad.out).2.1) A98.out) ?_; rintro e w111 ⟨v609, rfl, ho0, hb⟩; refine ⟨_, rfl, ?_⟩; replace ad := Aside0.mk (Kd.V_elder' (vV_ ad) (Kd.R_base ho0) hb); have mh := Aside0.mk (Kd.R_lower (Kd.R_newM (M := fun k_ => (w.heap.size ≤ k_)) ho0 (below_size (hB_ HB)) (fun k_ h_ => h_)) (below_size (hB_ HB))); replace ab := bB_ ab hb; replace HB := hS_ HB hb; replace aa := bB_ aa hb; replace ac := bB_ ac hb; (try clear hb); (try clear ho0)))
         go_ret2
         exact ⟨_, er_, Kd.V_mono (Kd.R_V (Kd.R_mono (rR_ mh) (fun _ hk => hk.1))) (fun k_ hk => by first | exact ⟨(.inr (hk.1)), hk.2⟩ | exact (.inr (hk))), hB_ HB⟩
        ·replace c97 := Bool.eq_false_iff.mpr c97
         subst c97
         have H1 : (some (l1, false)) = some (r1, r2) := nf_ H
         clear H; have H := H1; clear H1; simp only [Option.some.injEq, Prod.mk.injEq] at H; obtain ⟨rfl, rfl⟩ := H; have ra := az.out; have rS := aA.out; have rb := ax.out; have rT := ay.out; obtain ⟨fV, fW, fX, fY, fZ, f0, f1, iN, iO, iP, iQ, iR, iS, iT⟩ := cz7_ (w := wc) aa; have rc := av.out; have rU := aw.out; obtain ⟨f2, f3, f4, iU, iV, iW⟩ := cz3_ (w := wc) ab
         go_wp2_with (first | ((with_reducible refine gate_callee (f := 25) rfl ?_); refine gM_ (some 30) Tryd.func25 (lodgerref10_Check.calls kj4 ak al _ _ am ao ap aq ar aj an _ _ au aQ _ (cC_ aV HB) aU.out (cC_ aZ HB) a5.out A23.out) ?_; rintro e w117 ⟨rfl, hb⟩; refine ⟨_, rfl, ?_⟩; replace ad := vB_ ad hb; replace ab := bB_ ab hb; replace HB := hS_ HB hb; replace aa := bB_ aa hb; replace ac := bB_ ac hb; (try clear hb); obtain ⟨f5, f6, f7, f8, f9, ga, gb, iX, iY, iZ, i0, i1, i2, i3⟩ := cz7_ (w := w117) aa; obtain ⟨gc, gd, gf, i4, i5, i6⟩ := cz3_ (w := w117) ab) | ((with_reducible refine gate_callee (f := 37) rfl ?_); refine gM_ (some 42) Tryd.func37 (lodgerref05_Offset.calls kj4 ak al an aE bd _ A25.out) ?_; rintro e w120 ⟨rfl, hb⟩; refine ⟨_, rfl, ?_⟩; replace ad := vB_ ad hb; replace ab := bB_ ab hb; replace HB := hS_ HB hb; replace aa := bB_ aa hb; replace ac := bB_ ac hb; (try clear hb)) | ((with_reducible refine gate_callee (f := 21) rfl ?_); refine gM_ (some 47) Tryd.func21 (lodgerref09_Has.calls kj4 _ _ l1 aE false _ (cD_ (Kd.V_reads' ad.out).2.2) ((Kd.V_reads' ad.out).2.1) A26.out) ?_; rintro e w' ⟨rfl, ⟨nd, rfl⟩⟩; refine ⟨_, rfl, ?_⟩; obtain ⟨gg, gh, gi, i7, i8, i9⟩ := cz3_ (w := w120) ab; obtain ⟨gj, gl, gm, gn, go, ja, jb, jc, jd, je⟩ := cz5_ (w := w120) ac) | ((with_reducible refine gate_callee (f := 18) rfl ?_); refine gL_ (some 94) Tryd.func18 #[.agg #[.int .i64 ah, .int .u32 ae, .bool ai, .slice a0 af.length a2, .slice a1 ag.length a3], .agg #[.int .i64 0, .int .u32 an, .bool false, .slice none 0 0, .slice none 0 0]] ?_; (refine (lodgerref08_Answers.calls kj4 ah ae ai _ _ af _ _ ag 0 an false _ _ ([] : List Int) _ _ ([] : List Int) false _ ?side1 ?side2 ?side3 ?side4 ?side5 ?side6 ?side7 ?side8 A96.out).mono ?_); (case side1 => exact cD_ (Kd.C_below aK.out (hB_ HB))); (case side2 => exact aI.out); (case side3 => exact cD_ (Kd.C_below aM.out (hB_ HB))); (case side4 => exact aJ.out); (case side5 => exact Kd.C_nil _ _); (case side6 => exact Nat.le_refl _); (case side7 => exact Kd.C_nil _ _); (case side8 => exact Nat.le_refl _); rintro e w123 ⟨rfl, hb⟩; refine ⟨_, rfl, ?_⟩; replace ad := vB_ ad hb; replace ab := bB_ ab hb; replace HB := hS_ HB hb; replace aa := bB_ aa hb; replace ac := bB_ ac hb; (try clear hb)))
         go_ret2
         exact ⟨_, er_, Kd.V_mono (vV_ ad) (fun _ hk => hk.1), hB_ HB⟩
      ·rw [if_neg c81] at H
       have k4 : (aj == 2) = false := beq_eq_false_iff_ne.mpr c81
       have k5 : (aj != 2) = true := bne_iff_ne.mpr c81
       by_cases c124 : aj = 3
       ·rw [if_pos c124] at H
        have fo : (aj == 3) = true := beq_iff_eq.mpr c124
        have fp : (aj != 3) = false := bne_eq_false_iff_eq.mpr c124
        clear c124
        by_cases c125 : aN = true
        ·subst c125
         have H1 : ((lodgerref11_only.f kj4 ah ae ai af ag 0).bind fun bh => (if bh = true then ((lodgerref09_Without.f kj4 l1 aE).bind fun a8 => (some (a8, true))) else (some (l1, false)))) = some (r1, r2) := pf_ rfl H
         clear H; have H := H1; clear H1; replace H := bi_ H; obtain ⟨bh, A1260, H⟩ := H
         replace H : (if bh = true then ((lodgerref09_Without.f kj4 l1 aE).bind fun a8 => (some (a8, true))) else (some (l1, false))) = some (r1, r2) := H
         have A126 := Aside0.mk A1260; clear A1260
         by_cases c127 : bh = true
         ·subst c127
          have H1 : ((lodgerref09_Without.f kj4 l1 aE).bind fun a8 => (some (a8, true))) = some (r1, r2) := pf_ rfl H
          clear H; have H := H1; clear H1; replace H := bi_ H; obtain ⟨a8, A1280, H⟩ := H
          replace H : (some (a8, true)) = some (r1, r2) := H
          have A128 := Aside0.mk A1280; clear A1280; simp only [Option.some.injEq, Prod.mk.injEq] at H; obtain ⟨rfl, rfl⟩ := H; have re := az.out; have rV := aA.out; have rf := ax.out; have rW := ay.out; obtain ⟨gp, gq, gr, gs, gt, gu, gv, jf, jg, jh, ji, jj, jk, jl⟩ := cz7_ (w := wc) aa; have rg := av.out; have rX := aw.out; obtain ⟨gw, gx, gy, jm, jn, jo⟩ := cz3_ (w := wc) ab
          go_wp2_with (first | ((with_reducible refine gate_callee (f := 25) rfl ?_); refine gM_ (some 30) Tryd.func25 (lodgerref10_Check.calls kj4 ak al _ _ am ao ap aq ar aj an _ _ au aQ _ (cC_ aV HB) aU.out (cC_ aZ HB) a5.out A23.out) ?_; rintro e w134 ⟨rfl, hb⟩; refine ⟨_, rfl, ?_⟩; replace ad := vB_ ad hb; replace ab := bB_ ab hb; replace HB := hS_ HB hb; replace aa := bB_ aa hb; replace ac := bB_ ac hb; (try clear hb); obtain ⟨gz, gA, gB, gC, gD, gE, gF, jp, jq, jr, js, jt, ju, jv⟩ := cz7_ (w := w134) aa; obtain ⟨gG, gH, gI, jw, jx, jy⟩ := cz3_ (w := w134) ab) | ((with_reducible refine gate_callee (f := 37) rfl ?_); refine gM_ (some 42) Tryd.func37 (lodgerref05_Offset.calls kj4 ak al an aE bd _ A25.out) ?_; rintro e w137 ⟨rfl, hb⟩; refine ⟨_, rfl, ?_⟩; replace ad := vB_ ad hb; replace ab := bB_ ab hb; replace HB := hS_ HB hb; replace aa := bB_ aa hb; replace ac := bB_ ac hb; (try clear hb)) | ((with_reducible refine gate_callee (f := 21) rfl ?_); refine gM_ (some 47) Tryd.func21 (lodgerref09_Has.calls kj4 _ _ l1 aE true _ (cD_ (Kd.V_reads' ad.out).2.2) ((Kd.V_reads' ad.out).2.1) A26.out) ?_; rintro e w' ⟨rfl, ⟨nd, rfl⟩⟩; refine ⟨_, rfl, ?_⟩; obtain ⟨gJ, gK, gL, jz, jA, jB⟩ := cz3_ (w := w137) ab; obtain ⟨gM, gN, gO, gP, gQ, jC, jD, jE, jF, jG⟩ := cz5_ (w := w137) ac) | ((with_reducible refine gate_callee (f := 36) rfl ?_); refine gM_ (some 108) Tryd.func36 (lodgerref11_only.calls kj4 ah ae ai _ _ af _ _ ag 0 true _ (cD_ (Kd.C_below aK.out (hB_ HB))) aI.out (cD_ (Kd.C_below aM.out (hB_ HB))) aJ.out A126.out) ?_; rintro e w140 ⟨rfl, hb⟩; refine ⟨_, rfl, ?_⟩; replace ad := vB_ ad hb; replace ab := bB_ ab hb; replace HB := hS_ HB hb; replace aa := bB_ aa hb; replace ac := bB_ ac hb; (try clear hb)) | ((with_reducible refine gate_callee (f := 38) rfl ?_); refine gM_ (some 113) Tryd.func38 (lodgerref09_Without.calls kj4 _ _ l1 aE a8 _ (cD_ (Kd.V_reads' ad.out).2.2) ((Kd.V_reads' ad.out).2.1) A128.out) ?_; rintro e w141 ⟨v614, rfl, ho0, hb⟩; refine ⟨_, rfl, ?_⟩; replace ad := Aside0.mk (Kd.V_elder' (vV_ ad) (Kd.R_base ho0) hb); have mi := Aside0.mk (Kd.R_lower (Kd.R_newM (M := fun k_ => (w.heap.size ≤ k_)) ho0 (below_size (hB_ HB)) (fun k_ h_ => h_)) (below_size (hB_ HB))); replace ab := bB_ ab hb; replace HB := hS_ HB hb; replace aa := bB_ aa hb; replace ac := bB_ ac hb; (try clear hb); (try clear ho0)))
          go_ret2
          exact ⟨_, er_, Kd.V_mono (Kd.R_V (Kd.R_mono (rR_ mi) (fun _ hk => hk.1))) (fun k_ hk => by first | exact ⟨(.inr (hk.1)), hk.2⟩ | exact (.inr (hk))), hB_ HB⟩
         ·replace c127 := Bool.eq_false_iff.mpr c127
          subst c127
          have H1 : (some (l1, false)) = some (r1, r2) := nf_ H
          clear H; have H := H1; clear H1; simp only [Option.some.injEq, Prod.mk.injEq] at H; obtain ⟨rfl, rfl⟩ := H; have rh := az.out; have rY := aA.out; have ri := ax.out; have rZ := ay.out; obtain ⟨gR, gS, gT, gU, gV, gW, gX, jH, jI, jJ, jK, jL, jM, jN⟩ := cz7_ (w := wc) aa; have rj := av.out; have r0 := aw.out; obtain ⟨gY, gZ, g0, jO, jP, jQ⟩ := cz3_ (w := wc) ab
          go_wp2_with (first | ((with_reducible refine gate_callee (f := 25) rfl ?_); refine gM_ (some 30) Tryd.func25 (lodgerref10_Check.calls kj4 ak al _ _ am ao ap aq ar aj an _ _ au aQ _ (cC_ aV HB) aU.out (cC_ aZ HB) a5.out A23.out) ?_; rintro e w147 ⟨rfl, hb⟩; refine ⟨_, rfl, ?_⟩; replace ad := vB_ ad hb; replace ab := bB_ ab hb; replace HB := hS_ HB hb; replace aa := bB_ aa hb; replace ac := bB_ ac hb; (try clear hb); obtain ⟨g1, g2, g3, g4, g5, g6, g7, jR, jS, jT, jU, jV, jW, jX⟩ := cz7_ (w := w147) aa; obtain ⟨g8, g9, ha, jY, jZ, j2⟩ := cz3_ (w := w147) ab) | ((with_reducible refine gate_callee (f := 37) rfl ?_); refine gM_ (some 42) Tryd.func37 (lodgerref05_Offset.calls kj4 ak al an aE bd _ A25.out) ?_; rintro e w150 ⟨rfl, hb⟩; refine ⟨_, rfl, ?_⟩; replace ad := vB_ ad hb; replace ab := bB_ ab hb; replace HB := hS_ HB hb; replace aa := bB_ aa hb; replace ac := bB_ ac hb; (try clear hb)) | ((with_reducible refine gate_callee (f := 21) rfl ?_); refine gM_ (some 47) Tryd.func21 (lodgerref09_Has.calls kj4 _ _ l1 aE true _ (cD_ (Kd.V_reads' ad.out).2.2) ((Kd.V_reads' ad.out).2.1) A26.out) ?_; rintro e w' ⟨rfl, ⟨nd, rfl⟩⟩; refine ⟨_, rfl, ?_⟩; obtain ⟨hc, he, hf, j3, j4, j5⟩ := cz3_ (w := w150) ab; obtain ⟨hh, hj, hl, hm, hn, j6, j7, j8, j9, ka⟩ := cz5_ (w := w150) ac) | ((with_reducible refine gate_callee (f := 36) rfl ?_); refine gM_ (some 108) Tryd.func36 (lodgerref11_only.calls kj4 ah ae ai _ _ af _ _ ag 0 false _ (cD_ (Kd.C_below aK.out (hB_ HB))) aI.out (cD_ (Kd.C_below aM.out (hB_ HB))) aJ.out A126.out) ?_; rintro e w153 ⟨rfl, hb⟩; refine ⟨_, rfl, ?_⟩; replace ad := vB_ ad hb; replace ab := bB_ ab hb; replace HB := hS_ HB hb; replace aa := bB_ aa hb; replace ac := bB_ ac hb; (try clear hb)))
          go_ret2
          exact ⟨_, er_, Kd.V_mono (vV_ ad) (fun _ hk => hk.1), hB_ HB⟩
        ·replace c125 := Bool.eq_false_iff.mpr c125
         subst c125
         have H1 : ((lodgerref11_only.f kj4 ah ae ai af ag 6).bind fun bg => (some (l1, bg))) = some (r1, r2) := nf_ H
         clear H; have H := H1; clear H1; replace H := bi_ H; obtain ⟨bg, A1540, H⟩ := H
         replace H : (some (l1, bg)) = some (r1, r2) := H
         have A154 := Aside0.mk A1540; clear A1540; simp only [Option.some.injEq, Prod.mk.injEq] at H; obtain ⟨rfl, rfl⟩ := H; have rk := az.out; have r3 := aA.out; have rl := ax.out; have r4 := ay.out; obtain ⟨hp, hq, hs, ht, hu, hv, hw, kb, kc, kd, ke, kf, kg, kh⟩ := cz7_ (w := wc) aa; have rm := av.out; have r5 := aw.out; obtain ⟨hx, hy, hz, ki, kj, kk⟩ := cz3_ (w := wc) ab
         go_wp2_with (first | ((with_reducible refine gate_callee (f := 25) rfl ?_); refine gM_ (some 30) Tryd.func25 (lodgerref10_Check.calls kj4 ak al _ _ am ao ap aq ar aj an _ _ au aQ _ (cC_ aV HB) aU.out (cC_ aZ HB) a5.out A23.out) ?_; rintro e w160 ⟨rfl, hb⟩; refine ⟨_, rfl, ?_⟩; replace ad := vB_ ad hb; replace ab := bB_ ab hb; replace HB := hS_ HB hb; replace aa := bB_ aa hb; replace ac := bB_ ac hb; (try clear hb); obtain ⟨hA, hB, hC, hD, hE, hF, hG, kl, km, kn, ko, kp, kr, ks⟩ := cz7_ (w := w160) aa; obtain ⟨hH, hI, hJ, kt, ku, kv⟩ := cz3_ (w := w160) ab) | ((with_reducible refine gate_callee (f := 37) rfl ?_); refine gM_ (some 42) Tryd.func37 (lodgerref05_Offset.calls kj4 ak al an aE bd _ A25.out) ?_; rintro e w163 ⟨rfl, hb⟩; refine ⟨_, rfl, ?_⟩; replace ad := vB_ ad hb; replace ab := bB_ ab hb; replace HB := hS_ HB hb; replace aa := bB_ aa hb; replace ac := bB_ ac hb; (try clear hb)) | ((with_reducible refine gate_callee (f := 21) rfl ?_); refine gM_ (some 47) Tryd.func21 (lodgerref09_Has.calls kj4 _ _ l1 aE false _ (cD_ (Kd.V_reads' ad.out).2.2) ((Kd.V_reads' ad.out).2.1) A26.out) ?_; rintro e w' ⟨rfl, ⟨nd, rfl⟩⟩; refine ⟨_, rfl, ?_⟩; obtain ⟨hL, hM, hN, kw, kx, ky⟩ := cz3_ (w := w163) ab; obtain ⟨hO, hP, hQ, hR, hS, kz, kA, kB, kC, kD⟩ := cz5_ (w := w163) ac) | ((with_reducible refine gate_callee (f := 36) rfl ?_); refine gM_ (some 106) Tryd.func36 (lodgerref11_only.calls kj4 ah ae ai _ _ af _ _ ag 6 bg _ (cD_ (Kd.C_below aK.out (hB_ HB))) aI.out (cD_ (Kd.C_below aM.out (hB_ HB))) aJ.out A154.out) ?_; rintro e w166 ⟨rfl, hb⟩; refine ⟨_, rfl, ?_⟩; replace ad := vB_ ad hb; replace ab := bB_ ab hb; replace HB := hS_ HB hb; replace aa := bB_ aa hb; replace ac := bB_ ac hb; (try clear hb)))
         go_ret2
         exact ⟨_, er_, Kd.V_mono (vV_ ad) (fun _ hk => hk.1), hB_ HB⟩
       ·rw [if_neg c124] at H
        have fo : (aj == 3) = false := beq_eq_false_iff_ne.mpr c124
        have fp : (aj != 3) = true := bne_iff_ne.mpr c124
        by_cases c167 : aj = 4
        ·rw [if_pos c167] at H
         have fq : (aj == 4) = true := beq_iff_eq.mpr c167
         have fr : (aj != 4) = false := bne_eq_false_iff_eq.mpr c167
         clear c167
         have H' := Aside0.mk H
         clear H; have rn := az.out; have r6 := aA.out; have ro := ax.out; have r7 := ay.out; obtain ⟨hT, hU, hV, hW, hX, hY, hZ, kE, kF, kG, kH, kI, kJ, kK⟩ := cz7_ (w := wc) aa; have rp := av.out; have r8 := aw.out; obtain ⟨h0, h1, h2, kL, kM, kN⟩ := cz3_ (w := wc) ab
         go_wp2_with (first | ((with_reducible refine gate_callee (f := 25) rfl ?_); refine gM_ (some 30) Tryd.func25 (lodgerref10_Check.calls kj4 ak al _ _ am ao ap aq ar aj an _ _ au aQ _ (cC_ aV HB) aU.out (cC_ aZ HB) a5.out A23.out) ?_; rintro e w173 ⟨rfl, hb⟩; refine ⟨_, rfl, ?_⟩; replace ad := vB_ ad hb; replace ab := bB_ ab hb; replace HB := hS_ HB hb; replace aa := bB_ aa hb; replace ac := bB_ ac hb; (try clear hb); obtain ⟨h3, h4, h5, h6, h7, h8, h9, kO, kP, kQ, kR, kS, kT, kU⟩ := cz7_ (w := w173) aa; obtain ⟨ia, ib, ic, kV, kW, kX⟩ := cz3_ (w := w173) ab) | ((with_reducible refine gate_callee (f := 37) rfl ?_); refine gM_ (some 42) Tryd.func37 (lodgerref05_Offset.calls kj4 ak al an aE bd _ A25.out) ?_; rintro e w176 ⟨rfl, hb⟩; refine ⟨_, rfl, ?_⟩; replace ad := vB_ ad hb; replace ab := bB_ ab hb; replace HB := hS_ HB hb; replace aa := bB_ aa hb; replace ac := bB_ ac hb; (try clear hb)) | ((with_reducible refine gate_callee (f := 21) rfl ?_); refine gM_ (some 47) Tryd.func21 (lodgerref09_Has.calls kj4 _ _ l1 aE aN _ (cD_ (Kd.V_reads' ad.out).2.2) ((Kd.V_reads' ad.out).2.1) A26.out) ?_; rintro e w' ⟨rfl, ⟨nd, rfl⟩⟩; refine ⟨_, rfl, ?_⟩; obtain ⟨ie, ig, ii, kY, kZ, k0⟩ := cz3_ (w := w176) ab))
         go_loopg [16, 17, 18] kj4 (fun kq v16 v17 v18 w' => ∃ (aT aH : List Int) (aC : Int), v18 = .int .i64 aC ∧ Aside0 (lodgerref11_Legal.l0 kq l1 aT aH aC ak al am ao ap aq ar aj an au ah ae ai af ag = some (r1, r2)) ∧ Aside0 (kq ≤ kj4) ∧ Aside0 (Kd.V (Kd.int .i64) 3 w' w.heap.size (fun k_ => (P1_ k_ ∨ w.heap.size ≤ k_) ∧ some k_ ≠ (v17 : Value).ownBlock ∧ k_ ≠ aR ∧ k_ ≠ aW ∧ k_ ≠ aX) (.slice A1 l1.length c1) l1) ∧ Aside0 (Kd.V (Kd.int .i64) 3 w' w.heap.size (fun k_ => (P1_ k_ ∨ w.heap.size ≤ k_) ∧ some k_ ≠ (v17 : Value).ownBlock ∧ k_ ≠ aR ∧ k_ ≠ aW ∧ k_ ≠ aX) v16 aT) ∧ Aside0 (Kd.R (Kd.int .i64) 31 w' w.heap.size (fun k_ => (w.heap.size ≤ k_)) v17 aH) ∧ Aside0 (w'.heap[aR]? = some (.cells #[.int .u32 ak, .int .i64 al, (.slice bi am.length bj), .int .i64 ao, .int .i64 ap, .int .i64 aq, .int .i64 ar] 27 (0, 0))) ∧ Aside0 (w'.heap[aW]? = some (.cells #[.int .i64 aj, .int .u32 an, (.slice bx au.length bn)] 30 (0, 0))) ∧ Aside0 (w'.heap[aX]? = some (.cells #[.int .i64 ah, .int .u32 ae, .bool ai, (.slice a0 af.length a2), (.slice a1 ag.length a3)] 34 (0, 0))) ∧ Aside0 (Below w.heap.size w w'))
         case atStart => exact ⟨(l1), (([] : List Int)), (0), rs_, H', ⟨Nat.le_refl _⟩, ⟨Kd.V_mono (vV_ ad) (fun _ hk => ⟨hk.1, ⟨(by simp [Value.ownBlock]), ⟨hk.2.1, ⟨hk.2.2.1, hk.2.2.2⟩⟩⟩⟩)⟩, ⟨Kd.V_mono (vV_ ad) (fun _ hk => ⟨hk.1, ⟨(by simp [Value.ownBlock]), ⟨hk.2.1, ⟨hk.2.2.1, hk.2.2.2⟩⟩⟩⟩)⟩, ⟨nl_⟩, ⟨bk_ aa⟩, ⟨bk_ ab⟩, ⟨bk_ ac⟩, ⟨hB_ HB⟩⟩
         case round =>
          clear H'
          try clear c1
          try clear c2
          try clear p2
          try clear c3
          try clear c4
          try clear c5
          try clear c6
          try clear c7
          try clear c8
          try clear c9
          try clear c10
          try clear c11
          try clear c12
          try clear c13
          try clear c14
          try clear c15
          try clear c16
          try clear c17
          try clear c18
          try clear c21
          try clear c22
          try clear c23
          try clear c24
          try clear fg
          try clear fh
          try clear c25
          try clear c27
          try clear fi
          try clear fj
          try clear c29
          try clear c31
          try clear c32
          try clear c34
          try clear c36
          try clear c37
          try clear c38
          try clear c47
          try clear c48
          try clear c50
          try clear c63
          try clear c64
          try clear bs
          try clear fk
          try clear c66
          try clear c67
          try clear c70
          try clear c71
          try clear c74
          try clear c75
          try clear c78
          try clear c81
          try clear k4
          try clear k5
          try clear c82
          try clear c84
          try clear c85
          try clear c87
          try clear c97
          try clear c99
          try clear c100
          try clear c102
          try clear c112
          try clear c113
          try clear c115
          try clear c124
          try clear fo
          try clear fp
          try clear c125
          try clear c127
          try clear c129
          try clear c130
          try clear c132
          try clear c142
          try clear c143
          try clear c145
          try clear c155
          try clear c156
          try clear c158
          try clear c167
          try clear fq
          try clear fr
          try clear c168
          try clear c169
          try clear c171
          try clear ft fu fv fw fx fy fz
          try clear fA fB fC
          try clear fD fE fF fG fH fI fJ
          try clear fK fL fM
          try clear fN fO fP
          try clear fQ fR fS fT fU
          try clear fV fW fX fY fZ f0 f1
          try clear f2 f3 f4
          try clear f5 f6 f7 f8 f9 ga gb
          try clear gc gd gf
          try clear gg gh gi
          try clear gj gl gm gn go
          try clear gp gq gr gs gt gu gv
          try clear gw gx gy
          try clear gz gA gB gC gD gE gF
          try clear gG gH gI
          try clear gJ gK gL
          try clear gM gN gO gP gQ
          try clear bz bA bB bC bD
          try clear gR gS gT gU gV gW gX
          try clear gY gZ g0
          try clear g1 g2 g3 g4 g5 g6 g7
          try clear g8 g9 ha
          try clear hc he hf
          try clear hh hj hl hm hn
          try clear hp hq hs ht hu hv hw
          try clear hx hy hz
          try clear hA hB hC hD hE hF hG
          try clear hH hI hJ
          try clear hL hM hN
          try clear hO hP hQ hR hS
          try clear hT hU hV hW hX hY hZ
          try clear h0 h1 h2
          try clear h3 h4 h5 h6 h7 h8 h9
          try clear ia ib ic
          try clear ie ig ii
          try clear bE bF bG bH bI
          try clear bJ bK bL bM bN
          try clear b8 b9 ca cb cc cd ce
          try clear cf cg ch
          try clear ci cj ck cl cm cn co
          try clear cp cq cr
          try clear ct cu cv
          try clear cw cx cy cz cA
          try clear cB cC cD cE cF cG cH
          try clear cI cJ cK cL cM cN cO
          try clear cP cQ cR
          try clear cS cT cU cV cW cX cY
          try clear cZ c0 da
          try clear db dc dd
          try clear de df dg dh di
          try clear dj dk dl dm dn dp dq
          try clear dr dt du dv dw
          try clear dx dy dz dA dB
          try clear dC dD dE dF dG
          try clear dH dI dJ dK dL
          try clear k6 k7 k8 k9 la lb lc
          try clear ld lf lg
          try clear lh li lj lk ll lm ln
          try clear lo lp lq
          try clear lr ls lu
          try clear lv lw lx ly lz
          try clear ij ik il im io ip iq
          try clear ir it iu
          try clear iv iw ix iy iz iA iB
          try clear iC iD iE
          try clear iF iG iH
          try clear iI iJ iK iL iM
          try clear iN iO iP iQ iR iS iT
          try clear iU iV iW
          try clear iX iY iZ i0 i1 i2 i3
          try clear i4 i5 i6
          try clear i7 i8 i9
          try clear ja jb jc jd je
          try clear jf jg jh ji jj jk jl
          try clear jm jn jo
          try clear jp jq jr js jt ju jv
          try clear jw jx jy
          try clear jz jA jB
          try clear jC jD jE jF jG
          try clear bO bP bQ bR bS
          try clear jH jI jJ jK jL jM jN
          try clear jO jP jQ
          try clear jR jS jT jU jV jW jX
          try clear jY jZ j2
          try clear j3 j4 j5
          try clear j6 j7 j8 j9 ka
          try clear kb kc kd ke kf kg kh
          try clear ki kj kk
          try clear kl km kn ko kp kr ks
          try clear kt ku kv
          try clear kw kx ky
          try clear kz kA kB kC kD
          try clear kE kF kG kH kI kJ kK
          try clear kL kM kN
          try clear kO kP kQ kR kS kT kU
          try clear kV kW kX
          try clear kY kZ k0
          try clear bT bU bV bW bX
          try clear bY bZ b0 b1 b2
          try clear dM dN dO dP dQ dR dS
          try clear dT dU dV
          try clear dW dX dY dZ d0 d1 d2
          try clear d3 d4 d5
          try clear d6 d7 d8
          try clear d9 ea eb ec ed
          try clear ee ef eg eh ei ej ek
          try clear el em en eo ep er et
          try clear eu ev ew
          try clear ex ey ez eA eB eC eD
          try clear eE eF eG
          try clear eH eI eJ
          try clear eK eL eM eN eO
          try clear eP eQ eR eS eT eU eV
          try clear eW eX eY eZ e0
          try clear e1 e2 e3 e4 e5
          try clear e6 e7 e8 e9 fa
          try clear fb fc fd fe ff
          try clear lA lB lC lD lE lF lG
          try clear lH lI lJ
          try clear lK lL lM lN lO lP lQ
          try clear lR lS lT
          try clear lU lV lW
          try clear lX lY lZ l2 l3
          try clear p2
          obtain ⟨aT, aH, aC, rfl, HA, HK2, ad, aD, aG, aa, ab, ac, HB⟩ := hrel
          cases gk with
          | zero => exact absurd HA.out (by simp [lodgerref11_Legal.l0])
          | succ k2 =>
           have H := HA.out; clear HA; simp only [lodgerref11_Legal.l0] at H
           by_cases c178 : aC < (au.length : Int)
           ·rw [if_pos c178] at H
            have l5 : decide (aC < (au.length : Int)) = true := decide_eq_true c178
            clear c178
            by_cases c179 : 0 ≤ aC
            ·rw [if_pos c179] at H
             have q7 : decide (0 ≤ aC) = true := decide_eq_true c179
             clear c179; replace H := bi_ H; obtain ⟨⟨bb, ma⟩, A1800, H⟩ := H
             replace H : ((lodgerref09_Has.f k2 aT bb).bind fun fn => (if fn = true then (if aH.length < 17592186044416 then ((lodgerref09_Without.f k2 aT bb).bind fun bk => (lodgerref11_Legal.l0 k2 l1 bk (aH ++ [0]) (wrap64 (aC + 1)) ak al am ao ap aq ar aj an au ah ae ai af ag)) else (none)) else (if aH.length < 17592186044416 then ((lodgerref09_Without.f k2 aT bb).bind fun bl => (lodgerref11_Legal.l0 k2 l1 bl (aH ++ [6]) (wrap64 (aC + 1)) ak al am ao ap aq ar aj an au ah ae ai af ag)) else (none)))) = some (r1, r2) := H
             have A180 := Aside0.mk A1800; clear A1800; replace H := bi_ H; obtain ⟨fn, A1810, H⟩ := H
             replace H : (if fn = true then (if aH.length < 17592186044416 then ((lodgerref09_Without.f k2 aT bb).bind fun bk => (lodgerref11_Legal.l0 k2 l1 bk (aH ++ [0]) (wrap64 (aC + 1)) ak al am ao ap aq ar aj an au ah ae ai af ag)) else (none)) else (if aH.length < 17592186044416 then ((lodgerref09_Without.f k2 aT bb).bind fun bl => (lodgerref11_Legal.l0 k2 l1 bl (aH ++ [6]) (wrap64 (aC + 1)) ak al am ao ap aq ar aj an au ah ae ai af ag)) else (none))) = some (r1, r2) := H
             have A181 := Aside0.mk A1810; clear A1810
             by_cases c182 : fn = true
             ·subst c182
              have H1 : (if aH.length < 17592186044416 then ((lodgerref09_Without.f k2 aT bb).bind fun bk => (lodgerref11_Legal.l0 k2 l1 bk (aH ++ [0]) (wrap64 (aC + 1)) ak al am ao ap aq ar aj an au ah ae ai af ag)) else (none)) = some (r1, r2) := pf_ rfl H
              clear H; have H := H1; clear H1
              by_cases c183 : aH.length < 17592186044416
              ·rw [if_pos c183] at H
               have LMc183 := Aside0.mk c183; clear c183; obtain ⟨k1, hy620⟩ : ∃ y_ : List Int, y_ = (aH ++ [0]) := ⟨_, rfl⟩
               replace H : ((lodgerref09_Without.f k2 aT bb).bind fun bk => (lodgerref11_Legal.l0 k2 l1 bk k1 (wrap64 (aC + 1)) ak al am ao ap aq ar aj an au ah ae ai af ag)) = some (r1, r2) := rp_ hy620 H
               have Ny620 := Aside0.mk hy620; clear hy620; replace H := bi_ H; obtain ⟨bk, A1840, H⟩ := H
               replace H : (lodgerref11_Legal.l0 k2 l1 bk k1 (wrap64 (aC + 1)) ak al am ao ap aq ar aj an au ah ae ai af ag) = some (r1, r2) := H
               have A184 := Aside0.mk A1840; clear A1840
               have H' := Aside0.mk H
               clear H; have rq := aA.out; have r9 := az.out; have rr := av.out; have sa := aw.out; obtain ⟨mq, mr, ms, oN, oO, oP⟩ := cz3_ (w := wr) ab
               try go_wp2
               replace ad := Aside0.mk (Kd.V_drew ad.out); replace aD := Aside0.mk (Kd.V_drew aD.out); replace aG := Aside0.mk (Kd.R_drew aG.out); replace aa := Aside0.mk (blk_drew aa.out); replace ab := Aside0.mk (blk_drew ab.out); replace ac := Aside0.mk (blk_drew ac.out); replace HB := Aside0.mk (below_drew1 HB.out)
               have p616 : 0 ≤ (aC : Int) := od_
               have q616 : aC < (au.length : Int) := od_
               obtain ⟨ad616, e616, hx616_0⟩ := Kd.at_int aZ.out aC p616 q616; have hw616_0 := hx616_0
               cases e616
               replace hx616_0 := (HB.out.cell (World.block_lt_of_cell? w _ hx616_0)).trans hx616_0; replace p616 := eq_true p616; replace q616 := eq_true q616
               refine start_ (n := 13) (S := fun w' => P7_ w' aR (.int .u32 ak) (.int .i64 al) (.slice bi am.length bj) (.int .i64 ao) (.int .i64 ap) (.int .i64 aq) (.int .i64 ar) (P3_ w' aW (.int .i64 aj) (.int .u32 an) (.slice (some ad616) au.length bn) (w'.cell? (ad616.add (aC).toNat) = some (.int .u32 (rd au aC))))) (ds := []) (tf 13 0) (by kernel_rfl) rfl rfl (ck7_ aa (ck3_ ab (((HB.out.cell (World.block_lt_of_cell? w _ hw616_0)).trans hw616_0)))) (fun hHeld => ?_); refine with_tabW lodgerref11_Legal.tab34 lodgerref11_Legal.bits34 (fun HT_ HW_ => ?_)
               generalize wr.drew = w188 at ad aD aG aa ab ac HB hx616_0 hHeld ⊢
               refine puU_ 0 125 (tf 13 1) HT_ ?_; refine puU_ 2 127 (tf 13 5) HT_ ?_; refine puU_ 4 129 (tf 13 21) HT_ ?_; refine tkU_ 1 126 (tf 13 23) rfl rfl HT_ HW_ hHeld (by rintro w' ⟨s0, s1, s2, s3, s4, s5, s6, s7, s8, s9, s10⟩; go_simp; with_reducible rfl) ?_; refine tkU_ 3 128 (tf 13 31) rfl rfl HT_ HW_ hHeld (by rintro w' ⟨s0, s1, s2, s3, s4, s5, s6, s7, s8, s9, s10⟩; go_simp; with_reducible rfl) ?_; refine puU_ 5 130 (tf 13 63) HT_ ?_; refine tkU_ 6 131 (tf 13 127) rfl rfl HT_ HW_ hHeld (by rintro w' ⟨s0, s1, s2, s3, s4, s5, s6, s7, s8, s9, s10⟩; go_simp; with_reducible rfl) ?_
               refine on_ (i := 7) (N := some 132) (tf 13 255) HT_ (fun K hK => ?_)
               refine gN_ Tryd.func37 (lodgerref05_Offset.calls k2 ak al (rd au aC) bb ma _ A180.out) ?_
               rintro e w189 ⟨rfl, hb⟩
               refine ⟨_, rfl, ?_⟩
               replace ad := vB_ ad hb; replace aD := vB_ aD hb; replace aG := rB_ aG hb; replace aa := bB_ aa hb; replace ab := bB_ ab hb; replace ac := bB_ ac hb; replace HB := hS_ HB hb
               (try clear hb)
               (try clear hb2)
               (try clear hk)
               (try clear hi)
               refine hK.out _ _ ⟨(blk_cell aa.out 0).trans rfl, (blk_cell aa.out 1).trans rfl, (blk_cell aa.out 2).trans rfl, (blk_cell aa.out 3).trans rfl, (blk_cell aa.out 4).trans rfl, (blk_cell aa.out 5).trans rfl, (blk_cell aa.out 6).trans rfl, (blk_cell ab.out 0).trans rfl, (blk_cell ab.out 1).trans rfl, (blk_cell ab.out 2).trans rfl, ((HB.out.cell (World.block_lt_of_cell? w _ hw616_0)).trans hw616_0)⟩ (fun hHeld => ?_)
               clear hK K
               refine norm_ (a' := ?_) ?_ ?_
               rotate_left
               ·show Act.put _ (some 132) _ = _
                simp only [Act.put, List.setIfInBounds_toArray, List.set_cons_zero, List.set_cons_succ, i64_w, i32_w]
                rfl
               refine puU_ 8 124 (tf 13 511) HT_ ?_; refine puU_ 9 133 (tf 13 1023) HT_ ?_; refine puU_ 10 134 (tf 13 2047) HT_ ?_; refine puU_ 11 19 (tf 13 4095) HT_ ?_; refine puU_ 12 20 (tf 13 8191) HT_ ?_
               refine done_ (done_of HT_.out (by kernel_rfl)) ?_
               obtain ⟨sz, sH, eo190⟩ := Kd.V_slice aD.out; subst eo190
               try go_wp2_with (first | ((with_reducible refine gate_callee (f := 21) rfl ?_); refine gM_ (some 137) Tryd.func21 (lodgerref09_Has.calls k2 _ _ aT bb true _ (cD_ (Kd.V_reads' aD.out).2.2) ((Kd.V_reads' aD.out).2.1) A181.out) ?_; rintro e w' ⟨rfl, ⟨nd, rfl⟩⟩; refine ⟨_, rfl, ?_⟩) | ((with_reducible refine gate_builtin (b := .append) (xs := #[.tmp 138, .tmp 139]) rfl ?_); at_builtin; refine Kd.R_append (Kd.int .i64) (w0 := w) w.heap.size rfl (.tmp 138) (.tmp 139) 32 31 (.int .i64 0) 8 rfl Tryd.underlying32 info31 rfl (by decide) (by omega) u17 aH 0 [.int .i64 0] (fun k_ => (w.heap.size ≤ k_)) (fun _ => False) rfl rfl ?aP (fun _ hk => hk.elim) ?aF ?aO ?aB ?aS ?aL ?_; (case aP => exact rfl); (case aB => exact (hB_ HB)); (case aF => exact (fun k_ hk => (Nat.le_trans (below_size (hB_ HB)) hk))); (case aO => exact (rR_ aG)); (case aS => exact (below_size (hB_ HB))); (case aL => have := LMc183.out; omega); intro v621 w191 ho hb hg hat; rw [← Ny620.out] at ho; replace ad := Aside0.mk (Kd.V_afterv (ok := (fun k_ => (P1_ k_ ∨ w.heap.size ≤ k_) ∧ k_ ≠ aR ∧ k_ ≠ aW ∧ k_ ≠ aX)) (Kd.V_mono (vV_ ad) (fun _ hk => ⟨⟨hk.1, ⟨hk.2.2.1, ⟨hk.2.2.2.1, hk.2.2.2.2⟩⟩⟩, hk.2.1⟩)) hg hat); replace aD := Aside0.mk (Kd.V_afterv (ok := (fun k_ => (P1_ k_ ∨ w.heap.size ≤ k_) ∧ k_ ≠ aR ∧ k_ ≠ aW ∧ k_ ≠ aX)) (Kd.V_mono (vV_ aD) (fun _ hk => ⟨⟨hk.1, ⟨hk.2.2.1, ⟨hk.2.2.2.1, hk.2.2.2.2⟩⟩⟩, hk.2.1⟩)) hg hat); replace aa := Aside0.mk (blk_grown (g := aR) (o := .cells #[.int .u32 ak, .int .i64 al, .slice bi am.length bj, .int .i64 ao, .int .i64 ap, .int .i64 aq, .int .i64 ar] 27 (0, 0)) (bk_ aa) hg (Kd.R_ne aG.out aa.out (by decide))); replace ab := Aside0.mk (blk_grown (g := aW) (o := .cells #[.int .i64 aj, .int .u32 an, .slice (some ad616) au.length bn] 30 (0, 0)) (bk_ ab) hg (Kd.R_ne aG.out ab.out (by decide))); replace ac := Aside0.mk (blk_grown (g := aX) (o := .cells #[.int .i64 ah, .int .u32 ae, .bool ai, .slice a0 af.length a2, .slice a1 ag.length a3] 34 (0, 0)) (bk_ ac) hg (Kd.R_ne aG.out ac.out (by decide))); replace HB := Aside0.mk (hb); have b4 := Aside0.mk (ho); clear aG ho hb hg hat) | ((with_reducible refine gate_callee (f := 38) rfl ?_); refine gM_ (some 146) Tryd.func38 (lodgerref09_Without.calls k2 _ _ aT bb bk _ (cD_ (Kd.V_reads' aD.out).2.2) ((Kd.V_reads' aD.out).2.1) A184.out) ?_; rintro e w192 ⟨v624, rfl, ho0, hb⟩; refine ⟨_, rfl, ?_⟩; replace ad := Aside0.mk (Kd.V_elder' (vV_ ad) (Kd.R_base ho0) hb); replace aD := Aside0.mk (Kd.V_elder' (vV_ aD) (Kd.R_base ho0) hb); replace b4 := rB_ b4 hb; have mj := Aside0.mk (Kd.R_lower (Kd.R_newM (M := fun k_ => (w.heap.size ≤ k_)) ho0 (below_size (hB_ HB)) (fun k_ h_ => h_)) (below_size (hB_ HB))); replace ab := bB_ ab hb; replace HB := hS_ HB hb; replace aa := bB_ aa hb; replace ac := bB_ ac hb; (try clear hb); (try clear ho0)))
               go_roundg k2
               case measure => have := b7.out; have := HK2.out; omega
               case rel => exact ⟨(bk), (k1), (wrap64 (aC + 1)), rs_, H', ⟨om2_ b7 HK2⟩, ⟨Kd.V_mono (vV_ ad) (fun _ hk => ⟨hk.1.1.1, ⟨hk.1.2, ⟨hk.1.1.2.1, ⟨hk.1.1.2.2.1, hk.1.1.2.2.2⟩⟩⟩⟩)⟩, ⟨Kd.V_mono (ok := (fun k_ => (w.heap.size ≤ k_) ∧ some k_ ≠ (v621 : Value).ownBlock ∧ k_ ≠ aR ∧ k_ ≠ aW ∧ k_ ≠ aX)) (Kd.R_V (by (with_reducible repeat (first | apply Kd.R_alloc | apply Kd.R_drewN | apply Kd.R_drew)); exact Kd.R_mono (Kd.R_types (Kd.R_types (Kd.R_types (Kd.R_apart' mj.out (Kd.R_typed b4.out) (by decide)) aa.out (by decide)) ab.out (by decide)) ac.out (by decide)) (fun _ hk => ⟨hk.1.1.1.1.1, ⟨hk.1.1.1.2, ⟨hk.1.1.2, ⟨hk.1.2, hk.2⟩⟩⟩⟩))) (fun k_ hk => by first | exact ⟨(.inr (hk.1)), hk.2⟩ | exact (.inr (hk)))⟩, ⟨rR_ b4⟩, ⟨bk_ aa⟩, ⟨bk_ ab⟩, ⟨bk_ ac⟩, ⟨hB_ HB⟩⟩
              ·rw [if_neg c183] at H
               exact absurd H (by simp)
             ·replace c182 := Bool.eq_false_iff.mpr c182
              subst c182
              have H1 : (if aH.length < 17592186044416 then ((lodgerref09_Without.f k2 aT bb).bind fun bl => (lodgerref11_Legal.l0 k2 l1 bl (aH ++ [6]) (wrap64 (aC + 1)) ak al am ao ap aq ar aj an au ah ae ai af ag)) else (none)) = some (r1, r2) := nf_ H
              clear H; have H := H1; clear H1
              by_cases c193 : aH.length < 17592186044416
              ·rw [if_pos c193] at H
               have LMc193 := Aside0.mk c193; clear c193; obtain ⟨k3, hy626⟩ : ∃ y_ : List Int, y_ = (aH ++ [6]) := ⟨_, rfl⟩
               replace H : ((lodgerref09_Without.f k2 aT bb).bind fun bl => (lodgerref11_Legal.l0 k2 l1 bl k3 (wrap64 (aC + 1)) ak al am ao ap aq ar aj an au ah ae ai af ag)) = some (r1, r2) := rp_ hy626 H
               have Ny626 := Aside0.mk hy626; clear hy626; replace H := bi_ H; obtain ⟨bl, A1940, H⟩ := H
               replace H : (lodgerref11_Legal.l0 k2 l1 bl k3 (wrap64 (aC + 1)) ak al am ao ap aq ar aj an au ah ae ai af ag) = some (r1, r2) := H
               have A194 := Aside0.mk A1940; clear A1940
               have H' := Aside0.mk H
               clear H; have rs := aA.out; have sb := az.out; have rt := av.out; have sc := aw.out; obtain ⟨mt, mu, mv, oQ, oR, oS⟩ := cz3_ (w := wr) ab
               try go_wp2
               replace ad := Aside0.mk (Kd.V_drew ad.out); replace aD := Aside0.mk (Kd.V_drew aD.out); replace aG := Aside0.mk (Kd.R_drew aG.out); replace aa := Aside0.mk (blk_drew aa.out); replace ab := Aside0.mk (blk_drew ab.out); replace ac := Aside0.mk (blk_drew ac.out); replace HB := Aside0.mk (below_drew1 HB.out)
               have p616 : 0 ≤ (aC : Int) := od_
               have q616 : aC < (au.length : Int) := od_
               obtain ⟨ad616, e616, hx616_0⟩ := Kd.at_int aZ.out aC p616 q616; have hw616_0 := hx616_0
               cases e616
               replace hx616_0 := (HB.out.cell (World.block_lt_of_cell? w _ hx616_0)).trans hx616_0; replace p616 := eq_true p616; replace q616 := eq_true q616
               refine start_ (n := 13) (S := fun w' => P7_ w' aR (.int .u32 ak) (.int .i64 al) (.slice bi am.length bj) (.int .i64 ao) (.int .i64 ap) (.int .i64 aq) (.int .i64 ar) (P3_ w' aW (.int .i64 aj) (.int .u32 an) (.slice (some ad616) au.length bn) (w'.cell? (ad616.add (aC).toNat) = some (.int .u32 (rd au aC))))) (ds := []) (tf 13 0) (by kernel_rfl) rfl rfl (ck7_ aa (ck3_ ab (((HB.out.cell (World.block_lt_of_cell? w _ hw616_0)).trans hw616_0)))) (fun hHeld => ?_); refine with_tabW lodgerref11_Legal.tab34 lodgerref11_Legal.bits34 (fun HT_ HW_ => ?_)
               generalize wr.drew = w198 at ad aD aG aa ab ac HB hx616_0 hHeld ⊢
               refine puU_ 0 125 (tf 13 1) HT_ ?_; refine puU_ 2 127 (tf 13 5) HT_ ?_; refine puU_ 4 129 (tf 13 21) HT_ ?_; refine tkU_ 1 126 (tf 13 23) rfl rfl HT_ HW_ hHeld (by rintro w' ⟨s0, s1, s2, s3, s4, s5, s6, s7, s8, s9, s10⟩; go_simp; with_reducible rfl) ?_; refine tkU_ 3 128 (tf 13 31) rfl rfl HT_ HW_ hHeld (by rintro w' ⟨s0, s1, s2, s3, s4, s5, s6, s7, s8, s9, s10⟩; go_simp; with_reducible rfl) ?_; refine puU_ 5 130 (tf 13 63) HT_ ?_; refine tkU_ 6 131 (tf 13 127) rfl rfl HT_ HW_ hHeld (by rintro w' ⟨s0, s1, s2, s3, s4, s5, s6, s7, s8, s9, s10⟩; go_simp; with_reducible rfl) ?_
               refine on_ (i := 7) (N := some 132) (tf 13 255) HT_ (fun K hK => ?_)
               refine gN_ Tryd.func37 (lodgerref05_Offset.calls k2 ak al (rd au aC) bb ma _ A180.out) ?_
               rintro e w199 ⟨rfl, hb⟩
               refine ⟨_, rfl, ?_⟩
               replace ad := vB_ ad hb; replace aD := vB_ aD hb; replace aG := rB_ aG hb; replace aa := bB_ aa hb; replace ab := bB_ ab hb; replace ac := bB_ ac hb; replace HB := hS_ HB hb
               (try clear hb)
               (try clear hb2)
               (try clear hk)
               (try clear hi)
               refine hK.out _ _ ⟨(blk_cell aa.out 0).trans rfl, (blk_cell aa.out 1).trans rfl, (blk_cell aa.out 2).trans rfl, (blk_cell aa.out 3).trans rfl, (blk_cell aa.out 4).trans rfl, (blk_cell aa.out 5).trans rfl, (blk_cell aa.out 6).trans rfl, (blk_cell ab.out 0).trans rfl, (blk_cell ab.out 1).trans rfl, (blk_cell ab.out 2).trans rfl, ((HB.out.cell (World.block_lt_of_cell? w _ hw616_0)).trans hw616_0)⟩ (fun hHeld => ?_)
               clear hK K
               refine norm_ (a' := ?_) ?_ ?_
               rotate_left
               ·show Act.put _ (some 132) _ = _
                simp only [Act.put, List.setIfInBounds_toArray, List.set_cons_zero, List.set_cons_succ, i64_w, i32_w]
                rfl
               refine puU_ 8 124 (tf 13 511) HT_ ?_; refine puU_ 9 133 (tf 13 1023) HT_ ?_; refine puU_ 10 134 (tf 13 2047) HT_ ?_; refine puU_ 11 19 (tf 13 4095) HT_ ?_; refine puU_ 12 20 (tf 13 8191) HT_ ?_
               refine done_ (done_of HT_.out (by kernel_rfl)) ?_
               obtain ⟨sA, sI, eo200⟩ := Kd.V_slice aD.out; subst eo200
               try go_wp2_with (first | ((with_reducible refine gate_callee (f := 21) rfl ?_); refine gM_ (some 137) Tryd.func21 (lodgerref09_Has.calls k2 _ _ aT bb false _ (cD_ (Kd.V_reads' aD.out).2.2) ((Kd.V_reads' aD.out).2.1) A181.out) ?_; rintro e w' ⟨rfl, ⟨nd, rfl⟩⟩; refine ⟨_, rfl, ?_⟩) | ((with_reducible refine gate_builtin (b := .append) (xs := #[.tmp 141, .tmp 142]) rfl ?_); at_builtin; refine Kd.R_append (Kd.int .i64) (w0 := w) w.heap.size rfl (.tmp 141) (.tmp 142) 32 31 (.int .i64 0) 8 rfl Tryd.underlying32 info31 rfl (by decide) (by omega) u17 aH 6 [.int .i64 6] (fun k_ => (w.heap.size ≤ k_)) (fun _ => False) rfl rfl ?aP (fun _ hk => hk.elim) ?aF ?aO ?aB ?aS ?aL ?_; (case aP => exact rfl); (case aB => exact (hB_ HB)); (case aF => exact (fun k_ hk => (Nat.le_trans (below_size (hB_ HB)) hk))); (case aO => exact (rR_ aG)); (case aS => exact (below_size (hB_ HB))); (case aL => have := LMc193.out; omega); intro v627 w201 ho hb hg hat; rw [← Ny626.out] at ho; replace ad := Aside0.mk (Kd.V_afterv (ok := (fun k_ => (P1_ k_ ∨ w.heap.size ≤ k_) ∧ k_ ≠ aR ∧ k_ ≠ aW ∧ k_ ≠ aX)) (Kd.V_mono (vV_ ad) (fun _ hk => ⟨⟨hk.1, ⟨hk.2.2.1, ⟨hk.2.2.2.1, hk.2.2.2.2⟩⟩⟩, hk.2.1⟩)) hg hat); replace aD := Aside0.mk (Kd.V_afterv (ok := (fun k_ => (P1_ k_ ∨ w.heap.size ≤ k_) ∧ k_ ≠ aR ∧ k_ ≠ aW ∧ k_ ≠ aX)) (Kd.V_mono (vV_ aD) (fun _ hk => ⟨⟨hk.1, ⟨hk.2.2.1, ⟨hk.2.2.2.1, hk.2.2.2.2⟩⟩⟩, hk.2.1⟩)) hg hat); replace aa := Aside0.mk (blk_grown (g := aR) (o := .cells #[.int .u32 ak, .int .i64 al, .slice bi am.length bj, .int .i64 ao, .int .i64 ap, .int .i64 aq, .int .i64 ar] 27 (0, 0)) (bk_ aa) hg (Kd.R_ne aG.out aa.out (by decide))); replace ab := Aside0.mk (blk_grown (g := aW) (o := .cells #[.int .i64 aj, .int .u32 an, .slice (some ad616) au.length bn] 30 (0, 0)) (bk_ ab) hg (Kd.R_ne aG.out ab.out (by decide))); replace ac := Aside0.mk (blk_grown (g := aX) (o := .cells #[.int .i64 ah, .int .u32 ae, .bool ai, .slice a0 af.length a2, .slice a1 ag.length a3] 34 (0, 0)) (bk_ ac) hg (Kd.R_ne aG.out ac.out (by decide))); replace HB := Aside0.mk (hb); have b5 := Aside0.mk (ho); clear aG ho hb hg hat) | ((with_reducible refine gate_callee (f := 38) rfl ?_); refine gM_ (some 146) Tryd.func38 (lodgerref09_Without.calls k2 _ _ aT bb bl _ (cD_ (Kd.V_reads' aD.out).2.2) ((Kd.V_reads' aD.out).2.1) A194.out) ?_; rintro e w202 ⟨v630, rfl, ho0, hb⟩; refine ⟨_, rfl, ?_⟩; replace ad := Aside0.mk (Kd.V_elder' (vV_ ad) (Kd.R_base ho0) hb); replace aD := Aside0.mk (Kd.V_elder' (vV_ aD) (Kd.R_base ho0) hb); replace b5 := rB_ b5 hb; have ml := Aside0.mk (Kd.R_lower (Kd.R_newM (M := fun k_ => (w.heap.size ≤ k_)) ho0 (below_size (hB_ HB)) (fun k_ h_ => h_)) (below_size (hB_ HB))); replace ab := bB_ ab hb; replace HB := hS_ HB hb; replace aa := bB_ aa hb; replace ac := bB_ ac hb; (try clear hb); (try clear ho0)))
               go_roundg k2
               case measure => have := b7.out; have := HK2.out; omega
               case rel => exact ⟨(bl), (k3), (wrap64 (aC + 1)), rs_, H', ⟨om2_ b7 HK2⟩, ⟨Kd.V_mono (vV_ ad) (fun _ hk => ⟨hk.1.1.1, ⟨hk.1.2, ⟨hk.1.1.2.1, ⟨hk.1.1.2.2.1, hk.1.1.2.2.2⟩⟩⟩⟩)⟩, ⟨Kd.V_mono (ok := (fun k_ => (w.heap.size ≤ k_) ∧ some k_ ≠ (v627 : Value).ownBlock ∧ k_ ≠ aR ∧ k_ ≠ aW ∧ k_ ≠ aX)) (Kd.R_V (by (with_reducible repeat (first | apply Kd.R_alloc | apply Kd.R_drewN | apply Kd.R_drew)); exact Kd.R_mono (Kd.R_types (Kd.R_types (Kd.R_types (Kd.R_apart' ml.out (Kd.R_typed b5.out) (by decide)) aa.out (by decide)) ab.out (by decide)) ac.out (by decide)) (fun _ hk => ⟨hk.1.1.1.1.1, ⟨hk.1.1.1.2, ⟨hk.1.1.2, ⟨hk.1.2, hk.2⟩⟩⟩⟩))) (fun k_ hk => by first | exact ⟨(.inr (hk.1)), hk.2⟩ | exact (.inr (hk)))⟩, ⟨rR_ b5⟩, ⟨bk_ aa⟩, ⟨bk_ ab⟩, ⟨bk_ ac⟩, ⟨hB_ HB⟩⟩
              ·rw [if_neg c193] at H
               exact absurd H (by simp)
            ·rw [if_neg c179] at H
             exact absurd H (by simp)
           ·rw [if_neg c178] at H
            have l5 : decide (aC < (au.length : Int)) = false := decide_eq_false c178
            clear c178; replace H := bi_ H; obtain ⟨mb, A2030, H⟩ := H
            replace H : (if mb = true then (some (aT, true)) else (some (l1, false))) = some (r1, r2) := H
            have A203 := Aside0.mk A2030; clear A2030
            by_cases c204 : mb = true
            ·subst c204
             have H1 : (some (aT, true)) = some (r1, r2) := pf_ rfl H
             clear H; have H := H1; clear H1; simp only [Option.some.injEq, Prod.mk.injEq] at H; obtain ⟨rfl, rfl⟩ := H; have ru := aA.out; have sd := az.out; have rv := av.out; have se := aw.out; obtain ⟨mw, my, mz, oT, oU, oV⟩ := cz3_ (w := wr) ab; have rx := ay.out; have sf := ax.out; obtain ⟨mA, mB, mC, mD, mE, oW, oX, oY, oZ, o0⟩ := cz5_ (w := wr) ac; obtain ⟨mc, mm, eo210⟩ := Kd.R_slice aG.out; subst eo210
             go_wp2_with (first | ((with_reducible refine gate_callee (f := 18) rfl ?_); refine gL_ (some 150) Tryd.func18 #[.agg #[.int .i64 ah, .int .u32 ae, .bool ai, .slice a0 af.length a2, .slice a1 ag.length a3], .agg #[.int .i64 0, .int .u32 0, .bool false, .slice none 0 0, .slice mc aH.length mm]] ?_; (refine (lodgerref08_Answers.calls k2 ah ae ai _ _ af _ _ ag 0 0 false _ _ ([] : List Int) _ _ aH true _ ?side1 ?side2 ?side3 ?side4 ?side5 ?side6 ?side7 ?side8 A203.out).mono ?_); (case side1 => exact cC_ aK HB); (case side2 => exact aI.out); (case side3 => exact cC_ aM HB); (case side4 => exact aJ.out); (case side5 => exact Kd.C_nil _ _); (case side6 => exact Nat.le_refl _); (case side7 => exact cD_ (Kd.R_reads' aG.out).2.2); (case side8 => exact (Kd.R_reads' aG.out).2.1); rintro e w211 ⟨rfl, hb⟩; refine ⟨_, rfl, ?_⟩; replace ad := vB_ ad hb; replace aD := vB_ aD hb; replace aG := rB_ aG hb; replace ab := bB_ ab hb; replace HB := hS_ HB hb; replace aa := bB_ aa hb; replace ac := bB_ ac hb; (try clear hb)))
             go_ret2
             exact ⟨_, er_, Kd.V_mono (vV_ aD) (fun _ hk => hk.1), hB_ HB⟩
            ·replace c204 := Bool.eq_false_iff.mpr c204
             subst c204
             have H1 : (some (l1, false)) = some (r1, r2) := nf_ H
             clear H; have H := H1; clear H1; simp only [Option.some.injEq, Prod.mk.injEq] at H; obtain ⟨rfl, rfl⟩ := H; have ry := aA.out; have sg := az.out; have rz := av.out; have sh := aw.out; obtain ⟨mF, mG, mH, o1, o2, o3⟩ := cz3_ (w := wr) ab; have rA := ay.out; have si := ax.out; obtain ⟨mI, mJ, mK, mL, mM, o4, o5, o6, o7, o8⟩ := cz5_ (w := wr) ac; obtain ⟨me, mo, eo217⟩ := Kd.R_slice aG.out; subst eo217
             go_wp2_with (first | ((with_reducible refine gate_callee (f := 18) rfl ?_); refine gL_ (some 150) Tryd.func18 #[.agg #[.int .i64 ah, .int .u32 ae, .bool ai, .slice a0 af.length a2, .slice a1 ag.length a3], .agg #[.int .i64 0, .int .u32 0, .bool false, .slice none 0 0, .slice me aH.length mo]] ?_; (refine (lodgerref08_Answers.calls k2 ah ae ai _ _ af _ _ ag 0 0 false _ _ ([] : List Int) _ _ aH false _ ?side1 ?side2 ?side3 ?side4 ?side5 ?side6 ?side7 ?side8 A203.out).mono ?_); (case side1 => exact cC_ aK HB); (case side2 => exact aI.out); (case side3 => exact cC_ aM HB); (case side4 => exact aJ.out); (case side5 => exact Kd.C_nil _ _); (case side6 => exact Nat.le_refl _); (case side7 => exact cD_ (Kd.R_reads' aG.out).2.2); (case side8 => exact (Kd.R_reads' aG.out).2.1); rintro e w218 ⟨rfl, hb⟩; refine ⟨_, rfl, ?_⟩; replace ad := vB_ ad hb; replace ab := bB_ ab hb; replace HB := hS_ HB hb; replace aa := bB_ aa hb; replace ac := bB_ ac hb; (try clear hb)))
             go_ret2
             exact ⟨_, er_, Kd.V_mono (vV_ ad) (fun _ hk => hk.1), hB_ HB⟩
        ·rw [if_neg c167] at H
         have fq : (aj == 4) = false := beq_eq_false_iff_ne.mpr c167
         have fr : (aj != 4) = true := bne_iff_ne.mpr c167
         by_cases c219 : aj = 5
         ·rw [if_pos c219] at H
          have l6 : (aj == 5) = true := beq_iff_eq.mpr c219
          have l7 : (aj != 5) = false := bne_eq_false_iff_eq.mpr c219
          clear c219; replace H := bi_ H; obtain ⟨bp, A2200, H⟩ := H
          replace H : (some (l1, bp)) = some (r1, r2) := H
          have A220 := Aside0.mk A2200; clear A2200; simp only [Option.some.injEq, Prod.mk.injEq] at H; obtain ⟨rfl, rfl⟩ := H; have rB := az.out; have sj := aA.out; have rC := ax.out; have sk := ay.out; obtain ⟨mN, mO, mP, mQ, mR, mS, mT, o9, pa, pb, pc, pd, pe, pf⟩ := cz7_ (w := wc) aa; have rD := av.out; have sl := aw.out; obtain ⟨mU, mV, mW, pg, ph, pi⟩ := cz3_ (w := wc) ab
          go_wp2_with (first | ((with_reducible refine gate_callee (f := 25) rfl ?_); refine gM_ (some 30) Tryd.func25 (lodgerref10_Check.calls kj4 ak al _ _ am ao ap aq ar aj an _ _ au aQ _ (cC_ aV HB) aU.out (cC_ aZ HB) a5.out A23.out) ?_; rintro e w226 ⟨rfl, hb⟩; refine ⟨_, rfl, ?_⟩; replace ad := vB_ ad hb; replace ab := bB_ ab hb; replace HB := hS_ HB hb; replace aa := bB_ aa hb; replace ac := bB_ ac hb; (try clear hb); obtain ⟨mX, mY, mZ, m0, m1, m2, m3, pj, pk, pl, pm, po, pp, pq⟩ := cz7_ (w := w226) aa; obtain ⟨m4, m5, m6, pr, ps, pt⟩ := cz3_ (w := w226) ab) | ((with_reducible refine gate_callee (f := 37) rfl ?_); refine gM_ (some 42) Tryd.func37 (lodgerref05_Offset.calls kj4 ak al an aE bd _ A25.out) ?_; rintro e w229 ⟨rfl, hb⟩; refine ⟨_, rfl, ?_⟩; replace ad := vB_ ad hb; replace ab := bB_ ab hb; replace HB := hS_ HB hb; replace aa := bB_ aa hb; replace ac := bB_ ac hb; (try clear hb)) | ((with_reducible refine gate_callee (f := 21) rfl ?_); refine gM_ (some 47) Tryd.func21 (lodgerref09_Has.calls kj4 _ _ l1 aE aN _ (cD_ (Kd.V_reads' ad.out).2.2) ((Kd.V_reads' ad.out).2.1) A26.out) ?_; rintro e w' ⟨rfl, ⟨nd, rfl⟩⟩; refine ⟨_, rfl, ?_⟩; obtain ⟨m7, m8, m9, px, py, pz⟩ := cz3_ (w := w229) ab; obtain ⟨na, nb, nc, nf, ng, pA, pB, pC, pD, pE⟩ := cz5_ (w := w229) ac) | ((with_reducible refine gate_callee (f := 18) rfl ?_); refine gL_ (some 160) Tryd.func18 #[.agg #[.int .i64 ah, .int .u32 ae, .bool ai, .slice a0 af.length a2, .slice a1 ag.length a3], .agg #[.int .i64 0, .int .u32 0, .bool aN, .slice none 0 0, .slice none 0 0]] ?_; (refine (lodgerref08_Answers.calls kj4 ah ae ai _ _ af _ _ ag 0 0 aN _ _ ([] : List Int) _ _ ([] : List Int) bp _ ?side1 ?side2 ?side3 ?side4 ?side5 ?side6 ?side7 ?side8 A220.out).mono ?_); (case side1 => exact cD_ (Kd.C_below aK.out (hB_ HB))); (case side2 => exact aI.out); (case side3 => exact cD_ (Kd.C_below aM.out (hB_ HB))); (case side4 => exact aJ.out); (case side5 => exact Kd.C_nil _ _); (case side6 => exact Nat.le_refl _); (case side7 => exact Kd.C_nil _ _); (case side8 => exact Nat.le_refl _); rintro e w232 ⟨rfl, hb⟩; refine ⟨_, rfl, ?_⟩; replace ad := vB_ ad hb; replace ab := bB_ ab hb; replace HB := hS_ HB hb; replace aa := bB_ aa hb; replace ac := bB_ ac hb; (try clear hb)))
          go_ret2
          exact ⟨_, er_, Kd.V_mono (vV_ ad) (fun _ hk => hk.1), hB_ HB⟩
         ·rw [if_neg c219] at H
          have l6 : (aj == 5) = false := beq_eq_false_iff_ne.mpr c219
          have l7 : (aj != 5) = true := bne_iff_ne.mpr c219
          by_cases c233 : aj = 6
          ·rw [if_pos c233] at H
           have l8 : (aj == 6) = true := beq_iff_eq.mpr c233
           have l9 : (aj != 6) = false := bne_eq_false_iff_eq.mpr c233
           clear c233; replace H := bi_ H; obtain ⟨bq, A2340, H⟩ := H
           replace H : (if bq = true then (some (l1, true)) else ((lodgerref09_Addrs.f kj4 ak al am ao ap aq ar l1).bind fun a9 => ((lodgerref08_Answers.f kj4 ah ae ai af ag 0 0 false a9 ([] : List Int)).bind fun ba => (some (l1, ba))))) = some (r1, r2) := H
           have A234 := Aside0.mk A2340; clear A2340
           by_cases c235 : bq = true
           ·subst c235
            have H1 : (some (l1, true)) = some (r1, r2) := pf_ rfl H
            clear H; have H := H1; clear H1; simp only [Option.some.injEq, Prod.mk.injEq] at H; obtain ⟨rfl, rfl⟩ := H; have rE := az.out; have sm := aA.out; have rF := ax.out; have sn := ay.out; obtain ⟨nh, ni, nj, nk, nl, nm, nn, pF, pG, pH, pI, pJ, pK, pL⟩ := cz7_ (w := wc) aa; have rG := av.out; have so := aw.out; obtain ⟨no, np, nq, pM, pN, pO⟩ := cz3_ (w := wc) ab
            try go_wp2_with (first | ((with_reducible refine gate_callee (f := 25) rfl ?_); refine gM_ (some 30) Tryd.func25 (lodgerref10_Check.calls kj4 ak al _ _ am ao ap aq ar aj an _ _ au aQ _ (cC_ aV HB) aU.out (cC_ aZ HB) a5.out A23.out) ?_; rintro e w241 ⟨rfl, hb⟩; refine ⟨_, rfl, ?_⟩; replace ad := vB_ ad hb; replace ab := bB_ ab hb; replace HB := hS_ HB hb; replace aa := bB_ aa hb; replace ac := bB_ ac hb; (try clear hb); obtain ⟨nr, ns, nt, nu, nv, nw, nx, pP, pQ, pR, pS, pT, pU, pV⟩ := cz7_ (w := w241) aa; obtain ⟨ny, nz, nA, pW, pX, pY⟩ := cz3_ (w := w241) ab) | ((with_reducible refine gate_callee (f := 37) rfl ?_); refine gM_ (some 42) Tryd.func37 (lodgerref05_Offset.calls kj4 ak al an aE bd _ A25.out) ?_; rintro e w244 ⟨rfl, hb⟩; refine ⟨_, rfl, ?_⟩; replace ad := vB_ ad hb; replace ab := bB_ ab hb; replace HB := hS_ HB hb; replace aa := bB_ aa hb; replace ac := bB_ ac hb; (try clear hb)) | ((with_reducible refine gate_callee (f := 21) rfl ?_); refine gM_ (some 47) Tryd.func21 (lodgerref09_Has.calls kj4 _ _ l1 aE aN _ (cD_ (Kd.V_reads' ad.out).2.2) ((Kd.V_reads' ad.out).2.1) A26.out) ?_; rintro e w' ⟨rfl, ⟨nd, rfl⟩⟩; refine ⟨_, rfl, ?_⟩; obtain ⟨nB, nC, nD, pZ, p0, p1⟩ := cz3_ (w := w244) ab))
            (try (rw [drewN_self w244]; generalize hq_ : World.drewN w244 _ = w244; have n0_ := Aside0.mk (V_atq hq_ ad.out); have n1_ := Aside0.mk (blk_at hq_ aa.out); have n2_ := Aside0.mk (blk_at hq_ ab.out); have n3_ := Aside0.mk (blk_at hq_ ac.out); have n4_ := Aside0.mk (below_at hq_ HB.out); clear hq_ ad aa ab ac HB; have ad := n0_; have aa := n1_; have ab := n2_; have ac := n3_; have HB := n4_; clear n0_ n1_ n2_ n3_ n4_))
            replace ad := Aside0.mk (Kd.V_drew ad.out); replace aa := Aside0.mk (blk_drew aa.out); replace ab := Aside0.mk (blk_drew ab.out); replace ac := Aside0.mk (blk_drew ac.out); replace HB := Aside0.mk (below_drew1 HB.out)
            refine start_ (n := 13) (S := fun w' => L5_ w' aX (.int .i64 ah) (.int .u32 ae) (.bool ai) (.slice a0 af.length a2) (.slice a1 ag.length a3)) (ds := []) (tf 13 0) (by kernel_rfl) rfl rfl (cl5_ ac) (fun hHeld => ?_); refine with_tabW lodgerref11_Legal.tab45 lodgerref11_Legal.bits45 (fun HT_ HW_ => ?_)
            generalize w244.drew = w246 at ad aa ab ac HB hHeld ⊢
            refine puU_ 0 163 (tf 13 1) HT_ ?_; refine tkU_ 1 164 (tf 13 3) rfl rfl HT_ HW_ hHeld (by rintro w' ⟨s0, s1, s2, s3, s4⟩; go_simp; with_reducible rfl) ?_
            refine on_ (i := 2) (N := some 165) (tf 13 7) HT_ (fun K hK => ?_)
            refine gN_ Tryd.func36 (lodgerref11_only.calls kj4 ah ae ai _ _ af _ _ ag 11 true _ (cC_ aK HB) aI.out (cC_ aM HB) aJ.out A234.out) ?_
            rintro e w247 ⟨rfl, hb⟩
            refine ⟨_, rfl, ?_⟩
            replace ad := vB_ ad hb; replace aa := bB_ aa hb; replace ab := bB_ ab hb; replace ac := bB_ ac hb; replace HB := hS_ HB hb
            (try clear hb)
            (try clear hb2)
            (try clear hk)
            (try clear hi)
            refine hK.out _ _ (cl5_ ac) (fun hHeld => ?_)
            clear hK K
            refine norm_ (a' := ?_) ?_ ?_
            rotate_left
            ·show Act.put _ (some 165) _ = _
             simp only [Act.put, List.setIfInBounds_toArray, List.set_cons_zero, List.set_cons_succ, i64_w, i32_w]
             rfl
            refine puU_ 3 166 (tf 13 15) HT_ ?_; refine pnU_ 4 167 (tf 13 31) HT_ ?_; refine pnU_ 5 168 (tf 13 63) HT_ ?_; refine pnU_ 6 169 (tf 13 127) HT_ ?_; refine pnU_ 7 170 (tf 13 255) HT_ ?_; refine pnU_ 8 171 (tf 13 511) HT_ ?_; refine pnU_ 9 172 (tf 13 1023) HT_ ?_; refine puU_ 10 173 (tf 13 2047) HT_ ?_; refine puU_ 11 8 (tf 13 4095) HT_ ?_; refine puU_ 12 9 (tf 13 8191) HT_ ?_
            refine done_ (done_of HT_.out (by kernel_rfl)) ?_
            try go_wp2
            go_ret2
            exact ⟨_, er_, Kd.V_mono (vV_ ad) (fun _ hk => hk.1), hB_ HB⟩
           ·replace c235 := Bool.eq_false_iff.mpr c235
            subst c235
            have H1 : ((lodgerref09_Addrs.f kj4 ak al am ao ap aq ar l1).bind fun a9 => ((lodgerref08_Answers.f kj4 ah ae ai af ag 0 0 false a9 ([] : List Int)).bind fun ba => (some (l1, ba)))) = some (r1, r2) := nf_ H
            clear H; have H := H1; clear H1; replace H := bi_ H; obtain ⟨a9, A2480, H⟩ := H
            replace H : ((lodgerref08_Answers.f kj4 ah ae ai af ag 0 0 false a9 ([] : List Int)).bind fun ba => (some (l1, ba))) = some (r1, r2) := H
            have A248 := Aside0.mk A2480; clear A2480; replace H := bi_ H; obtain ⟨ba, A2490, H⟩ := H
            replace H : (some (l1, ba)) = some (r1, r2) := H
            have A249 := Aside0.mk A2490; clear A2490; simp only [Option.some.injEq, Prod.mk.injEq] at H; obtain ⟨rfl, rfl⟩ := H; have rH := az.out; have sp := aA.out; have rI := ax.out; have sq := ay.out; obtain ⟨nE, nF, nG, nH, nI, nJ, nK, p3, p4, p5, p6, p7, p8, p9⟩ := cz7_ (w := wc) aa; have rJ := av.out; have sr := aw.out; obtain ⟨nL, nM, nN, qa, qb, qc⟩ := cz3_ (w := wc) ab
            try go_wp2_with (first | ((with_reducible refine gate_callee (f := 25) rfl ?_); refine gM_ (some 30) Tryd.func25 (lodgerref10_Check.calls kj4 ak al _ _ am ao ap aq ar aj an _ _ au aQ _ (cC_ aV HB) aU.out (cC_ aZ HB) a5.out A23.out) ?_; rintro e w255 ⟨rfl, hb⟩; refine ⟨_, rfl, ?_⟩; replace ad := vB_ ad hb; replace ab := bB_ ab hb; replace HB := hS_ HB hb; replace aa := bB_ aa hb; replace ac := bB_ ac hb; (try clear hb); obtain ⟨nO, nP, nQ, nR, nS, nT, nU, qd, qe, qf, qg, qh, qi, qj⟩ := cz7_ (w := w255) aa; obtain ⟨nV, nW, nX, qk, ql, qm⟩ := cz3_ (w := w255) ab) | ((with_reducible refine gate_callee (f := 37) rfl ?_); refine gM_ (some 42) Tryd.func37 (lodgerref05_Offset.calls kj4 ak al an aE bd _ A25.out) ?_; rintro e w258 ⟨rfl, hb⟩; refine ⟨_, rfl, ?_⟩; replace ad := vB_ ad hb; replace ab := bB_ ab hb; replace HB := hS_ HB hb; replace aa := bB_ aa hb; replace ac := bB_ ac hb; (try clear hb)) | ((with_reducible refine gate_callee (f := 21) rfl ?_); refine gM_ (some 47) Tryd.func21 (lodgerref09_Has.calls kj4 _ _ l1 aE aN _ (cD_ (Kd.V_reads' ad.out).2.2) ((Kd.V_reads' ad.out).2.1) A26.out) ?_; rintro e w' ⟨rfl, ⟨nd, rfl⟩⟩; refine ⟨_, rfl, ?_⟩; obtain ⟨nY, nZ, n0, qn, qo, qp⟩ := cz3_ (w := w258) ab))
            (try (rw [drewN_self w258]; generalize hq_ : World.drewN w258 _ = w258; have n0_ := Aside0.mk (V_atq hq_ ad.out); have n1_ := Aside0.mk (blk_at hq_ aa.out); have n2_ := Aside0.mk (blk_at hq_ ab.out); have n3_ := Aside0.mk (blk_at hq_ ac.out); have n4_ := Aside0.mk (below_at hq_ HB.out); clear hq_ ad aa ab ac HB; have ad := n0_; have aa := n1_; have ab := n2_; have ac := n3_; have HB := n4_; clear n0_ n1_ n2_ n3_ n4_))
            replace ad := Aside0.mk (Kd.V_drew ad.out); replace aa := Aside0.mk (blk_drew aa.out); replace ab := Aside0.mk (blk_drew ab.out); replace ac := Aside0.mk (blk_drew ac.out); replace HB := Aside0.mk (below_drew1 HB.out)
            refine start_ (n := 13) (S := fun w' => P5_ w' aX (.int .i64 ah) (.int .u32 ae) (.bool ai) (.slice a0 af.length a2) (.slice a1 ag.length a3) (L7_ w' aR (.int .u32 ak) (.int .i64 al) (.slice bi am.length bj) (.int .i64 ao) (.int .i64 ap) (.int .i64 aq) (.int .i64 ar))) (ds := []) (tf 13 0) (by kernel_rfl) rfl rfl (ck5_ ac (cl7_ aa)) (fun hHeld => ?_); refine with_tabW lodgerref11_Legal.tab45 lodgerref11_Legal.bits45 (fun HT_ HW_ => ?_)
            generalize w258.drew = w260 at ad aa ab ac HB hHeld ⊢
            refine puU_ 0 163 (tf 13 1) HT_ ?_; refine tkU_ 1 164 (tf 13 3) rfl rfl HT_ HW_ hHeld (by rintro w' ⟨s0, s1, s2, s3, s4, s5, s6, s7, s8, s9, s10, s11⟩; go_simp; with_reducible rfl) ?_
            refine on_ (i := 2) (N := some 165) (tf 13 7) HT_ (fun K hK => ?_)
            refine gN_ Tryd.func36 (lodgerref11_only.calls kj4 ah ae ai _ _ af _ _ ag 11 false _ (cC_ aK HB) aI.out (cC_ aM HB) aJ.out A234.out) ?_
            rintro e w261 ⟨rfl, hb⟩
            refine ⟨_, rfl, ?_⟩
            replace ad := vB_ ad hb; replace aa := bB_ aa hb; replace ab := bB_ ab hb; replace ac := bB_ ac hb; replace HB := hS_ HB hb
            (try clear hb)
            (try clear hb2)
            (try clear hk)
            (try clear hi)
            refine hK.out _ _ (ck5_ ac (cl7_ aa)) (fun hHeld => ?_)
            clear hK K
            refine norm_ (a' := ?_) ?_ ?_
            rotate_left
            ·show Act.put _ (some 165) _ = _
             simp only [Act.put, List.setIfInBounds_toArray, List.set_cons_zero, List.set_cons_succ, i64_w, i32_w]
             rfl
            refine puU_ 3 166 (tf 13 15) HT_ ?_; refine puU_ 6 169 (tf 13 79) HT_ ?_; refine tkU_ 4 167 (tf 13 95) rfl rfl HT_ HW_ hHeld (by rintro w' ⟨s0, s1, s2, s3, s4, s5, s6, s7, s8, s9, s10, s11⟩; go_simp; with_reducible rfl) ?_; refine tkU_ 5 168 (tf 13 127) rfl rfl HT_ HW_ hHeld (by rintro w' ⟨s0, s1, s2, s3, s4, s5, s6, s7, s8, s9, s10, s11⟩; go_simp; with_reducible rfl) ?_
            refine on_ (i := 7) (N := some 170) (tf 13 255) HT_ (fun K hK => ?_)
            refine gN_ Tryd.func39 (lodgerref09_Addrs.calls kj4 ak al _ _ am ao ap aq ar _ _ l1 a9 _ (cC_ aV HB) aU.out (cD_ (Kd.V_reads' ad.out).2.2) ((Kd.V_reads' ad.out).2.1) A248.out) ?_
            rintro e w262 ⟨v636, rfl, ho0, hb⟩
            refine ⟨_, rfl, ?_⟩
            replace ad := Aside0.mk (Kd.V_elder' (vV_ ad) (Kd.R_base ho0) hb); have bv := Aside0.mk (Kd.R_lower (Kd.R_newM (M := fun k_ => (w.heap.size ≤ k_)) ho0 (below_size (hB_ HB)) (fun k_ h_ => h_)) (below_size (hB_ HB))); replace aa := bB_ aa hb; replace ab := bB_ ab hb; replace ac := bB_ ac hb; replace HB := hS_ HB hb
            (try clear hb)
            (try clear hb2)
            (try clear hk)
            (try clear hi)
            (try clear ho0)
            obtain ⟨mf, mp, eo263⟩ := Kd.R_slice bv.out
            (first | subst eo263 | (injection eo263 with f1_ f2_ f3_; have f4_ := f1_.symm; have f5_ := f3_.symm; clear f1_ f2_ f3_; subst f4_; subst f5_))
            refine hK.out _ _ (ck5_ ac (cl7_ aa)) (fun hHeld => ?_)
            clear hK K
            refine norm_ (a' := ?_) ?_ ?_
            rotate_left
            ·show Act.put _ (some 170) _ = _
             simp only [Act.put, List.setIfInBounds_toArray, List.set_cons_zero, List.set_cons_succ, i64_w, i32_w]
             rfl
            refine puU_ 8 171 (tf 13 511) HT_ ?_
            refine on_ (i := 9) (N := some 172) (tf 13 1023) HT_ (fun K hK => ?_)
            refine goes_ Tryd.func18 (by kernel_rfl) rfl #[.agg #[.int .i64 ah, .int .u32 ae, .bool ai, .slice a0 af.length a2, .slice a1 ag.length a3], .agg #[.int .i64 0, .int .u32 0, .bool false, .slice mf a9.length mp, .slice none 0 0]] (by rfl) rfl rfl am_ ?_
            refine (lodgerref08_Answers.calls kj4 ah ae ai _ _ af _ _ ag 0 0 false _ _ a9 _ _ ([] : List Int) ba _ ?side1 ?side2 ?side3 ?side4 ?side5 ?side6 ?side7 ?side8 A249.out).mono ?_
            (case side1 => exact cC_ aK HB)
            (case side2 => exact aI.out)
            (case side3 => exact cC_ aM HB)
            (case side4 => exact aJ.out)
            (case side5 => exact cD_ (Kd.R_reads' bv.out).2.2)
            (case side6 => exact (Kd.R_reads' bv.out).2.1)
            (case side7 => exact Kd.C_nil _ _)
            (case side8 => exact Nat.le_refl _)
            rintro e w264 ⟨rfl, hb⟩
            refine ⟨_, rfl, ?_⟩
            replace ad := vB_ ad hb; replace bv := rB_ bv hb; replace aa := bB_ aa hb; replace ab := bB_ ab hb; replace ac := bB_ ac hb; replace HB := hS_ HB hb
            (try clear hb)
            (try clear hb2)
            (try clear hk)
            (try clear hi)
            refine hK.out _ _ (ck5_ ac (cl7_ aa)) (fun hHeld => ?_)
            clear hK K
            refine norm_ (a' := ?_) ?_ ?_
            rotate_left
            ·show Act.put _ (some 172) _ = _
             simp only [Act.put, List.setIfInBounds_toArray, List.set_cons_zero, List.set_cons_succ, i64_w, i32_w]
             rfl
            refine puU_ 10 173 (tf 13 2047) HT_ ?_; refine puU_ 11 8 (tf 13 4095) HT_ ?_; refine puU_ 12 9 (tf 13 8191) HT_ ?_
            refine done_ (done_of HT_.out (by kernel_rfl)) ?_
            try go_wp2
            go_ret2
            exact ⟨_, er_, Kd.V_mono (vV_ ad) (fun _ hk => hk.1.1), hB_ HB⟩
          ·rw [if_neg c233] at H
           have l8 : (aj == 6) = false := beq_eq_false_iff_ne.mpr c233
           have l9 : (aj != 6) = true := bne_iff_ne.mpr c233
           replace H := bi_ H; obtain ⟨br, A2650, H⟩ := H
           replace H : (some (l1, br)) = some (r1, r2) := H
           have A265 := Aside0.mk A2650; clear A2650; simp only [Option.some.injEq, Prod.mk.injEq] at H; obtain ⟨rfl, rfl⟩ := H; have rK := az.out; have ss := aA.out; have rL := ax.out; have st := ay.out; obtain ⟨n1, n2, n3, n4, n5, n6, n7, qq, qr, qs, qt, qu, qv, qw⟩ := cz7_ (w := wc) aa; have rM := av.out; have su := aw.out; obtain ⟨n8, n9, oa, qx, qy, qz⟩ := cz3_ (w := wc) ab
           go_wp2_with (first | ((with_reducible refine gate_callee (f := 25) rfl ?_); refine gM_ (some 30) Tryd.func25 (lodgerref10_Check.calls kj4 ak al _ _ am ao ap aq ar aj an _ _ au aQ _ (cC_ aV HB) aU.out (cC_ aZ HB) a5.out A23.out) ?_; rintro e w271 ⟨rfl, hb⟩; refine ⟨_, rfl, ?_⟩; replace ad := vB_ ad hb; replace ab := bB_ ab hb; replace HB := hS_ HB hb; replace aa := bB_ aa hb; replace ac := bB_ ac hb; (try clear hb); obtain ⟨ob, oc, od, oe, og, oh, oj, qA, qB, qC, qD, qE, qF, qG⟩ := cz7_ (w := w271) aa; obtain ⟨ol, om, on, qH, qI, qJ⟩ := cz3_ (w := w271) ab) | ((with_reducible refine gate_callee (f := 37) rfl ?_); refine gM_ (some 42) Tryd.func37 (lodgerref05_Offset.calls kj4 ak al an aE bd _ A25.out) ?_; rintro e w274 ⟨rfl, hb⟩; refine ⟨_, rfl, ?_⟩; replace ad := vB_ ad hb; replace ab := bB_ ab hb; replace HB := hS_ HB hb; replace aa := bB_ aa hb; replace ac := bB_ ac hb; (try clear hb)) | ((with_reducible refine gate_callee (f := 21) rfl ?_); refine gM_ (some 47) Tryd.func21 (lodgerref09_Has.calls kj4 _ _ l1 aE aN _ (cD_ (Kd.V_reads' ad.out).2.2) ((Kd.V_reads' ad.out).2.1) A26.out) ?_; rintro e w' ⟨rfl, ⟨nd, rfl⟩⟩; refine ⟨_, rfl, ?_⟩; obtain ⟨oo, op, oq, qK, qL, qM⟩ := cz3_ (w := w274) ab; obtain ⟨ot, ou, ov, ow, ox, qN, qO, qP, qQ, qR⟩ := cz5_ (w := w274) ac) | ((with_reducible refine gate_callee (f := 36) rfl ?_); refine gM_ (some 176) Tryd.func36 (lodgerref11_only.calls kj4 ah ae ai _ _ af _ _ ag 0 br _ (cD_ (Kd.C_below aK.out (hB_ HB))) aI.out (cD_ (Kd.C_below aM.out (hB_ HB))) aJ.out A265.out) ?_; rintro e w277 ⟨rfl, hb⟩; refine ⟨_, rfl, ?_⟩; replace ad := vB_ ad hb; replace ab := bB_ ab hb; replace HB := hS_ HB hb; replace aa := bB_ aa hb; replace ac := bB_ ac hb; (try clear hb)))
           go_ret2
           exact ⟨_, er_, Kd.V_mono (vV_ ad) (fun _ hk => hk.1), hB_ HB⟩
    ·rw [if_neg c24] at H
     have fg : (aQ == 0) = false := beq_eq_false_iff_ne.mpr c24
     have fh : (aQ != 0) = true := bne_iff_ne.mpr c24
     replace H := bi_ H; obtain ⟨b3, A2780, H⟩ := H
     replace H : (some (l1, b3)) = some (r1, r2) := H
     have A278 := Aside0.mk A2780; clear A2780; simp only [Option.some.injEq, Prod.mk.injEq] at H; obtain ⟨rfl, rfl⟩ := H; have rN := az.out; have sv := aA.out; have rO := ax.out; have sw := ay.out; obtain ⟨oy, oz, oA, oB, oC, oD, oE, qS, qT, qU, qV, qW, qX, qY⟩ := cz7_ (w := wc) aa; have rP := av.out; have sx := aw.out; obtain ⟨oF, oG, oH, qZ, q0, q1⟩ := cz3_ (w := wc) ab
     go_wp2_with (first | ((with_reducible refine gate_callee (f := 25) rfl ?_); refine gM_ (some 30) Tryd.func25 (lodgerref10_Check.calls kj4 ak al _ _ am ao ap aq ar aj an _ _ au aQ _ (cC_ aV HB) aU.out (cC_ aZ HB) a5.out A23.out) ?_; rintro e w284 ⟨rfl, hb⟩; refine ⟨_, rfl, ?_⟩; replace ad := vB_ ad hb; replace HB := hS_ HB hb; replace ac := bB_ ac hb; (try clear hb); obtain ⟨oI, oJ, oK, oL, oM, q2, q3, q4, q5, q6⟩ := cz5_ (w := w284) ac) | ((with_reducible refine gate_callee (f := 36) rfl ?_); refine gM_ (some 36) Tryd.func36 (lodgerref11_only.calls kj4 ah ae ai _ _ af _ _ ag aQ b3 _ (cC_ aK HB) aI.out (cC_ aM HB) aJ.out A278.out) ?_; rintro e w286 ⟨rfl, hb⟩; refine ⟨_, rfl, ?_⟩; replace ad := vB_ ad hb; replace HB := hS_ HB hb; (try clear hb)))
     go_ret2
     exact ⟨_, er_, Kd.V_mono (vV_ ad) (fun _ hk => hk.1), hB_ HB⟩

end Go.Proofs.YtkiimboedgnoiaaDoor.PSpecTells
