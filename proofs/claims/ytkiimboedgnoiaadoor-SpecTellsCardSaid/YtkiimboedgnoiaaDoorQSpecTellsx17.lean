/- The walk of SpecTells, part of it: what the Go functions answer; no condition. -/
import Derived.Test.YtkiimboedgnoiaaDoorQSpecTellsx0
import Derived.Test.YtkiimboedgnoiaaDoorQSpecTellsx1
import Derived.Test.YtkiimboedgnoiaaDoorQSpecTellsx8
import Derived.Test.YtkiimboedgnoiaaDoorQSpecTellsx12
import Derived.Test.YtkiimboedgnoiaaDoorQSpecTellsx13
import Derived.Test.YtkiimboedgnoiaaDoorQSpecTellsx14
import Derived.Test.YtkiimboedgnoiaaDoorQSpecTellsx15
import Derived.Test.YtkiimboedgnoiaaDoorQSpecTellsx16
namespace Go.Proofs.YtkiimboedgnoiaaDoor.PSpecTells
open Go.RowKit Go.Proofs.YtkiimboedgnoiaaDoorW.PrintWords Go.Proofs.YtkiimboedgnoiaaDoorW.PrintLast Go.Proofs.YtkiimboedgnoiaaDoorW.PrintMore
attribute [local go_sem] max2_int min2_int max_two min_two max_three min_three max_four min_four   -- for this text's walks alone
set_option linter.unusedVariables false
set_option linter.unusedSimpArgs false

/-! ### lodgerref11_Some: function 16 -/
mutual
def lodgerref11_Some.l0 : Nat → List Int → Int → Int → Int → List Int → Int → Int → Int → Int → Int → Int → List Int → Option (List Int × Int × Int × Bool × List Int × List Int)
 | 0, _, _, _, _, _, _, _, _, _, _, _, _ => none
 | k + 1, x1, x12, x641000, x641001, x641002, x641003, x641004, x641005, x641006, x642000, x642001, x642002 => (lodgerref05_Many.f k x641000 x641001).bind fun t647 => (if x12 < t647 then ((lodgerref11_Legal.f k x641000 x641001 x641002 x641003 x641004 x641005 x641006 x1 x642000 x642001 x642002 0 ((x641000 + (x12)) % 4294967296) false ([] : List Int) ([] : List Int)).bind fun bt649 => (if bt649.2 = true then (some (bt649.1, 0, (x641000 + (x12)) % 4294967296, false, ([] : List Int), ([] : List Int))) else (lodgerref11_Some.l0 k x1 (wrap64 (x12 + 1)) x641000 x641001 x641002 x641003 x641004 x641005 x641006 x642000 x642001 x642002))) else (some (x1, 9, 0, false, ([] : List Int), ([] : List Int))))
def lodgerref11_Some.l1 : Nat → List Int → List Int → Int → Int → Int → List Int → Int → Int → Int → Int → Int → Int → List Int → Option (List Int × Int × Int × Bool × List Int × List Int)
 | 0, _, _, _, _, _, _, _, _, _, _, _, _, _ => none
 | k + 1, x16, x17, x18, x641000, x641001, x641002, x641003, x641004, x641005, x641006, x642000, x642001, x642002 => if x18 < (x642002.length : Int) then (if 0 ≤ x18 then ((lodgerref05_Offset.f k x641000 x641001 (rd x642002 x18)).bind fun bt660 => ((lodgerref09_Has.f k x17 bt660.1).bind fun t662 => (if t662 = true then (if x16.length < 17592186044416 then ((lodgerref09_Without.f k x17 bt660.1).bind fun t666 => (lodgerref11_Some.l1 k (x16 ++ [0]) t666 (wrap64 (x18 + 1)) x641000 x641001 x641002 x641003 x641004 x641005 x641006 x642000 x642001 x642002)) else (none)) else (if x16.length < 17592186044416 then ((lodgerref09_Without.f k x17 bt660.1).bind fun t672 => (lodgerref11_Some.l1 k (x16 ++ [6]) t672 (wrap64 (x18 + 1)) x641000 x641001 x641002 x641003 x641004 x641005 x641006 x642000 x642001 x642002)) else (none))))) else (none)) else (some (x17, 0, 0, false, ([] : List Int), x16))
end
def lodgerref11_Some.f (k : Nat) (a0_0 a0_1 : Int) (l0_2 : List Int) (a0_3 a0_4 : Int) (a0_5 a0_6 : Int) (l1 : List Int) (a2_0 a2_1 : Int) (l2_2 : List Int) : Option (List Int × Int × Int × Bool × List Int × List Int) := (lodgerref10_Check.f k a0_0 a0_1 l0_2 a0_3 a0_4 a0_5 a0_6 a2_0 a2_1 l2_2).bind fun t643 => (if t643 = 0 then ((lodgerref05_Offset.f k a0_0 a0_1 a2_1).bind fun bt644 => ((lodgerref09_Has.f k l1 bt644.1).bind fun t646 => (if a2_0 = 1 then (lodgerref11_Some.l0 k l1 0 a0_0 a0_1 l0_2 a0_3 a0_4 a0_5 a0_6 a2_0 a2_1 l2_2) else (if a2_0 = 2 then (if t646 = true then (some (l1, 5, 0, false, ([] : List Int), ([] : List Int))) else ((lodgerref09_With.f k l1 bt644.1).bind fun t653 => (some (t653, 0, a2_1, false, ([] : List Int), ([] : List Int))))) else (if a2_0 = 3 then (if t646 = true then ((lodgerref09_Without.f k l1 bt644.1).bind fun t656 => (some (t656, 0, 0, false, ([] : List Int), ([] : List Int)))) else (some (l1, 6, 0, false, ([] : List Int), ([] : List Int)))) else (if a2_0 = 4 then (lodgerref11_Some.l1 k ([] : List Int) l1 0 a0_0 a0_1 l0_2 a0_3 a0_4 a0_5 a0_6 a2_0 a2_1 l2_2) else (if a2_0 = 5 then (some (l1, 0, 0, t646, ([] : List Int), ([] : List Int))) else (if a2_0 = 6 then ((lodgerref09_Addrs.f k a0_0 a0_1 l0_2 a0_3 a0_4 a0_5 a0_6 l1).bind fun t675 => (some (l1, 0, 0, false, t675, ([] : List Int)))) else (some (l1, 0, 0, false, ([] : List Int), ([] : List Int))))))))))) else (some (l1, t643, 0, false, ([] : List Int), ([] : List Int))))
theorem lodgerref11_Some.mono_l : ∀ k, (∀ y0 y1 y2 y3 y4 y5 y6 y7 y8 y9 y10 y11, LeO (lodgerref11_Some.l0 k y0 y1 y2 y3 y4 y5 y6 y7 y8 y9 y10 y11) (lodgerref11_Some.l0 (k + 1) y0 y1 y2 y3 y4 y5 y6 y7 y8 y9 y10 y11)) ∧ (∀ y0 y1 y2 y3 y4 y5 y6 y7 y8 y9 y10 y11 y12, LeO (lodgerref11_Some.l1 k y0 y1 y2 y3 y4 y5 y6 y7 y8 y9 y10 y11 y12) (lodgerref11_Some.l1 (k + 1) y0 y1 y2 y3 y4 y5 y6 y7 y8 y9 y10 y11 y12))
 | 0 => ⟨fun _ _ _ _ _ _ _ _ _ _ _ _ r h => by simp [lodgerref11_Some.l0] at h, fun _ _ _ _ _ _ _ _ _ _ _ _ _ r h => by simp [lodgerref11_Some.l1] at h⟩
 | k + 1 => by
  obtain ⟨ih0, ih1⟩ := lodgerref11_Some.mono_l k
  refine ⟨?_, ?_⟩
  ·intro y0 y1 y2 y3 y4 y5 y6 y7 y8 y9 y10 y11
   unfold lodgerref11_Some.l0
   repeat' (with_reducible first | apply ih0 | apply ih1 | apply lodgerref05_Many.mono | apply lodgerref05_Offset.mono | apply lodgerref09_Addrs.mono | apply lodgerref09_Has.mono | apply lodgerref09_With.mono | apply lodgerref09_Without.mono | apply lodgerref10_Check.mono | apply lodgerref11_Legal.mono | exact LeO.refl _ | exact LeO.none _ | refine LeO.ite ?_ ?_ | refine LeO.bind ?_ (fun _ => ?_))
  ·intro y0 y1 y2 y3 y4 y5 y6 y7 y8 y9 y10 y11 y12
   unfold lodgerref11_Some.l1
   repeat' (with_reducible first | apply ih0 | apply ih1 | apply lodgerref05_Many.mono | apply lodgerref05_Offset.mono | apply lodgerref09_Addrs.mono | apply lodgerref09_Has.mono | apply lodgerref09_With.mono | apply lodgerref09_Without.mono | apply lodgerref10_Check.mono | apply lodgerref11_Legal.mono | exact LeO.refl _ | exact LeO.none _ | refine LeO.ite ?_ ?_ | refine LeO.bind ?_ (fun _ => ?_))
theorem lodgerref11_Some.mono : ∀ a0 a1 a2 a3 a4 a5 a6 a7 a8 a9 a10 k, LeO (lodgerref11_Some.f k a0 a1 a2 a3 a4 a5 a6 a7 a8 a9 a10) (lodgerref11_Some.f (k + 1) a0 a1 a2 a3 a4 a5 a6 a7 a8 a9 a10) := by
 intro a0 a1 a2 a3 a4 a5 a6 a7 a8 a9 a10 k
 obtain ⟨ih0, ih1⟩ := lodgerref11_Some.mono_l k
 unfold lodgerref11_Some.f
 repeat' (with_reducible first | apply ih0 | apply ih1 | apply lodgerref05_Many.mono | apply lodgerref05_Offset.mono | apply lodgerref09_Addrs.mono | apply lodgerref09_Has.mono | apply lodgerref09_With.mono | apply lodgerref09_Without.mono | apply lodgerref10_Check.mono | apply lodgerref11_Legal.mono | exact LeO.refl _ | exact LeO.none _ | refine LeO.ite ?_ ?_ | refine LeO.bind ?_ (fun _ => ?_))
def lodgerref11_Some.T19 : Bool × List (List Nat × List Nat) := (true, [([], []), ([], []), ([0, 1], [0, 1]), ([], []), ([3], [3]), ([4], [4]), ([2, 2, 0, 1, 2], [2]), ([5, 6, 0, 1, 2, 3, 4, 5, 6], [5])])
def lodgerref11_Some.B19 : List Nat := [0, 0, 3, 0, 8, 24, 7, 127]
theorem lodgerref11_Some.tab19 : rtab .any (opsOf Tryd.f16 19) = lodgerref11_Some.T19 := by kernel_rfl
theorem lodgerref11_Some.bits19 : waitsOk lodgerref11_Some.T19.2 lodgerref11_Some.B19 = true := by kernel_rfl
def lodgerref11_Some.T30 : Bool × List (List Nat × List Nat) := (true, [([], []), ([0], [0]), ([], []), ([2], [2]), ([], []), ([3, 4], [3, 4]), ([5], [5]), ([1, 6], [1, 6]), ([7], [7]), ([8], [8]), ([8], [8]), ([9, 7, 0, 1, 2, 3, 4, 5, 6, 7, 8, 9], [9]), ([10, 11, 0, 1, 2, 3, 4, 5, 6, 7, 8, 9, 10, 11], [10])])
def lodgerref11_Some.B30 : List Nat := [0, 1, 0, 4, 0, 28, 60, 127, 255, 511, 511, 1023, 4095]
theorem lodgerref11_Some.tab30 : rtab .any (opsOf Tryd.f16 30) = lodgerref11_Some.T30 := by kernel_rfl
theorem lodgerref11_Some.bits30 : waitsOk lodgerref11_Some.T30.2 lodgerref11_Some.B30 = true := by kernel_rfl
set_option maxHeartbeats 8000000 in
set_option maxRecDepth 100000 in
theorem lodgerref11_Some.calls (k : Nat) (ah aj : Int) (aR : Option Addr) (aT : Nat) (ap : List Int) (aq ar : Int) (au av : Int) (P1_ : Nat → Prop) (A1 : Option Addr) (c1 : Nat) (l1 : List Int) (af ak : Int) (aW : Option Addr) (aN : Nat) (ao r1 : List Int) (r2 r3 : Int) (r4 : Bool) (r5 r6 : List Int) (w : World) (hr0_2 : Kd.C (Kd.int .i64) w aR ap.length ap) (hc0_2 : ap.length ≤ aT) (pZ : Kd.V (Kd.int .i64) 3 w w.heap.size (fun k_ => P1_ k_) (.slice A1 l1.length c1) l1) (hr2_2 : Kd.C (Kd.int .u32) w aW ao.length ao) (hc2_2 : ao.length ≤ aN) (h : lodgerref11_Some.f k ah aj ap aq ar au av l1 af ak ao = some (r1, r2, r3, r4, r5, r6)) :
  Calls Tryd.prog 16 #[.agg #[.int .u32 ah, .int .i64 aj, .slice aR ap.length aT, .int .i64 aq, .int .i64 ar, .int .i64 au, .int .i64 av], .slice A1 l1.length c1, .agg #[.int .i64 af, .int .u32 ak, .slice aW ao.length aN]] w fun e w' => ∃ v0_ v4_ v5_ : Value, e = .returned (.tuple #[v0_, .agg #[.int .i64 r2, .int .u32 r3, .bool r4, v4_, v5_]]) ∧ Kd.V (Kd.int .i64) 3 w' w.heap.size (fun k_ => (P1_ k_ ∨ w.heap.size ≤ k_) ∧ some k_ ≠ (v4_ : Value).ownBlock ∧ some k_ ≠ (v5_ : Value).ownBlock) v0_ r1 ∧ Kd.R (Kd.int .u32) 22 w' w.heap.size (fun k_ => (w.heap.size ≤ k_)) v4_ r5 ∧ Kd.R (Kd.int .i64) 31 w' w.heap.size (fun k_ => (w.heap.size ≤ k_)) v5_ r6 ∧ Below w.heap.size w w' := by
 have hu27 := Tryd.underlying27
 have hu30 := Tryd.underlying30
 have hu34 := Tryd.underlying34
 have hu24 := Tryd.underlying24
 have aZ := Aside0.mk hr0_2
 have aY := Aside0.mk hc0_2
 clear hr0_2 hc0_2
 have ae := Aside0.mk (show Kd.V (Kd.int .i64) 3 w w.heap.size (fun k_ => (P1_ k_ ∨ w.heap.size ≤ k_)) (.slice A1 l1.length c1) l1 from Kd.V_mono pZ (fun k_ hk => .inl hk))
 have aX := Aside0.mk hr2_2
 have a0 := Aside0.mk hc2_2
 clear hr2_2 hc2_2
 have HB := Aside0.mk (Below.refl w.heap.size w)
 have H : ((lodgerref10_Check.f k ah aj ap aq ar au av af ak ao).bind fun aU => (if aU = 0 then ((lodgerref05_Offset.f k ah aj ak).bind fun bt644 => ((lodgerref09_Has.f k l1 bt644.1).bind fun aQ => (if af = 1 then (lodgerref11_Some.l0 k l1 0 ah aj ap aq ar au av af ak ao) else (if af = 2 then (if aQ = true then (some (l1, 5, 0, false, ([] : List Int), ([] : List Int))) else ((lodgerref09_With.f k l1 bt644.1).bind fun a7 => (some (a7, 0, ak, false, ([] : List Int), ([] : List Int))))) else (if af = 3 then (if aQ = true then ((lodgerref09_Without.f k l1 bt644.1).bind fun a8 => (some (a8, 0, 0, false, ([] : List Int), ([] : List Int)))) else (some (l1, 6, 0, false, ([] : List Int), ([] : List Int)))) else (if af = 4 then (lodgerref11_Some.l1 k ([] : List Int) l1 0 ah aj ap aq ar au av af ak ao) else (if af = 5 then (some (l1, 0, 0, aQ, ([] : List Int), ([] : List Int))) else (if af = 6 then ((lodgerref09_Addrs.f k ah aj ap aq ar au av l1).bind fun bh => (some (l1, 0, 0, false, bh, ([] : List Int)))) else (some (l1, 0, 0, false, ([] : List Int), ([] : List Int))))))))))) else (some (l1, aU, 0, false, ([] : List Int), ([] : List Int))))) = some (r1, r2, r3, r4, r5, r6) := h
 clear h
 replace H := bi_ H
 obtain ⟨aU, A40, H⟩ := H
 replace H : (if aU = 0 then ((lodgerref05_Offset.f k ah aj ak).bind fun bt644 => ((lodgerref09_Has.f k l1 bt644.1).bind fun aQ => (if af = 1 then (lodgerref11_Some.l0 k l1 0 ah aj ap aq ar au av af ak ao) else (if af = 2 then (if aQ = true then (some (l1, 5, 0, false, ([] : List Int), ([] : List Int))) else ((lodgerref09_With.f k l1 bt644.1).bind fun a7 => (some (a7, 0, ak, false, ([] : List Int), ([] : List Int))))) else (if af = 3 then (if aQ = true then ((lodgerref09_Without.f k l1 bt644.1).bind fun a8 => (some (a8, 0, 0, false, ([] : List Int), ([] : List Int)))) else (some (l1, 6, 0, false, ([] : List Int), ([] : List Int)))) else (if af = 4 then (lodgerref11_Some.l1 k ([] : List Int) l1 0 ah aj ap aq ar au av af ak ao) else (if af = 5 then (some (l1, 0, 0, aQ, ([] : List Int), ([] : List Int))) else (if af = 6 then ((lodgerref09_Addrs.f k ah aj ap aq ar au av l1).bind fun bh => (some (l1, 0, 0, false, bh, ([] : List Int)))) else (some (l1, 0, 0, false, ([] : List Int), ([] : List Int))))))))))) else (some (l1, aU, 0, false, ([] : List Int), ([] : List Int)))) = some (r1, r2, r3, r4, r5, r6) := H
 have A4 := Aside0.mk A40
 clear A40
 by_cases c5 : aU = 0
 ·rw [if_pos c5] at H
  have cg : (aU == 0) = true := beq_iff_eq.mpr c5
  have ch : (aU != 0) = false := bne_eq_false_iff_eq.mpr c5
  clear c5; replace H := bi_ H; obtain ⟨⟨aJ, bi⟩, A60, H⟩ := H
  replace H : ((lodgerref09_Has.f k l1 aJ).bind fun aQ => (if af = 1 then (lodgerref11_Some.l0 k l1 0 ah aj ap aq ar au av af ak ao) else (if af = 2 then (if aQ = true then (some (l1, 5, 0, false, ([] : List Int), ([] : List Int))) else ((lodgerref09_With.f k l1 aJ).bind fun a7 => (some (a7, 0, ak, false, ([] : List Int), ([] : List Int))))) else (if af = 3 then (if aQ = true then ((lodgerref09_Without.f k l1 aJ).bind fun a8 => (some (a8, 0, 0, false, ([] : List Int), ([] : List Int)))) else (some (l1, 6, 0, false, ([] : List Int), ([] : List Int)))) else (if af = 4 then (lodgerref11_Some.l1 k ([] : List Int) l1 0 ah aj ap aq ar au av af ak ao) else (if af = 5 then (some (l1, 0, 0, aQ, ([] : List Int), ([] : List Int))) else (if af = 6 then ((lodgerref09_Addrs.f k ah aj ap aq ar au av l1).bind fun bh => (some (l1, 0, 0, false, bh, ([] : List Int)))) else (some (l1, 0, 0, false, ([] : List Int), ([] : List Int)))))))))) = some (r1, r2, r3, r4, r5, r6) := H
  have A6 := Aside0.mk A60; clear A60; replace H := bi_ H; obtain ⟨aQ, A70, H⟩ := H
  replace H : (if af = 1 then (lodgerref11_Some.l0 k l1 0 ah aj ap aq ar au av af ak ao) else (if af = 2 then (if aQ = true then (some (l1, 5, 0, false, ([] : List Int), ([] : List Int))) else ((lodgerref09_With.f k l1 aJ).bind fun a7 => (some (a7, 0, ak, false, ([] : List Int), ([] : List Int))))) else (if af = 3 then (if aQ = true then ((lodgerref09_Without.f k l1 aJ).bind fun a8 => (some (a8, 0, 0, false, ([] : List Int), ([] : List Int)))) else (some (l1, 6, 0, false, ([] : List Int), ([] : List Int)))) else (if af = 4 then (lodgerref11_Some.l1 k ([] : List Int) l1 0 ah aj ap aq ar au av af ak ao) else (if af = 5 then (some (l1, 0, 0, aQ, ([] : List Int), ([] : List Int))) else (if af = 6 then ((lodgerref09_Addrs.f k ah aj ap aq ar au av l1).bind fun bh => (some (l1, 0, 0, false, bh, ([] : List Int)))) else (some (l1, 0, 0, false, ([] : List Int), ([] : List Int))))))))) = some (r1, r2, r3, r4, r5, r6) := H
  have A7 := Aside0.mk A70; clear A70
  by_cases c8 : af = 1
  ·rw [if_pos c8] at H
   have ci : (af == 1) = true := beq_iff_eq.mpr c8
   have cj : (af != 1) = false := bne_eq_false_iff_eq.mpr c8
   clear c8
   have H' := Aside0.mk H
   clear H
   go_enter Tryd.func16, Tryd.ntmps16
   go_wp2_with (first | ((with_reducible refine gd_ 3 ?_); refine box_event ?hg (N := 3) ?hd (cs := #[.int .u32 ah, .int .i64 aj, .slice aR ap.length aT, .int .i64 aq, .int .i64 ar, .int .i64 au, .int .i64 av]) (t := 27) ?hr ?_; (case hd => rfl); (case hg => rfl); (case hr => first | (go_simp; done) | (go_simp; rfl)); intro aC hg w9 hbox hb; replace ae := vE_ ae hg hb; have aa := Aside0.mk (hbox); have bc := gG_ hg HB; have a9 := gG_ hg HB; replace HB := hS_ HB hb; clear hb hbox hg) | ((with_reducible refine gd_ 5 ?_); refine box_event ?hg (N := 5) ?hd (cs := #[.int .i64 af, .int .u32 ak, .slice aW ao.length aN]) (t := 30) ?hr ?_; (case hd => rfl); (case hg => rfl); (case hr => first | (go_simp; done) | (go_simp; rfl)); intro az hg w10 hbox hb; replace ae := vE_ ae hg hb; have ab := Aside0.mk (hbox); have bd := gG_ hg HB; have ba := gG_ hg HB; replace HB := hS_ HB hb; have aw := nL_ hg aa; have ax := nG_ hg aa; replace aa := bB_ aa hb; clear hb hbox hg) | ((with_reducible refine gd_ 7 ?_); refine box_event ?hg (N := 7) ?hd (cs := #[.int .i64 0, .int .u32 0, .bool false, .slice none 0 0, .slice none 0 0]) (t := 34) ?hr ?_; (case hd => rfl); (case hg => rfl); (case hr => first | (go_simp; done) | (go_simp; rfl)); intro ad hg w11 hbox hb; replace ae := vE_ ae hg hb; have ac := Aside0.mk (hbox); have be := gG_ hg HB; have bb := gG_ hg HB; have al := nL_ hg aa; have am := nG_ hg aa; have ag := nL_ hg ab; have ai := nG_ hg ab; replace ab := bB_ ab hb; replace aa := bB_ aa hb; replace HB := hS_ HB hb; clear hb hbox hg; have qb := aw.out; have qz := ax.out; have qc := al.out; have qA := am.out; obtain ⟨bp, bq, br, bs, bt, bu, bv, bN, bO, bP, bQ, bR, bS, bT⟩ := cz7_ (w := w11) aa; have qd := ag.out; have qB := ai.out; obtain ⟨bw, bx, bz, bU, bV, bW⟩ := cz3_ (w := w11) ab) | ((with_reducible refine gate_callee (f := 25) rfl ?_); refine gM_ (some 24) Tryd.func25 (lodgerref10_Check.calls k ah aj _ _ ap aq ar au av af ak _ _ ao aU _ (cC_ aZ HB) aY.out (cC_ aX HB) a0.out A4.out) ?_; rintro e w17 ⟨rfl, hb⟩; refine ⟨_, rfl, ?_⟩; replace ae := vB_ ae hb; replace ab := bB_ ab hb; replace HB := hS_ HB hb; replace aa := bB_ aa hb; replace ac := bB_ ac hb; (try clear hb); obtain ⟨bA, bB, bC, bD, bE, bF, bG, bX, bY, bZ, b0, b1, b2, b3⟩ := cz7_ (w := w17) aa; obtain ⟨bH, bI, bJ, b4, b5, b6⟩ := cz3_ (w := w17) ab) | ((with_reducible refine gate_callee (f := 37) rfl ?_); refine gM_ (some 35) Tryd.func37 (lodgerref05_Offset.calls k ah aj ak aJ bi _ A6.out) ?_; rintro e w20 ⟨rfl, hb⟩; refine ⟨_, rfl, ?_⟩; replace ae := vB_ ae hb; replace ab := bB_ ab hb; replace HB := hS_ HB hb; replace aa := bB_ aa hb; replace ac := bB_ ac hb; (try clear hb)) | ((with_reducible refine gate_callee (f := 21) rfl ?_); refine gM_ (some 40) Tryd.func21 (lodgerref09_Has.calls k _ _ l1 aJ aQ _ (cD_ (Kd.V_reads' ae.out).2.2) ((Kd.V_reads' ae.out).2.1) A7.out) ?_; rintro e w' ⟨rfl, ⟨nd, rfl⟩⟩; refine ⟨_, rfl, ?_⟩; obtain ⟨bK, bL, bM, b7, b8, b9⟩ := cz3_ (w := w20) ab))
   go_loopg [12] k (fun kq v12 w' => ∃ (aD a2 a3 : Int) (a4 : Bool), v12 = .int .i64 aD ∧ Aside0 (lodgerref11_Some.l0 kq l1 aD ah aj ap aq ar au av af ak ao = some (r1, r2, r3, r4, r5, r6)) ∧ Aside0 (kq ≤ k) ∧ Aside0 (Kd.V (Kd.int .i64) 3 w' w.heap.size (fun k_ => (P1_ k_ ∨ w.heap.size ≤ k_) ∧ k_ ≠ aC ∧ k_ ≠ az ∧ k_ ≠ ad) (.slice A1 l1.length c1) l1) ∧ Aside0 (w'.heap[aC]? = some (.cells #[.int .u32 ah, .int .i64 aj, (.slice aR ap.length aT), .int .i64 aq, .int .i64 ar, .int .i64 au, .int .i64 av] 27 (0, 0))) ∧ Aside0 (w'.heap[az]? = some (.cells #[.int .i64 af, .int .u32 ak, (.slice aW ao.length aN)] 30 (0, 0))) ∧ Aside0 (w'.heap[ad]? = some (.cells #[.int .i64 a2, .int .u32 a3, .bool a4, (.slice none 0 0), (.slice none 0 0)] 34 (0, 0))) ∧ Aside0 (Below w.heap.size w w'))
   case atStart => exact ⟨(0), (0), (0), (false), rs_, H', ⟨Nat.le_refl _⟩, ⟨Kd.V_mono (vV_ ae) (fun _ hk => ⟨hk.1.1.1, ⟨hk.1.1.2, ⟨hk.1.2, hk.2⟩⟩⟩)⟩, ⟨bk_ aa⟩, ⟨bk_ ab⟩, ⟨bk_ ac⟩, ⟨hB_ HB⟩⟩
   case round =>
    clear H'
    try clear c1
    try clear c2
    try clear p2
    try clear c3
    try clear c5
    try clear cg
    try clear ch
    try clear c8
    try clear ci
    try clear cj
    try clear c12
    try clear c13
    try clear c15
    try clear c16
    try clear c21
    try clear bp bq br bs bt bu bv
    try clear bw bx bz
    try clear bA bB bC bD bE bF bG
    try clear bH bI bJ
    try clear bK bL bM
    try clear bN bO bP bQ bR bS bT
    try clear bU bV bW
    try clear bX bY bZ b0 b1 b2 b3
    try clear b4 b5 b6
    try clear b7 b8 b9
    obtain ⟨aD, a2, a3, a4, rfl, HA, HK1, aI, aa, ab, ac, HB⟩ := hrel
    cases gk with
    | zero => exact absurd HA.out (by simp [lodgerref11_Some.l0])
    | succ k1 =>
     have H := HA.out; clear HA; simp only [lodgerref11_Some.l0] at H; replace H := bi_ H; obtain ⟨bl, A220, H⟩ := H
     replace H : (if aD < bl then ((lodgerref11_Legal.f k1 ah aj ap aq ar au av l1 af ak ao 0 ((ah + (aD)) % 4294967296) false ([] : List Int) ([] : List Int)).bind fun bt649 => (if bt649.2 = true then (some (bt649.1, 0, (ah + (aD)) % 4294967296, false, ([] : List Int), ([] : List Int))) else (lodgerref11_Some.l0 k1 l1 (wrap64 (aD + 1)) ah aj ap aq ar au av af ak ao))) else (some (l1, 9, 0, false, ([] : List Int), ([] : List Int)))) = some (r1, r2, r3, r4, r5, r6) := H
     have A22 := Aside0.mk A220; clear A220
     by_cases c23 : aD < bl
     ·rw [if_pos c23] at H
      have e9 : decide (aD < bl) = true := decide_eq_true c23
      clear c23; replace H := bi_ H; obtain ⟨⟨ca, jM⟩, A240, H⟩ := H
      replace H : (if jM = true then (some (ca, 0, (ah + (aD)) % 4294967296, false, ([] : List Int), ([] : List Int))) else (lodgerref11_Some.l0 k1 l1 (wrap64 (aD + 1)) ah aj ap aq ar au av af ak ao)) = some (r1, r2, r3, r4, r5, r6) := H
      have A24 := Aside0.mk A240; clear A240
      by_cases c25 : jM = true
      ·subst c25
       have H1 : (some (ca, 0, (ah + (aD)) % 4294967296, false, ([] : List Int), ([] : List Int))) = some (r1, r2, r3, r4, r5, r6) := pf_ rfl H
       clear H; have H := H1; clear H1; simp only [Option.some.injEq, Prod.mk.injEq] at H; obtain ⟨rfl, rfl, rfl, rfl, rfl, rfl⟩ := H; have qe := aw.out; have qC := ax.out; have qf := al.out; have qD := am.out; obtain ⟨fc, fd, fe, ff, fg, fh, fi, ht, hu, hv, hx, hy, hz, hA⟩ := cz7_ (w := wr) aa
       try go_wp2_with (first | ((with_reducible refine gate_callee (f := 30) rfl ?_); refine gM_ (some 48) Tryd.func30 (lodgerref05_Many.calls k1 ah aj bl _ A22.out) ?_; rintro e w29 ⟨rfl, hb⟩; refine ⟨_, rfl, ?_⟩; replace aI := vB_ aI hb; replace ab := bB_ ab hb; replace HB := hS_ HB hb; replace aa := bB_ aa hb; replace ac := bB_ ac hb; (try clear hb); obtain ⟨fj, fk, fl, fm, fn, fo, fp, hB, hC, hD, hE, hF, hG, hH⟩ := cz7_ (w := w29) aa) | ((with_reducible refine gd_ 13 ?_); refine box_event ?hg (N := 13) ?hd (cs := #[.int .i64 0, .int .u32 0, .bool false, .slice none 0 0, .slice none 0 0]) (t := 34) ?hr ?_; (case hd => rfl); (case hg => rfl); (case hr => first | (go_simp; done) | (go_simp; rfl)); intro aE hg w31 hbox hb; replace aI := vE_ aI hg hb; have aK := Aside0.mk (hbox); have jR := gG_ hg HB; have jQ := gG_ hg HB; replace HB := hS_ HB hb; have a5 := nL_ hg aa; have bj := nG_ hg aa; have a6 := nL_ hg ab; have bk := nG_ hg ab; replace ab := bB_ ab hb; have aM := nL_ hg ac; have an := nG_ hg ac; replace aa := bB_ aa hb; replace ac := bB_ ac hb; clear hb hbox hg; have qg := bj.out; have qE := a5.out; have qh := bk.out; have qF := a6.out; have qi := an.out; have qG := aM.out; obtain ⟨fq, fr, fs, ft, fu, hI, hJ, hL, hM, hN⟩ := cz5_ (w := w31) aK) | ((with_reducible refine gate_store (t := 34) (p := 13) rfl ?_); refine store_event (t := 34) (p := 13) (v := ?vo_w36) (w1 := (((((w31.setCell ⟨aE, 0, none⟩ (.int .i64 0)).setCell ⟨aE, 1, none⟩ (.int .u32 ((ah + (aD)) % 4294967296))).setCell ⟨aE, 2, none⟩ (.bool false)).setCell ⟨aE, 3, none⟩ (.slice none 0 0)).setCell ⟨aE, 4, none⟩ (.slice none 0 0))) ?hg ?ho ?hn ?hr ?_; (case ho => rfl); (case hg => rfl); (case hn => rfl); (case hr => first | (go_simp; done) | (go_simp; rfl)); intro w36 hw; have n0_ : Aside0 (Kd.V (Kd.int .i64) 3 w36 w.heap.size (fun k_ => (P1_ k_ ∨ w.heap.size ≤ k_) ∧ k_ ≠ aC ∧ k_ ≠ az ∧ k_ ≠ ad ∧ k_ ≠ aE) (.slice A1 l1.length c1) l1) := ⟨(by rw [hw]; exact (by (with_reducible repeat (first | apply Kd.V_alloc | apply Kd.V_drewN | apply Kd.V_drew)); exact Kd.V_mono (vF5_ (g := aE) (Kd.V_mono aI.out (fun k_ hk => (⟨hk, hk.2⟩ : _ ∧ k_ ≠ aE))) (fun _ hk => hk.2)) (fun _ hk => ⟨hk.1.1.1, ⟨hk.1.1.2.1, ⟨hk.1.1.2.2.1, ⟨hk.1.1.2.2.2, hk.1.2⟩⟩⟩⟩)))⟩; have n1_ : Aside0 (w36.heap[aC]? = some (.cells #[.int .u32 ah, .int .i64 aj, .slice aR ap.length aT, .int .i64 aq, .int .i64 ar, .int .i64 au, .int .i64 av] 27 (0, 0))) := ⟨(by rw [hw]; exact (by refine bp_ ?_; refine bF5_ ?_ a5.out; refine bp_ ?_; exact aa.out))⟩; have n2_ : Aside0 (w36.heap[az]? = some (.cells #[.int .i64 af, .int .u32 ak, .slice aW ao.length aN] 30 (0, 0))) := ⟨(by rw [hw]; exact (by refine bp_ ?_; refine bF5_ ?_ a6.out; refine bp_ ?_; exact ab.out))⟩; have n3_ : Aside0 (w36.heap[ad]? = some (.cells #[.int .i64 a2, .int .u32 a3, .bool a4, .slice none 0 0, .slice none 0 0] 34 (0, 0))) := ⟨(by rw [hw]; exact (by refine bp_ ?_; refine bF5_ ?_ aM.out; refine bp_ ?_; exact ac.out))⟩; have n4_ : Aside0 (w36.heap[aE]? = some (.cells #[.int .i64 0, .int .u32 ((ah + (aD)) % 4294967296), .bool false, .slice none 0 0, .slice none 0 0] 34 (0, 0))) := ⟨(by rw [hw]; exact (by refine bp_ ?_; apply bS5_; refine bp_ ?_; exact aK.out))⟩; have n5_ : Aside0 (Below w.heap.size w w36) := ⟨(by rw [hw]; exact (hB_ HB))⟩; clear hw aI aa ab ac aK HB; have aI := n0_; have aa := n1_; have ab := n2_; have ac := n3_; have aK := n4_; have HB := n5_; clear n0_ n1_ n2_ n3_ n4_ n5_; obtain ⟨fv, fw, fx, fy, fz, fA, fB, hO, hP, hQ, hR, hS, hT, hU⟩ := cz7_ (w := w36) aa; have qj := ag.out; have qH := ai.out; obtain ⟨fC, fD, fE, hV, hW, hX⟩ := cz3_ (w := w36) ab; obtain ⟨fF, fG, fH, fI, fJ, hY, hZ, h0, h1, h2⟩ := cz5_ (w := w36) aK) | ((with_reducible refine gate_callee (f := 14) rfl ?_); refine gL_ (some 64) Tryd.func14 #[.agg #[.int .u32 ah, .int .i64 aj, .slice aR ap.length aT, .int .i64 aq, .int .i64 ar, .int .i64 au, .int .i64 av], .slice A1 l1.length c1, .agg #[.int .i64 af, .int .u32 ak, .slice aW ao.length aN], .agg #[.int .i64 0, .int .u32 ((ah + (aD)) % 4294967296), .bool false, .slice none 0 0, .slice none 0 0]] ?_; (refine (lodgerref11_Legal.calls k1 ah aj _ _ ap aq ar au av (fun k_ => ((P1_ k_ ∨ w.heap.size ≤ k_) ∧ (k_ ≠ aC ∧ (k_ ≠ az ∧ (k_ ≠ ad ∧ k_ ≠ aE))))) _ _ l1 af ak _ _ ao 0 ((ah + (aD)) % 4294967296) false _ _ ([] : List Int) _ _ ([] : List Int) ca true _ ?side1 ?side2 ?side3 ?side4 ?side5 ?side6 ?side7 ?side8 ?side9 A24.out).mono ?_); (case side1 => exact cC_ aZ HB); (case side2 => exact aY.out); (case side3 => exact aI.out); (case side4 => exact cC_ aX HB); (case side5 => exact a0.out); (case side6 => exact Kd.C_nil _ _); (case side7 => exact Nat.le_refl _); (case side8 => exact Kd.C_nil _ _); (case side9 => exact Nat.le_refl _); rintro e w41 ⟨v650, rfl, ho0, hb⟩; refine ⟨_, rfl, ?_⟩; replace aI := vB_ aI hb; have bm := Aside0.mk (Kd.V_lower (Kd.V_mono (ok' := fun k_ => (P1_ k_ ∨ w.heap.size ≤ k_) ∧ k_ ≠ aC ∧ k_ ≠ az ∧ k_ ≠ ad ∧ k_ ≠ aE) ho0 (fun k_ hk_ => ⟨Or.elim hk_ (fun hs_ => hs_.1) (fun hn_ => (.inr (Nat.le_trans (below_size (hB_ HB)) hn_))), Or.elim hk_ (fun hs_ => hs_.2.1) (fun hn_ => (fB_ aa k_ hn_)), Or.elim hk_ (fun hs_ => hs_.2.2.1) (fun hn_ => (fB_ ab k_ hn_)), Or.elim hk_ (fun hs_ => hs_.2.2.2.1) (fun hn_ => (fB_ ac k_ hn_)), Or.elim hk_ (fun hs_ => hs_.2.2.2.2) (fun hn_ => (fB_ aK k_ hn_))⟩)) (below_size (hB_ HB))); replace ab := bB_ ab hb; replace aK := bB_ aK hb; replace aa := bB_ aa hb; replace ac := bB_ ac hb; replace HB := hS_ HB hb; (try clear hb); (try clear ho0)))
       replace aI := Aside0.mk (Kd.V_drew aI.out); replace bm := Aside0.mk (Kd.V_drew bm.out); replace aa := Aside0.mk (blk_drew aa.out); replace ab := Aside0.mk (blk_drew ab.out); replace ac := Aside0.mk (blk_drew ac.out); replace aK := Aside0.mk (blk_drew aK.out); replace HB := Aside0.mk (below_drew1 HB.out)
       refine start_ (n := 4) (S := fun w' => L5_ w' aE (.int .i64 0) (.int .u32 ((ah + (aD)) % 4294967296)) (.bool false) (.slice none 0 0) (.slice none 0 0)) (ds := []) (tf 4 0) (by kernel_rfl) rfl rfl (cl5_ aK) (fun hHeld => ?_)
       generalize w41.drew = w42 at aI bm aa ab ac aK HB hHeld ⊢
       refine pure_ (i := 0) (N := some 68) (v := ?_) (a' := ?_) (tf 4 1) rfl rfl (by kernel_rfl) (fun _ _ _ h => h) (Or.inl ⟨by rfl, ?_⟩) ?_ ?_
       rotate_left
       ·intro w'
        go_simp
        with_reducible rfl
       rotate_left
       ·simp only [Act.put, List.setIfInBounds_toArray, List.set_cons_zero, List.set_cons_succ, i64_w, i32_w, IntKind.wrap_u32, Int.add_emod_emod, Int.emod_add_emod]
        rfl
       refine pure_ (i := 2) (N := some 6) (v := ?_) (a' := ?_) (tf 4 5) rfl rfl (by kernel_rfl) (fun _ _ _ h => h) (Or.inl ⟨by rfl, ?_⟩) ?_ ?_
       rotate_left
       ·intro w'
        go_simp
        with_reducible rfl
       rotate_left
       ·simp only [Act.put, List.setIfInBounds_toArray, List.set_cons_zero, List.set_cons_succ, i64_w, i32_w, IntKind.wrap_u32, Int.add_emod_emod, Int.emod_add_emod]
        rfl
       refine take_ (i := 1) (N := some 69) (v := ?_) (a' := ?_) (tf 4 7) rfl rfl (by kernel_rfl) (fun _ _ _ h => h) (Or.inl ⟨by rfl, ?_⟩) hHeld ?_ ?_
       rotate_left
       ·rintro w' ⟨s0, s1, s2, s3, s4⟩
        go_simp
        with_reducible rfl
       rotate_left
       ·simp only [Act.put, List.setIfInBounds_toArray, List.set_cons_zero, List.set_cons_succ, i64_w, i32_w, IntKind.wrap_u32, Int.add_emod_emod, Int.emod_add_emod]
        rfl
       refine one_ (i := 3) (N := none) (tf 4 15) rfl rfl (by kernel_rfl) (by decide) (fun K hK => ?_)
       have q2 : w42.cell? ⟨ad, 0, none⟩ = some (.int .i64 a2) := (blk_cell ac.out 0).trans rfl
       have p5 := blk_frozen ac.out 0; have oG := al.out; have oH := ag.out; have oI := an.out; have op := am.out; have oq := ai.out; have ot := aM.out
       have q3 : w42.cell? ⟨ad, 1, none⟩ = some (.int .u32 a3) := (blk_cell ac.out 1).trans rfl
       have p7 := blk_frozen ac.out 1; have oJ := al.out; have oK := ag.out; have oL := an.out; have ou := am.out; have ov := ai.out; have ow := aM.out
       have q4 : w42.cell? ⟨ad, 2, none⟩ = some (.bool a4) := (blk_cell ac.out 2).trans rfl
       have p8 := blk_frozen ac.out 2; have oM := al.out; have oN := ag.out; have oO := an.out; have ox := am.out; have oy := ai.out; have oz := aM.out
       have q5 : w42.cell? ⟨ad, 3, none⟩ = some (.slice none 0 0) := (blk_cell ac.out 3).trans rfl
       have p9 := blk_frozen ac.out 3; have oP := al.out; have oQ := ag.out; have oR := an.out; have oA := am.out; have oB := ai.out; have oC := aM.out
       have q6 : w42.cell? ⟨ad, 4, none⟩ = some (.slice none 0 0) := (blk_cell ac.out 4).trans rfl
       have qa := blk_frozen ac.out 4; have oS := al.out; have oT := ag.out; have oU := an.out; have oD := am.out; have oE := ai.out; have oF := aM.out
       refine skip_ (w1 := ?_) (by rfl) rfl ?_ ?_
       rotate_left
       ·go_simp
        rfl
       refine hK.out _ _ ⟨((cell_far (p := ⟨ad, _, none⟩) an.out _).trans (((cell_far (p := ⟨ad, _, none⟩) an.out _).trans (((cell_far (p := ⟨ad, _, none⟩) an.out _).trans (((cell_far (p := ⟨ad, _, none⟩) an.out _).trans (((cell_far (p := ⟨ad, _, none⟩) an.out _).trans (hHeld.1)))))))))), ((cell_far (p := ⟨ad, _, none⟩) an.out _).trans (((cell_far (p := ⟨ad, _, none⟩) an.out _).trans (((cell_far (p := ⟨ad, _, none⟩) an.out _).trans (((cell_far (p := ⟨ad, _, none⟩) an.out _).trans (((cell_far (p := ⟨ad, _, none⟩) an.out _).trans (hHeld.2.1)))))))))), ((cell_far (p := ⟨ad, _, none⟩) an.out _).trans (((cell_far (p := ⟨ad, _, none⟩) an.out _).trans (((cell_far (p := ⟨ad, _, none⟩) an.out _).trans (((cell_far (p := ⟨ad, _, none⟩) an.out _).trans (((cell_far (p := ⟨ad, _, none⟩) an.out _).trans (hHeld.2.2.1)))))))))), ((cell_far (p := ⟨ad, _, none⟩) an.out _).trans (((cell_far (p := ⟨ad, _, none⟩) an.out _).trans (((cell_far (p := ⟨ad, _, none⟩) an.out _).trans (((cell_far (p := ⟨ad, _, none⟩) an.out _).trans (((cell_far (p := ⟨ad, _, none⟩) an.out _).trans (hHeld.2.2.2.1)))))))))), ((cell_far (p := ⟨ad, _, none⟩) an.out _).trans (((cell_far (p := ⟨ad, _, none⟩) an.out _).trans (((cell_far (p := ⟨ad, _, none⟩) an.out _).trans (((cell_far (p := ⟨ad, _, none⟩) an.out _).trans (((cell_far (p := ⟨ad, _, none⟩) an.out _).trans (hHeld.2.2.2.2))))))))))⟩ (fun hHeld => ?_)
       clear hK K
       refine done_ (by kernel_rfl) ?_
       try go_wp2
       refine bodyPost_ret (results_tc rfl _ _ ad 34 #[.int .i64 0, .int .u32 ((ah + (aD)) % 4294967296), .bool false, .slice none 0 0, .slice none 0 0] (0, 0) _ rfl (by refine bp_ ?_; apply bS5_; refine bp_ ?_; exact ac.out) Tryd.underlying34 rfl (by kernel_rfl)) rfl ?_
       exact ⟨_, _, _, er_, by (with_reducible repeat (first | apply Kd.V_alloc | apply Kd.V_drewN | apply Kd.V_drew)); exact Kd.V_mono (vF5_ (g := ad) (Kd.V_mono bm.out (fun k_ hk => (⟨hk, hk.2.2.2.1⟩ : _ ∧ k_ ≠ ad))) (fun _ hk => hk.2)) (fun _ hk => ⟨hk.1.1, ⟨(by simp [Value.ownBlock]), (by simp [Value.ownBlock])⟩⟩), nl_, nl_, hB_ HB⟩
      ·replace c25 := Bool.eq_false_iff.mpr c25
       subst c25
       have H1 : (lodgerref11_Some.l0 k1 l1 (wrap64 (aD + 1)) ah aj ap aq ar au av af ak ao) = some (r1, r2, r3, r4, r5, r6) := nf_ H
       clear H; have H := H1; clear H1
       have H' := Aside0.mk H
       clear H; have qk := aw.out; have qI := ax.out; have ql := al.out; have qJ := am.out; obtain ⟨fK, fL, fM, fN, fO, fP, fQ, h3, h4, h5, h6, h7, h8, h9⟩ := cz7_ (w := wr) aa
       go_wp2_with (first | ((with_reducible refine gate_callee (f := 30) rfl ?_); refine gM_ (some 48) Tryd.func30 (lodgerref05_Many.calls k1 ah aj bl _ A22.out) ?_; rintro e w51 ⟨rfl, hb⟩; refine ⟨_, rfl, ?_⟩; replace aI := vB_ aI hb; replace ab := bB_ ab hb; replace HB := hS_ HB hb; replace aa := bB_ aa hb; replace ac := bB_ ac hb; (try clear hb); obtain ⟨fR, fS, fT, fU, fV, fW, fX, ia, ib, ic, ie, ig, ii, ij⟩ := cz7_ (w := w51) aa) | ((with_reducible refine gd_ 13 ?_); refine box_event ?hg (N := 13) ?hd (cs := #[.int .i64 0, .int .u32 0, .bool false, .slice none 0 0, .slice none 0 0]) (t := 34) ?hr ?_; (case hd => rfl); (case hg => rfl); (case hr => first | (go_simp; done) | (go_simp; rfl)); intro aE hg w53 hbox hb; replace aI := vE_ aI hg hb; have aK := Aside0.mk (hbox); have jR := gG_ hg HB; have jQ := gG_ hg HB; replace HB := hS_ HB hb; have a5 := nL_ hg aa; have bj := nG_ hg aa; have a6 := nL_ hg ab; have bk := nG_ hg ab; replace ab := bB_ ab hb; have aM := nL_ hg ac; have an := nG_ hg ac; replace aa := bB_ aa hb; replace ac := bB_ ac hb; clear hb hbox hg; have qm := bj.out; have qK := a5.out; have qn := bk.out; have qL := a6.out; have qo := an.out; have qM := aM.out; obtain ⟨fY, fZ, f0, f1, f2, ik, il, im, io, ip⟩ := cz5_ (w := w53) aK) | ((with_reducible refine gate_store (t := 34) (p := 13) rfl ?_); refine store_event (t := 34) (p := 13) (v := ?vo_w58) (w1 := (((((w53.setCell ⟨aE, 0, none⟩ (.int .i64 0)).setCell ⟨aE, 1, none⟩ (.int .u32 ((ah + (aD)) % 4294967296))).setCell ⟨aE, 2, none⟩ (.bool false)).setCell ⟨aE, 3, none⟩ (.slice none 0 0)).setCell ⟨aE, 4, none⟩ (.slice none 0 0))) ?hg ?ho ?hn ?hr ?_; (case ho => rfl); (case hg => rfl); (case hn => rfl); (case hr => first | (go_simp; done) | (go_simp; rfl)); intro w58 hw; have n0_ : Aside0 (Kd.V (Kd.int .i64) 3 w58 w.heap.size (fun k_ => (P1_ k_ ∨ w.heap.size ≤ k_) ∧ k_ ≠ aC ∧ k_ ≠ az ∧ k_ ≠ ad ∧ k_ ≠ aE) (.slice A1 l1.length c1) l1) := ⟨(by rw [hw]; exact (by (with_reducible repeat (first | apply Kd.V_alloc | apply Kd.V_drewN | apply Kd.V_drew)); exact Kd.V_mono (vF5_ (g := aE) (Kd.V_mono aI.out (fun k_ hk => (⟨hk, hk.2⟩ : _ ∧ k_ ≠ aE))) (fun _ hk => hk.2)) (fun _ hk => ⟨hk.1.1.1, ⟨hk.1.1.2.1, ⟨hk.1.1.2.2.1, ⟨hk.1.1.2.2.2, hk.1.2⟩⟩⟩⟩)))⟩; have n1_ : Aside0 (w58.heap[aC]? = some (.cells #[.int .u32 ah, .int .i64 aj, .slice aR ap.length aT, .int .i64 aq, .int .i64 ar, .int .i64 au, .int .i64 av] 27 (0, 0))) := ⟨(by rw [hw]; exact (by refine bp_ ?_; refine bF5_ ?_ a5.out; refine bp_ ?_; exact aa.out))⟩; have n2_ : Aside0 (w58.heap[az]? = some (.cells #[.int .i64 af, .int .u32 ak, .slice aW ao.length aN] 30 (0, 0))) := ⟨(by rw [hw]; exact (by refine bp_ ?_; refine bF5_ ?_ a6.out; refine bp_ ?_; exact ab.out))⟩; have n3_ : Aside0 (w58.heap[ad]? = some (.cells #[.int .i64 a2, .int .u32 a3, .bool a4, .slice none 0 0, .slice none 0 0] 34 (0, 0))) := ⟨(by rw [hw]; exact (by refine bp_ ?_; refine bF5_ ?_ aM.out; refine bp_ ?_; exact ac.out))⟩; have n4_ : Aside0 (w58.heap[aE]? = some (.cells #[.int .i64 0, .int .u32 ((ah + (aD)) % 4294967296), .bool false, .slice none 0 0, .slice none 0 0] 34 (0, 0))) := ⟨(by rw [hw]; exact (by refine bp_ ?_; apply bS5_; refine bp_ ?_; exact aK.out))⟩; have n5_ : Aside0 (Below w.heap.size w w58) := ⟨(by rw [hw]; exact (hB_ HB))⟩; clear hw aI aa ab ac aK HB; have aI := n0_; have aa := n1_; have ab := n2_; have ac := n3_; have aK := n4_; have HB := n5_; clear n0_ n1_ n2_ n3_ n4_ n5_; obtain ⟨f3, f4, f5, f6, f7, f8, f9, iq, ir, it, iu, iv, iw, ix⟩ := cz7_ (w := w58) aa; have qp := ag.out; have qN := ai.out; obtain ⟨ga, gb, gc, iy, iz, iA⟩ := cz3_ (w := w58) ab; obtain ⟨gd, gf, gg, gh, gi, iB, iC, iD, iE, iF⟩ := cz5_ (w := w58) aK) | ((with_reducible refine gate_callee (f := 14) rfl ?_); refine gL_ (some 64) Tryd.func14 #[.agg #[.int .u32 ah, .int .i64 aj, .slice aR ap.length aT, .int .i64 aq, .int .i64 ar, .int .i64 au, .int .i64 av], .slice A1 l1.length c1, .agg #[.int .i64 af, .int .u32 ak, .slice aW ao.length aN], .agg #[.int .i64 0, .int .u32 ((ah + (aD)) % 4294967296), .bool false, .slice none 0 0, .slice none 0 0]] ?_; (refine (lodgerref11_Legal.calls k1 ah aj _ _ ap aq ar au av (fun k_ => ((P1_ k_ ∨ w.heap.size ≤ k_) ∧ (k_ ≠ aC ∧ (k_ ≠ az ∧ (k_ ≠ ad ∧ k_ ≠ aE))))) _ _ l1 af ak _ _ ao 0 ((ah + (aD)) % 4294967296) false _ _ ([] : List Int) _ _ ([] : List Int) ca false _ ?side1 ?side2 ?side3 ?side4 ?side5 ?side6 ?side7 ?side8 ?side9 A24.out).mono ?_); (case side1 => exact cC_ aZ HB); (case side2 => exact aY.out); (case side3 => exact aI.out); (case side4 => exact cC_ aX HB); (case side5 => exact a0.out); (case side6 => exact Kd.C_nil _ _); (case side7 => exact Nat.le_refl _); (case side8 => exact Kd.C_nil _ _); (case side9 => exact Nat.le_refl _); rintro e w63 ⟨v650, rfl, ho0, hb⟩; refine ⟨_, rfl, ?_⟩; replace aI := vB_ aI hb; have bm := Aside0.mk (Kd.V_lower (Kd.V_mono (ok' := fun k_ => (P1_ k_ ∨ w.heap.size ≤ k_) ∧ k_ ≠ aC ∧ k_ ≠ az ∧ k_ ≠ ad ∧ k_ ≠ aE) ho0 (fun k_ hk_ => ⟨Or.elim hk_ (fun hs_ => hs_.1) (fun hn_ => (.inr (Nat.le_trans (below_size (hB_ HB)) hn_))), Or.elim hk_ (fun hs_ => hs_.2.1) (fun hn_ => (fB_ aa k_ hn_)), Or.elim hk_ (fun hs_ => hs_.2.2.1) (fun hn_ => (fB_ ab k_ hn_)), Or.elim hk_ (fun hs_ => hs_.2.2.2.1) (fun hn_ => (fB_ ac k_ hn_)), Or.elim hk_ (fun hs_ => hs_.2.2.2.2) (fun hn_ => (fB_ aK k_ hn_))⟩)) (below_size (hB_ HB))); replace ab := bB_ ab hb; replace aa := bB_ aa hb; replace ac := bB_ ac hb; replace HB := hS_ HB hb; (try clear hb); (try clear ho0)))
       go_roundg k1
       case measure => have := HK1.out; omega
       case rel => exact ⟨(wrap64 (aD + 1)), (a2), (a3), (a4), rs_, H', ⟨om_ HK1⟩, ⟨Kd.V_mono (vV_ aI) (fun _ hk => ⟨hk.1, ⟨hk.2.1, ⟨hk.2.2.1, hk.2.2.2.1⟩⟩⟩)⟩, ⟨bk_ aa⟩, ⟨bk_ ab⟩, ⟨bk_ ac⟩, ⟨hB_ HB⟩⟩
     ·rw [if_neg c23] at H
      have e9 : decide (aD < bl) = false := decide_eq_false c23
      clear c23; simp only [Option.some.injEq, Prod.mk.injEq] at H; obtain ⟨rfl, rfl, rfl, rfl, rfl, rfl⟩ := H; have qq := aw.out; have qO := ax.out; have qr := al.out; have qP := am.out; obtain ⟨gj, gl, gm, gn, go, gp, gq, iG, iH, iI, iJ, iK, iL, iM⟩ := cz7_ (w := wr) aa
      go_wp2_with (first | ((with_reducible refine gate_callee (f := 30) rfl ?_); refine gM_ (some 48) Tryd.func30 (lodgerref05_Many.calls k1 ah aj bl _ A22.out) ?_; rintro e w67 ⟨rfl, hb⟩; refine ⟨_, rfl, ?_⟩; replace aI := vB_ aI hb; replace ab := bB_ ab hb; replace HB := hS_ HB hb; replace aa := bB_ aa hb; replace ac := bB_ ac hb; (try clear hb); have qs := ai.out; have qQ := ag.out; obtain ⟨gr, gs, gt, gu, gv, iN, iO, iP, iQ, iR⟩ := cz5_ (w := w67) ac))
      refine bodyPost_ret (results_tc rfl _ _ ad 34 #[.int .i64 9, .int .u32 0, .bool false, .slice none 0 0, .slice none 0 0] (0, 0) _ rfl (by refine bp_ ?_; apply bS5_; refine bp_ ?_; exact ac.out) Tryd.underlying34 rfl (by kernel_rfl)) rfl ?_
      exact ⟨_, _, _, er_, by (with_reducible repeat (first | apply Kd.V_alloc | apply Kd.V_drewN | apply Kd.V_drew)); exact Kd.V_mono (vF5_ (g := ad) (Kd.V_mono aI.out (fun k_ hk => (⟨hk, hk.2.2.2⟩ : _ ∧ k_ ≠ ad))) (fun _ hk => hk.2)) (fun _ hk => ⟨hk.1.1, ⟨(by simp [Value.ownBlock]), (by simp [Value.ownBlock])⟩⟩), nl_, nl_, hB_ HB⟩
  ·rw [if_neg c8] at H
   have ci : (af == 1) = false := beq_eq_false_iff_ne.mpr c8
   have cj : (af != 1) = true := bne_iff_ne.mpr c8
   by_cases c70 : af = 2
   ·rw [if_pos c70] at H
    have fa : (af == 2) = true := beq_iff_eq.mpr c70
    have fb : (af != 2) = false := bne_eq_false_iff_eq.mpr c70
    clear c70
    by_cases c71 : aQ = true
    ·subst c71
     have H1 : (some (l1, 5, 0, false, ([] : List Int), ([] : List Int))) = some (r1, r2, r3, r4, r5, r6) := pf_ rfl H
     clear H; have H := H1; clear H1; simp only [Option.some.injEq, Prod.mk.injEq] at H; obtain ⟨rfl, rfl, rfl, rfl, rfl, rfl⟩ := H
     go_enter Tryd.func16, Tryd.ntmps16
     go_wp2_with (first | ((with_reducible refine gd_ 3 ?_); refine box_event ?hg (N := 3) ?hd (cs := #[.int .u32 ah, .int .i64 aj, .slice aR ap.length aT, .int .i64 aq, .int .i64 ar, .int .i64 au, .int .i64 av]) (t := 27) ?hr ?_; (case hd => rfl); (case hg => rfl); (case hr => first | (go_simp; done) | (go_simp; rfl)); intro aC hg w72 hbox hb; replace ae := vE_ ae hg hb; have aa := Aside0.mk (hbox); have bc := gG_ hg HB; have a9 := gG_ hg HB; replace HB := hS_ HB hb; clear hb hbox hg) | ((with_reducible refine gd_ 5 ?_); refine box_event ?hg (N := 5) ?hd (cs := #[.int .i64 af, .int .u32 ak, .slice aW ao.length aN]) (t := 30) ?hr ?_; (case hd => rfl); (case hg => rfl); (case hr => first | (go_simp; done) | (go_simp; rfl)); intro az hg w73 hbox hb; replace ae := vE_ ae hg hb; have ab := Aside0.mk (hbox); have bd := gG_ hg HB; have ba := gG_ hg HB; replace HB := hS_ HB hb; have aw := nL_ hg aa; have ax := nG_ hg aa; replace aa := bB_ aa hb; clear hb hbox hg) | ((with_reducible refine gd_ 7 ?_); refine box_event ?hg (N := 7) ?hd (cs := #[.int .i64 0, .int .u32 0, .bool false, .slice none 0 0, .slice none 0 0]) (t := 34) ?hr ?_; (case hd => rfl); (case hg => rfl); (case hr => first | (go_simp; done) | (go_simp; rfl)); intro ad hg w74 hbox hb; replace ae := vE_ ae hg hb; have ac := Aside0.mk (hbox); have be := gG_ hg HB; have bb := gG_ hg HB; have al := nL_ hg aa; have am := nG_ hg aa; have ag := nL_ hg ab; have ai := nG_ hg ab; replace ab := bB_ ab hb; replace aa := bB_ aa hb; replace HB := hS_ HB hb; clear hb hbox hg; have qt := aw.out; have qR := ax.out; have qu := al.out; have qS := am.out; obtain ⟨gw, gx, gy, gz, gA, gB, gC, iS, iT, iU, iV, iW, iX, iY⟩ := cz7_ (w := w74) aa; have qv := ag.out; have qT := ai.out; obtain ⟨gD, gE, gF, iZ, i0, i1⟩ := cz3_ (w := w74) ab) | ((with_reducible refine gate_callee (f := 25) rfl ?_); refine gM_ (some 24) Tryd.func25 (lodgerref10_Check.calls k ah aj _ _ ap aq ar au av af ak _ _ ao aU _ (cC_ aZ HB) aY.out (cC_ aX HB) a0.out A4.out) ?_; rintro e w80 ⟨rfl, hb⟩; refine ⟨_, rfl, ?_⟩; replace ae := vB_ ae hb; replace ab := bB_ ab hb; replace HB := hS_ HB hb; replace aa := bB_ aa hb; replace ac := bB_ ac hb; (try clear hb); obtain ⟨gG, gH, gI, gJ, gK, gL, gM, i2, i3, i4, i5, i6, i7, i8⟩ := cz7_ (w := w80) aa; obtain ⟨gN, gO, gP, i9, ja, jb⟩ := cz3_ (w := w80) ab) | ((with_reducible refine gate_callee (f := 37) rfl ?_); refine gM_ (some 35) Tryd.func37 (lodgerref05_Offset.calls k ah aj ak aJ bi _ A6.out) ?_; rintro e w83 ⟨rfl, hb⟩; refine ⟨_, rfl, ?_⟩; replace ae := vB_ ae hb; replace ab := bB_ ab hb; replace HB := hS_ HB hb; replace aa := bB_ aa hb; replace ac := bB_ ac hb; (try clear hb)) | ((with_reducible refine gate_callee (f := 21) rfl ?_); refine gM_ (some 40) Tryd.func21 (lodgerref09_Has.calls k _ _ l1 aJ true _ (cD_ (Kd.V_reads' ae.out).2.2) ((Kd.V_reads' ae.out).2.1) A7.out) ?_; rintro e w' ⟨rfl, ⟨nd, rfl⟩⟩; refine ⟨_, rfl, ?_⟩; (try (rw [drewN_self w83]; generalize hq_ : World.drewN w83 _ = w83; have n0_ := Aside0.mk (V_atq hq_ ae.out); have n1_ := Aside0.mk (blk_at hq_ aa.out); have n2_ := Aside0.mk (blk_at hq_ ab.out); have n3_ := Aside0.mk (blk_at hq_ ac.out); have n4_ := Aside0.mk (below_at hq_ HB.out); clear hq_ ae aa ab ac HB; have ae := n0_; have aa := n1_; have ab := n2_; have ac := n3_; have HB := n4_; clear n0_ n1_ n2_ n3_ n4_)); obtain ⟨gQ, gR, gS, jc, jd, je⟩ := cz3_ (w := w83) ab; obtain ⟨gT, gU, gV, gW, gX, jf, jg, jh, ji, jj⟩ := cz5_ (w := w83) ac))
     refine bodyPost_ret (results_tc rfl _ _ ad 34 #[.int .i64 5, .int .u32 0, .bool false, .slice none 0 0, .slice none 0 0] (0, 0) _ rfl (by refine bp_ ?_; apply bS5_; refine bp_ ?_; exact ac.out) Tryd.underlying34 rfl (by kernel_rfl)) rfl ?_
     exact ⟨_, _, _, er_, by (with_reducible repeat (first | apply Kd.V_alloc | apply Kd.V_drewN | apply Kd.V_drew)); exact Kd.V_mono (vF5_ (g := ad) (Kd.V_mono ae.out (fun k_ hk => (⟨hk, hk.2⟩ : _ ∧ k_ ≠ ad))) (fun _ hk => hk.2)) (fun _ hk => ⟨hk.1.1.1.1, ⟨(by simp [Value.ownBlock]), (by simp [Value.ownBlock])⟩⟩), nl_, nl_, hB_ HB⟩
    ·replace c71 := Bool.eq_false_iff.mpr c71
     subst c71
     have H1 : ((lodgerref09_With.f k l1 aJ).bind fun a7 => (some (a7, 0, ak, false, ([] : List Int), ([] : List Int)))) = some (r1, r2, r3, r4, r5, r6) := nf_ H
     clear H; have H := H1; clear H1; replace H := bi_ H; obtain ⟨a7, A860, H⟩ := H
     replace H : (some (a7, 0, ak, false, ([] : List Int), ([] : List Int))) = some (r1, r2, r3, r4, r5, r6) := H
     have A86 := Aside0.mk A860; clear A860; simp only [Option.some.injEq, Prod.mk.injEq] at H; obtain ⟨rfl, rfl, rfl, rfl, rfl, rfl⟩ := H
     go_enter Tryd.func16, Tryd.ntmps16
     try go_wp2_with (first | ((with_reducible refine gd_ 3 ?_); refine box_event ?hg (N := 3) ?hd (cs := #[.int .u32 ah, .int .i64 aj, .slice aR ap.length aT, .int .i64 aq, .int .i64 ar, .int .i64 au, .int .i64 av]) (t := 27) ?hr ?_; (case hd => rfl); (case hg => rfl); (case hr => first | (go_simp; done) | (go_simp; rfl)); intro aC hg w87 hbox hb; replace ae := vE_ ae hg hb; have aa := Aside0.mk (hbox); have bc := gG_ hg HB; have a9 := gG_ hg HB; replace HB := hS_ HB hb; clear hb hbox hg) | ((with_reducible refine gd_ 5 ?_); refine box_event ?hg (N := 5) ?hd (cs := #[.int .i64 af, .int .u32 ak, .slice aW ao.length aN]) (t := 30) ?hr ?_; (case hd => rfl); (case hg => rfl); (case hr => first | (go_simp; done) | (go_simp; rfl)); intro az hg w88 hbox hb; replace ae := vE_ ae hg hb; have ab := Aside0.mk (hbox); have bd := gG_ hg HB; have ba := gG_ hg HB; replace HB := hS_ HB hb; have aw := nL_ hg aa; have ax := nG_ hg aa; replace aa := bB_ aa hb; clear hb hbox hg) | ((with_reducible refine gd_ 7 ?_); refine box_event ?hg (N := 7) ?hd (cs := #[.int .i64 0, .int .u32 0, .bool false, .slice none 0 0, .slice none 0 0]) (t := 34) ?hr ?_; (case hd => rfl); (case hg => rfl); (case hr => first | (go_simp; done) | (go_simp; rfl)); intro ad hg w89 hbox hb; replace ae := vE_ ae hg hb; have ac := Aside0.mk (hbox); have be := gG_ hg HB; have bb := gG_ hg HB; have al := nL_ hg aa; have am := nG_ hg aa; have ag := nL_ hg ab; have ai := nG_ hg ab; replace ab := bB_ ab hb; replace aa := bB_ aa hb; replace HB := hS_ HB hb; clear hb hbox hg; have qw := aw.out; have qU := ax.out; have qx := al.out; have qV := am.out; obtain ⟨gY, gZ, g0, g1, g2, g3, g4, jk, jl, jm, jn, jo, jp, jq⟩ := cz7_ (w := w89) aa; have qy := ag.out; have qW := ai.out; obtain ⟨g5, g6, g7, jr, js, jt⟩ := cz3_ (w := w89) ab) | ((with_reducible refine gate_callee (f := 25) rfl ?_); refine gM_ (some 24) Tryd.func25 (lodgerref10_Check.calls k ah aj _ _ ap aq ar au av af ak _ _ ao aU _ (cC_ aZ HB) aY.out (cC_ aX HB) a0.out A4.out) ?_; rintro e w95 ⟨rfl, hb⟩; refine ⟨_, rfl, ?_⟩; replace ae := vB_ ae hb; replace ab := bB_ ab hb; replace HB := hS_ HB hb; replace aa := bB_ aa hb; replace ac := bB_ ac hb; (try clear hb); obtain ⟨g8, g9, ha, hc, he, hf, hh, ju, jv, jw, jx, jy, jz, jA⟩ := cz7_ (w := w95) aa; obtain ⟨hj, hl, hm, jB, jC, jD⟩ := cz3_ (w := w95) ab) | ((with_reducible refine gate_callee (f := 37) rfl ?_); refine gM_ (some 35) Tryd.func37 (lodgerref05_Offset.calls k ah aj ak aJ bi _ A6.out) ?_; rintro e w98 ⟨rfl, hb⟩; refine ⟨_, rfl, ?_⟩; replace ae := vB_ ae hb; replace ab := bB_ ab hb; replace HB := hS_ HB hb; replace aa := bB_ aa hb; replace ac := bB_ ac hb; (try clear hb)) | ((with_reducible refine gate_callee (f := 21) rfl ?_); refine gM_ (some 40) Tryd.func21 (lodgerref09_Has.calls k _ _ l1 aJ false _ (cD_ (Kd.V_reads' ae.out).2.2) ((Kd.V_reads' ae.out).2.1) A7.out) ?_; rintro e w' ⟨rfl, ⟨nd, rfl⟩⟩; refine ⟨_, rfl, ?_⟩; (try (rw [drewN_self w98]; generalize hq_ : World.drewN w98 _ = w98; have n0_ := Aside0.mk (V_atq hq_ ae.out); have n1_ := Aside0.mk (blk_at hq_ aa.out); have n2_ := Aside0.mk (blk_at hq_ ab.out); have n3_ := Aside0.mk (blk_at hq_ ac.out); have n4_ := Aside0.mk (below_at hq_ HB.out); clear hq_ ae aa ab ac HB; have ae := n0_; have aa := n1_; have ab := n2_; have ac := n3_; have HB := n4_; clear n0_ n1_ n2_ n3_ n4_)); obtain ⟨hp, hq, hs, jE, jF, jG⟩ := cz3_ (w := w98) ab))
     replace ae := Aside0.mk (Kd.V_drew ae.out); replace aa := Aside0.mk (blk_drew aa.out); replace ab := Aside0.mk (blk_drew ab.out); replace ac := Aside0.mk (blk_drew ac.out); replace HB := Aside0.mk (below_drew1 HB.out)
     refine start_ (n := 8) (S := fun w' => L3_ w' az (.int .i64 af) (.int .u32 ak) (.slice aW ao.length aN)) (ds := []) (tf 8 0) (by kernel_rfl) rfl rfl (cl3_ ab) (fun hHeld => ?_); refine with_tabW lodgerref11_Some.tab19 lodgerref11_Some.bits19 (fun HT_ HW_ => ?_)
     generalize w98.drew = w100 at ae aa ab ac HB hHeld ⊢
     refine pvU_ 0 77 (tf 8 1) HT_ ?_; refine pvU_ 1 78 (tf 8 3) HT_ ?_; refine pvU_ 3 80 (tf 8 11) HT_ ?_; refine tvU_ 4 81 (tf 8 27) rfl rfl HT_ HW_ hHeld (by rintro w' ⟨s0, s1, s2⟩; go_simp; with_reducible rfl) ?_; refine pvU_ 5 82 (tf 8 59) HT_ ?_
     refine on_ (i := 2) (N := some 79) (tf 8 63) HT_ (fun K hK => ?_)
     refine gN_ Tryd.func23 (lodgerref09_With.calls k _ _ l1 aJ a7 _ (cD_ (Kd.V_reads' ae.out).2.2) ((Kd.V_reads' ae.out).2.1) A86.out) ?_
     rintro e w101 ⟨v654, rfl, ho0, hb⟩
     refine ⟨_, rfl, ?_⟩
     replace ae := Aside0.mk (Kd.V_elder' (vV_ ae) (Kd.R_base ho0) hb); have jS := Aside0.mk (Kd.R_lower (Kd.R_newM (M := fun k_ => (w.heap.size ≤ k_)) ho0 (below_size (hB_ HB)) (fun k_ h_ => h_)) (below_size (hB_ HB))); replace aa := bB_ aa hb; replace ab := bB_ ab hb; replace ac := bB_ ac hb; replace HB := hS_ HB hb
     (try clear hb)
     (try clear hb2)
     (try clear hk)
     (try clear hi)
     (try clear ho0)
     refine hK.out _ _ (cl3_ ab) (fun hHeld => ?_)
     clear hK K
     refine norm_ (a' := ?_) ?_ ?_
     rotate_left
     ·show Act.put _ (some 79) _ = _
      simp only [Act.put, List.setIfInBounds_toArray, List.set_cons_zero, List.set_cons_succ, i64_w, i32_w, IntKind.wrap_u32, Int.add_emod_emod, Int.emod_add_emod]
      rfl
     refine pvU_ 6 6 (tf 8 127) HT_ ?_
     refine on_ (i := 7) (N := none) (tf 8 255) HT_ (fun K hK => ?_)
     have qX : w101.cell? ⟨ad, 0, none⟩ = some (.int .i64 0) := (blk_cell ac.out 0).trans rfl
     have oW := blk_frozen ac.out 0; have oc := al.out; have od := ag.out; have n2 := am.out; have n3 := ai.out
     have qY : w101.cell? ⟨ad, 1, none⟩ = some (.int .u32 0) := (blk_cell ac.out 1).trans rfl
     have oX := blk_frozen ac.out 1; have oe := al.out; have og := ag.out; have n4 := am.out; have n5 := ai.out
     have qZ : w101.cell? ⟨ad, 2, none⟩ = some (.bool false) := (blk_cell ac.out 2).trans rfl
     have oY := blk_frozen ac.out 2; have oh := al.out; have oj := ag.out; have n6 := am.out; have n7 := ai.out
     have q0 : w101.cell? ⟨ad, 3, none⟩ = some (.slice none 0 0) := (blk_cell ac.out 3).trans rfl
     have oZ := blk_frozen ac.out 3; have ol := al.out; have om := ag.out; have n8 := am.out; have n9 := ai.out
     have q1 : w101.cell? ⟨ad, 4, none⟩ = some (.slice none 0 0) := (blk_cell ac.out 4).trans rfl
     have o0 := blk_frozen ac.out 4; have on := al.out; have oo := ag.out; have oa := am.out; have ob := ai.out
     refine skip_ (w1 := ?_) (by rfl) rfl ?_ ?_
     rotate_left
     ·go_simp
      rfl
     refine hK.out _ _ ⟨((cell_far (p := ⟨ad, _, none⟩) ag.out _).trans (((cell_far (p := ⟨ad, _, none⟩) ag.out _).trans (((cell_far (p := ⟨ad, _, none⟩) ag.out _).trans (((cell_far (p := ⟨ad, _, none⟩) ag.out _).trans (((cell_far (p := ⟨ad, _, none⟩) ag.out _).trans (hHeld.1)))))))))), ((cell_far (p := ⟨ad, _, none⟩) ag.out _).trans (((cell_far (p := ⟨ad, _, none⟩) ag.out _).trans (((cell_far (p := ⟨ad, _, none⟩) ag.out _).trans (((cell_far (p := ⟨ad, _, none⟩) ag.out _).trans (((cell_far (p := ⟨ad, _, none⟩) ag.out _).trans (hHeld.2.1)))))))))), ((cell_far (p := ⟨ad, _, none⟩) ag.out _).trans (((cell_far (p := ⟨ad, _, none⟩) ag.out _).trans (((cell_far (p := ⟨ad, _, none⟩) ag.out _).trans (((cell_far (p := ⟨ad, _, none⟩) ag.out _).trans (((cell_far (p := ⟨ad, _, none⟩) ag.out _).trans (hHeld.2.2))))))))))⟩ (fun hHeld => ?_)
     clear hK K
     refine done_ (done_of HT_.out (by kernel_rfl)) ?_
     try go_wp2
     refine bodyPost_ret (results_tc rfl _ _ ad 34 #[.int .i64 0, .int .u32 ak, .bool false, .slice none 0 0, .slice none 0 0] (0, 0) _ rfl (by refine bp_ ?_; apply bS5_; refine bp_ ?_; exact ac.out) Tryd.underlying34 rfl (by kernel_rfl)) rfl ?_
     exact ⟨_, _, _, er_, Kd.V_mono (ok := (fun k_ => w.heap.size ≤ k_ ∧ some k_ ≠ (Value.slice none 0 0).ownBlock ∧ some k_ ≠ (Value.slice none 0 0).ownBlock)) (Kd.R_V (by (with_reducible repeat (first | apply Kd.R_alloc | apply Kd.R_drewN | apply Kd.R_drew)); exact Kd.R_mono (rF5_ (g := ad) (Kd.R_types jS.out ac.out (by decide)) (fun _ hk => hk.2)) (fun _ hk => ⟨hk.1.1, ⟨(by simp [Value.ownBlock]), (by simp [Value.ownBlock])⟩⟩))) (fun k_ hk => by first | exact ⟨(.inr (hk.1)), hk.2⟩ | exact (.inr (hk))), nl_, nl_, hB_ HB⟩
   ·rw [if_neg c70] at H
    have fa : (af == 2) = false := beq_eq_false_iff_ne.mpr c70
    have fb : (af != 2) = true := bne_iff_ne.mpr c70
    by_cases c107 : af = 3
    ·rw [if_pos c107] at H
     have cc : (af == 3) = true := beq_iff_eq.mpr c107
     have cd : (af != 3) = false := bne_eq_false_iff_eq.mpr c107
     clear c107
     by_cases c108 : aQ = true
     ·subst c108
      have H1 : ((lodgerref09_Without.f k l1 aJ).bind fun a8 => (some (a8, 0, 0, false, ([] : List Int), ([] : List Int)))) = some (r1, r2, r3, r4, r5, r6) := pf_ rfl H
      clear H; have H := H1; clear H1; replace H := bi_ H; obtain ⟨a8, A1090, H⟩ := H
      replace H : (some (a8, 0, 0, false, ([] : List Int), ([] : List Int))) = some (r1, r2, r3, r4, r5, r6) := H
      have A109 := Aside0.mk A1090; clear A1090; simp only [Option.some.injEq, Prod.mk.injEq] at H; obtain ⟨rfl, rfl, rfl, rfl, rfl, rfl⟩ := H
      go_enter Tryd.func16, Tryd.ntmps16
      go_wp2_with (first | ((with_reducible refine gd_ 3 ?_); refine box_event ?hg (N := 3) ?hd (cs := #[.int .u32 ah, .int .i64 aj, .slice aR ap.length aT, .int .i64 aq, .int .i64 ar, .int .i64 au, .int .i64 av]) (t := 27) ?hr ?_; (case hd => rfl); (case hg => rfl); (case hr => first | (go_simp; done) | (go_simp; rfl)); intro aC hg w110 hbox hb; replace ae := vE_ ae hg hb; have aa := Aside0.mk (hbox); have bc := gG_ hg HB; have a9 := gG_ hg HB; replace HB := hS_ HB hb; clear hb hbox hg) | ((with_reducible refine gd_ 5 ?_); refine box_event ?hg (N := 5) ?hd (cs := #[.int .i64 af, .int .u32 ak, .slice aW ao.length aN]) (t := 30) ?hr ?_; (case hd => rfl); (case hg => rfl); (case hr => first | (go_simp; done) | (go_simp; rfl)); intro az hg w111 hbox hb; replace ae := vE_ ae hg hb; have ab := Aside0.mk (hbox); have bd := gG_ hg HB; have ba := gG_ hg HB; replace HB := hS_ HB hb; have aw := nL_ hg aa; have ax := nG_ hg aa; replace aa := bB_ aa hb; clear hb hbox hg) | ((with_reducible refine gd_ 7 ?_); refine box_event ?hg (N := 7) ?hd (cs := #[.int .i64 0, .int .u32 0, .bool false, .slice none 0 0, .slice none 0 0]) (t := 34) ?hr ?_; (case hd => rfl); (case hg => rfl); (case hr => first | (go_simp; done) | (go_simp; rfl)); intro ad hg w112 hbox hb; replace ae := vE_ ae hg hb; have ac := Aside0.mk (hbox); have be := gG_ hg HB; have bb := gG_ hg HB; have al := nL_ hg aa; have am := nG_ hg aa; have ag := nL_ hg ab; have ai := nG_ hg ab; replace ab := bB_ ab hb; replace aa := bB_ aa hb; replace HB := hS_ HB hb; clear hb hbox hg; have o1 := aw.out; have px := ax.out; have o2 := al.out; have py := am.out; obtain ⟨ck, cl, cm, cn, co, cp, cq, dN, dO, dP, dQ, dR, dS, dT⟩ := cz7_ (w := w112) aa; have o3 := ag.out; have pz := ai.out; obtain ⟨cr, ct, cu, dU, dV, dW⟩ := cz3_ (w := w112) ab) | ((with_reducible refine gate_callee (f := 25) rfl ?_); refine gM_ (some 24) Tryd.func25 (lodgerref10_Check.calls k ah aj _ _ ap aq ar au av af ak _ _ ao aU _ (cC_ aZ HB) aY.out (cC_ aX HB) a0.out A4.out) ?_; rintro e w118 ⟨rfl, hb⟩; refine ⟨_, rfl, ?_⟩; replace ae := vB_ ae hb; replace ab := bB_ ab hb; replace HB := hS_ HB hb; replace aa := bB_ aa hb; replace ac := bB_ ac hb; (try clear hb); obtain ⟨cv, cw, cx, cy, cz, cA, cB, dX, dY, dZ, d0, d1, d2, d3⟩ := cz7_ (w := w118) aa; obtain ⟨cC, cD, cE, d4, d5, d6⟩ := cz3_ (w := w118) ab) | ((with_reducible refine gate_callee (f := 37) rfl ?_); refine gM_ (some 35) Tryd.func37 (lodgerref05_Offset.calls k ah aj ak aJ bi _ A6.out) ?_; rintro e w121 ⟨rfl, hb⟩; refine ⟨_, rfl, ?_⟩; replace ae := vB_ ae hb; replace ab := bB_ ab hb; replace HB := hS_ HB hb; replace aa := bB_ aa hb; replace ac := bB_ ac hb; (try clear hb)) | ((with_reducible refine gate_callee (f := 21) rfl ?_); refine gM_ (some 40) Tryd.func21 (lodgerref09_Has.calls k _ _ l1 aJ true _ (cD_ (Kd.V_reads' ae.out).2.2) ((Kd.V_reads' ae.out).2.1) A7.out) ?_; rintro e w' ⟨rfl, ⟨nd, rfl⟩⟩; refine ⟨_, rfl, ?_⟩; (try (rw [drewN_self w121]; generalize hq_ : World.drewN w121 _ = w121; have n0_ := Aside0.mk (V_atq hq_ ae.out); have n1_ := Aside0.mk (blk_at hq_ aa.out); have n2_ := Aside0.mk (blk_at hq_ ab.out); have n3_ := Aside0.mk (blk_at hq_ ac.out); have n4_ := Aside0.mk (below_at hq_ HB.out); clear hq_ ae aa ab ac HB; have ae := n0_; have aa := n1_; have ab := n2_; have ac := n3_; have HB := n4_; clear n0_ n1_ n2_ n3_ n4_)); obtain ⟨cF, cG, cH, d7, d8, d9⟩ := cz3_ (w := w121) ab) | ((with_reducible refine gate_callee (f := 38) rfl ?_); refine gM_ (some 91) Tryd.func38 (lodgerref09_Without.calls k _ _ l1 aJ a8 _ (cD_ (Kd.V_reads' ae.out).2.2) ((Kd.V_reads' ae.out).2.1) A109.out) ?_; rintro e w123 ⟨v657, rfl, ho0, hb⟩; refine ⟨_, rfl, ?_⟩; replace ae := Aside0.mk (Kd.V_elder' (vV_ ae) (Kd.R_base ho0) hb); have jT := Aside0.mk (Kd.R_lower (Kd.R_newM (M := fun k_ => (w.heap.size ≤ k_)) ho0 (below_size (hB_ HB)) (fun k_ h_ => h_)) (below_size (hB_ HB))); replace ab := bB_ ab hb; replace HB := hS_ HB hb; replace aa := bB_ aa hb; replace ac := bB_ ac hb; (try clear hb); (try clear ho0); obtain ⟨cI, cJ, cK, cL, cM, ea, eb, ec, ed, ee⟩ := cz5_ (w := w123) ac))
      refine bodyPost_ret (results_tc rfl _ _ ad 34 #[.int .i64 0, .int .u32 0, .bool false, .slice none 0 0, .slice none 0 0] (0, 0) _ rfl (by refine bp_ ?_; apply bS5_; refine bp_ ?_; exact ac.out) Tryd.underlying34 rfl (by kernel_rfl)) rfl ?_
      exact ⟨_, _, _, er_, Kd.V_mono (ok := (fun k_ => w.heap.size ≤ k_ ∧ some k_ ≠ (Value.slice none 0 0).ownBlock ∧ some k_ ≠ (Value.slice none 0 0).ownBlock)) (Kd.R_V (by (with_reducible repeat (first | apply Kd.R_alloc | apply Kd.R_drewN | apply Kd.R_drew)); exact Kd.R_mono (rF5_ (g := ad) (Kd.R_types jT.out ac.out (by decide)) (fun _ hk => hk.2)) (fun _ hk => ⟨hk.1.1, ⟨(by simp [Value.ownBlock]), (by simp [Value.ownBlock])⟩⟩))) (fun k_ hk => by first | exact ⟨(.inr (hk.1)), hk.2⟩ | exact (.inr (hk))), nl_, nl_, hB_ HB⟩
     ·replace c108 := Bool.eq_false_iff.mpr c108
      subst c108
      have H1 : (some (l1, 6, 0, false, ([] : List Int), ([] : List Int))) = some (r1, r2, r3, r4, r5, r6) := nf_ H
      clear H; have H := H1; clear H1; simp only [Option.some.injEq, Prod.mk.injEq] at H; obtain ⟨rfl, rfl, rfl, rfl, rfl, rfl⟩ := H
      go_enter Tryd.func16, Tryd.ntmps16
      go_wp2_with (first | ((with_reducible refine gd_ 3 ?_); refine box_event ?hg (N := 3) ?hd (cs := #[.int .u32 ah, .int .i64 aj, .slice aR ap.length aT, .int .i64 aq, .int .i64 ar, .int .i64 au, .int .i64 av]) (t := 27) ?hr ?_; (case hd => rfl); (case hg => rfl); (case hr => first | (go_simp; done) | (go_simp; rfl)); intro aC hg w125 hbox hb; replace ae := vE_ ae hg hb; have aa := Aside0.mk (hbox); have bc := gG_ hg HB; have a9 := gG_ hg HB; replace HB := hS_ HB hb; clear hb hbox hg) | ((with_reducible refine gd_ 5 ?_); refine box_event ?hg (N := 5) ?hd (cs := #[.int .i64 af, .int .u32 ak, .slice aW ao.length aN]) (t := 30) ?hr ?_; (case hd => rfl); (case hg => rfl); (case hr => first | (go_simp; done) | (go_simp; rfl)); intro az hg w126 hbox hb; replace ae := vE_ ae hg hb; have ab := Aside0.mk (hbox); have bd := gG_ hg HB; have ba := gG_ hg HB; replace HB := hS_ HB hb; have aw := nL_ hg aa; have ax := nG_ hg aa; replace aa := bB_ aa hb; clear hb hbox hg) | ((with_reducible refine gd_ 7 ?_); refine box_event ?hg (N := 7) ?hd (cs := #[.int .i64 0, .int .u32 0, .bool false, .slice none 0 0, .slice none 0 0]) (t := 34) ?hr ?_; (case hd => rfl); (case hg => rfl); (case hr => first | (go_simp; done) | (go_simp; rfl)); intro ad hg w127 hbox hb; replace ae := vE_ ae hg hb; have ac := Aside0.mk (hbox); have be := gG_ hg HB; have bb := gG_ hg HB; have al := nL_ hg aa; have am := nG_ hg aa; have ag := nL_ hg ab; have ai := nG_ hg ab; replace ab := bB_ ab hb; replace aa := bB_ aa hb; replace HB := hS_ HB hb; clear hb hbox hg; have o4 := aw.out; have pA := ax.out; have o5 := al.out; have pB := am.out; obtain ⟨cN, cO, cP, cQ, cR, cS, cT, ef, eg, eh, ei, ej, ek, el⟩ := cz7_ (w := w127) aa; have o6 := ag.out; have pC := ai.out; obtain ⟨cU, cV, cW, em, en, eo⟩ := cz3_ (w := w127) ab) | ((with_reducible refine gate_callee (f := 25) rfl ?_); refine gM_ (some 24) Tryd.func25 (lodgerref10_Check.calls k ah aj _ _ ap aq ar au av af ak _ _ ao aU _ (cC_ aZ HB) aY.out (cC_ aX HB) a0.out A4.out) ?_; rintro e w133 ⟨rfl, hb⟩; refine ⟨_, rfl, ?_⟩; replace ae := vB_ ae hb; replace ab := bB_ ab hb; replace HB := hS_ HB hb; replace aa := bB_ aa hb; replace ac := bB_ ac hb; (try clear hb); obtain ⟨cX, cY, cZ, c0, da, db, dc, ep, er, et, eu, ev, ew, ex⟩ := cz7_ (w := w133) aa; obtain ⟨dd, de, df, ey, ez, eA⟩ := cz3_ (w := w133) ab) | ((with_reducible refine gate_callee (f := 37) rfl ?_); refine gM_ (some 35) Tryd.func37 (lodgerref05_Offset.calls k ah aj ak aJ bi _ A6.out) ?_; rintro e w136 ⟨rfl, hb⟩; refine ⟨_, rfl, ?_⟩; replace ae := vB_ ae hb; replace ab := bB_ ab hb; replace HB := hS_ HB hb; replace aa := bB_ aa hb; replace ac := bB_ ac hb; (try clear hb)) | ((with_reducible refine gate_callee (f := 21) rfl ?_); refine gM_ (some 40) Tryd.func21 (lodgerref09_Has.calls k _ _ l1 aJ false _ (cD_ (Kd.V_reads' ae.out).2.2) ((Kd.V_reads' ae.out).2.1) A7.out) ?_; rintro e w' ⟨rfl, ⟨nd, rfl⟩⟩; refine ⟨_, rfl, ?_⟩; (try (rw [drewN_self w136]; generalize hq_ : World.drewN w136 _ = w136; have n0_ := Aside0.mk (V_atq hq_ ae.out); have n1_ := Aside0.mk (blk_at hq_ aa.out); have n2_ := Aside0.mk (blk_at hq_ ab.out); have n3_ := Aside0.mk (blk_at hq_ ac.out); have n4_ := Aside0.mk (below_at hq_ HB.out); clear hq_ ae aa ab ac HB; have ae := n0_; have aa := n1_; have ab := n2_; have ac := n3_; have HB := n4_; clear n0_ n1_ n2_ n3_ n4_)); obtain ⟨dg, dh, di, eB, eC, eD⟩ := cz3_ (w := w136) ab; obtain ⟨dj, dk, dl, dm, dn, eE, eF, eG, eH, eI⟩ := cz5_ (w := w136) ac))
      refine bodyPost_ret (results_tc rfl _ _ ad 34 #[.int .i64 6, .int .u32 0, .bool false, .slice none 0 0, .slice none 0 0] (0, 0) _ rfl (by refine bp_ ?_; apply bS5_; refine bp_ ?_; exact ac.out) Tryd.underlying34 rfl (by kernel_rfl)) rfl ?_
      exact ⟨_, _, _, er_, by (with_reducible repeat (first | apply Kd.V_alloc | apply Kd.V_drewN | apply Kd.V_drew)); exact Kd.V_mono (vF5_ (g := ad) (Kd.V_mono ae.out (fun k_ hk => (⟨hk, hk.2⟩ : _ ∧ k_ ≠ ad))) (fun _ hk => hk.2)) (fun _ hk => ⟨hk.1.1.1.1, ⟨(by simp [Value.ownBlock]), (by simp [Value.ownBlock])⟩⟩), nl_, nl_, hB_ HB⟩
    ·rw [if_neg c107] at H
     have cc : (af == 3) = false := beq_eq_false_iff_ne.mpr c107
     have cd : (af != 3) = true := bne_iff_ne.mpr c107
     by_cases c139 : af = 4
     ·rw [if_pos c139] at H
      have ce : (af == 4) = true := beq_iff_eq.mpr c139
      have cf : (af != 4) = false := bne_eq_false_iff_eq.mpr c139
      clear c139
      have H' := Aside0.mk H
      clear H
      go_enter Tryd.func16, Tryd.ntmps16
      go_wp2_with (first | ((with_reducible refine gd_ 3 ?_); refine box_event ?hg (N := 3) ?hd (cs := #[.int .u32 ah, .int .i64 aj, .slice aR ap.length aT, .int .i64 aq, .int .i64 ar, .int .i64 au, .int .i64 av]) (t := 27) ?hr ?_; (case hd => rfl); (case hg => rfl); (case hr => first | (go_simp; done) | (go_simp; rfl)); intro aC hg w140 hbox hb; replace ae := vE_ ae hg hb; have aa := Aside0.mk (hbox); have bc := gG_ hg HB; have a9 := gG_ hg HB; replace HB := hS_ HB hb; clear hb hbox hg) | ((with_reducible refine gd_ 5 ?_); refine box_event ?hg (N := 5) ?hd (cs := #[.int .i64 af, .int .u32 ak, .slice aW ao.length aN]) (t := 30) ?hr ?_; (case hd => rfl); (case hg => rfl); (case hr => first | (go_simp; done) | (go_simp; rfl)); intro az hg w141 hbox hb; replace ae := vE_ ae hg hb; have ab := Aside0.mk (hbox); have bd := gG_ hg HB; have ba := gG_ hg HB; replace HB := hS_ HB hb; have aw := nL_ hg aa; have ax := nG_ hg aa; replace aa := bB_ aa hb; clear hb hbox hg) | ((with_reducible refine gd_ 7 ?_); refine box_event ?hg (N := 7) ?hd (cs := #[.int .i64 0, .int .u32 0, .bool false, .slice none 0 0, .slice none 0 0]) (t := 34) ?hr ?_; (case hd => rfl); (case hg => rfl); (case hr => first | (go_simp; done) | (go_simp; rfl)); intro ad hg w142 hbox hb; replace ae := vE_ ae hg hb; have ac := Aside0.mk (hbox); have be := gG_ hg HB; have bb := gG_ hg HB; have al := nL_ hg aa; have am := nG_ hg aa; have ag := nL_ hg ab; have ai := nG_ hg ab; replace ab := bB_ ab hb; replace aa := bB_ aa hb; replace HB := hS_ HB hb; clear hb hbox hg; have o7 := aw.out; have pD := ax.out; have o8 := al.out; have pE := am.out; obtain ⟨dp, dq, dr, dt, du, dv, dw, eJ, eK, eL, eM, eN, eO, eP⟩ := cz7_ (w := w142) aa; have o9 := ag.out; have pF := ai.out; obtain ⟨dx, dy, dz, eQ, eR, eS⟩ := cz3_ (w := w142) ab) | ((with_reducible refine gate_callee (f := 25) rfl ?_); refine gM_ (some 24) Tryd.func25 (lodgerref10_Check.calls k ah aj _ _ ap aq ar au av af ak _ _ ao aU _ (cC_ aZ HB) aY.out (cC_ aX HB) a0.out A4.out) ?_; rintro e w148 ⟨rfl, hb⟩; refine ⟨_, rfl, ?_⟩; replace ae := vB_ ae hb; replace ab := bB_ ab hb; replace HB := hS_ HB hb; replace aa := bB_ aa hb; replace ac := bB_ ac hb; (try clear hb); obtain ⟨dA, dB, dC, dD, dE, dF, dG, eT, eU, eV, eW, eX, eY, eZ⟩ := cz7_ (w := w148) aa; obtain ⟨dH, dI, dJ, e0, e1, e2⟩ := cz3_ (w := w148) ab) | ((with_reducible refine gate_callee (f := 37) rfl ?_); refine gM_ (some 35) Tryd.func37 (lodgerref05_Offset.calls k ah aj ak aJ bi _ A6.out) ?_; rintro e w151 ⟨rfl, hb⟩; refine ⟨_, rfl, ?_⟩; replace ae := vB_ ae hb; replace ab := bB_ ab hb; replace HB := hS_ HB hb; replace aa := bB_ aa hb; replace ac := bB_ ac hb; (try clear hb)) | ((with_reducible refine gate_callee (f := 21) rfl ?_); refine gM_ (some 40) Tryd.func21 (lodgerref09_Has.calls k _ _ l1 aJ aQ _ (cD_ (Kd.V_reads' ae.out).2.2) ((Kd.V_reads' ae.out).2.1) A7.out) ?_; rintro e w' ⟨rfl, ⟨nd, rfl⟩⟩; refine ⟨_, rfl, ?_⟩; obtain ⟨dK, dL, dM, e3, e4, e5⟩ := cz3_ (w := w151) ab))
      go_loopg [16, 17, 18] k (fun kq v16 v17 v18 w' => ∃ (aH aV : List Int) (ay : Int), v18 = .int .i64 ay ∧ Aside0 (lodgerref11_Some.l1 kq aH aV ay ah aj ap aq ar au av af ak ao = some (r1, r2, r3, r4, r5, r6)) ∧ Aside0 (kq ≤ k) ∧ Aside0 (Kd.R (Kd.int .i64) 31 w' w.heap.size (fun k_ => (w.heap.size ≤ k_)) v16 aH) ∧ Aside0 (Kd.V (Kd.int .i64) 3 w' w.heap.size (fun k_ => (P1_ k_ ∨ w.heap.size ≤ k_) ∧ some k_ ≠ (v16 : Value).ownBlock ∧ k_ ≠ aC ∧ k_ ≠ az ∧ k_ ≠ ad) v17 aV) ∧ Aside0 (w'.heap[aC]? = some (.cells #[.int .u32 ah, .int .i64 aj, (.slice aR ap.length aT), .int .i64 aq, .int .i64 ar, .int .i64 au, .int .i64 av] 27 (0, 0))) ∧ Aside0 (w'.heap[az]? = some (.cells #[.int .i64 af, .int .u32 ak, (.slice aW ao.length aN)] 30 (0, 0))) ∧ Aside0 (w'.heap[ad]? = some (.cells #[.int .i64 0, .int .u32 0, .bool false, (.slice none 0 0), (.slice none 0 0)] 34 (0, 0))) ∧ Aside0 (Below w.heap.size w w'))
      case atStart => exact ⟨(([] : List Int)), (l1), (0), rs_, H', ⟨Nat.le_refl _⟩, ⟨nl_⟩, ⟨Kd.V_mono (vV_ ae) (fun _ hk => ⟨hk.1.1.1, ⟨(by simp [Value.ownBlock]), ⟨hk.1.1.2, ⟨hk.1.2, hk.2⟩⟩⟩⟩)⟩, ⟨bk_ aa⟩, ⟨bk_ ab⟩, ⟨bk_ ac⟩, ⟨hB_ HB⟩⟩
      case round =>
       clear H'
       try clear c1
       try clear c2
       try clear p2
       try clear c3
       try clear c4
       try clear c5
       try clear cg
       try clear ch
       try clear c6
       try clear p6
       try clear c7
       try clear c8
       try clear ci
       try clear cj
       try clear c9
       try clear c10
       try clear c11
       try clear c12
       try clear c13
       try clear c14
       try clear c15
       try clear c16
       try clear c21
       try clear c23
       try clear e9
       try clear c25
       try clear c26
       try clear c27
       try clear c30
       try clear c32
       try clear c33
       try clear c34
       try clear c37
       try clear c38
       try clear c48
       try clear c49
       try clear c54
       try clear c55
       try clear c56
       try clear c60
       try clear c64
       try clear p64
       try clear c65
       try clear c68
       try clear c70
       try clear fa
       try clear fb
       try clear c71
       try clear c75
       try clear c76
       try clear c78
       try clear c90
       try clear c91
       try clear c93
       try clear c107
       try clear cc
       try clear cd
       try clear c108
       try clear c113
       try clear c114
       try clear c116
       try clear c128
       try clear c129
       try clear c131
       try clear c139
       try clear ce
       try clear cf
       try clear c143
       try clear c144
       try clear c146
       try clear ck cl cm cn co cp cq
       try clear cr ct cu
       try clear cv cw cx cy cz cA cB
       try clear cC cD cE
       try clear cF cG cH
       try clear cI cJ cK cL cM
       try clear cN cO cP cQ cR cS cT
       try clear cU cV cW
       try clear cX cY cZ c0 da db dc
       try clear dd de df
       try clear dg dh di
       try clear dj dk dl dm dn
       try clear dp dq dr dt du dv dw
       try clear dx dy dz
       try clear dA dB dC dD dE dF dG
       try clear bp bq br bs bt bu bv
       try clear dH dI dJ
       try clear dK dL dM
       try clear bw bx bz
       try clear bA bB bC bD bE bF bG
       try clear bH bI bJ
       try clear bK bL bM
       try clear fc fd fe ff fg fh fi
       try clear fj fk fl fm fn fo fp
       try clear fq fr fs ft fu
       try clear fv fw fx fy fz fA fB
       try clear fC fD fE
       try clear fF fG fH fI fJ
       try clear fK fL fM fN fO fP fQ
       try clear fR fS fT fU fV fW fX
       try clear fY fZ f0 f1 f2
       try clear f3 f4 f5 f6 f7 f8 f9
       try clear ga gb gc
       try clear gd gf gg gh gi
       try clear gj gl gm gn go gp gq
       try clear gr gs gt gu gv
       try clear gw gx gy gz gA gB gC
       try clear gD gE gF
       try clear gG gH gI gJ gK gL gM
       try clear gN gO gP
       try clear gQ gR gS
       try clear gT gU gV gW gX
       try clear gY gZ g0 g1 g2 g3 g4
       try clear g5 g6 g7
       try clear g8 g9 ha hc he hf hh
       try clear hj hl hm
       try clear hp hq hs
       try clear dN dO dP dQ dR dS dT
       try clear dU dV dW
       try clear dX dY dZ d0 d1 d2 d3
       try clear d4 d5 d6
       try clear d7 d8 d9
       try clear ea eb ec ed ee
       try clear ef eg eh ei ej ek el
       try clear em en eo
       try clear ep er et eu ev ew ex
       try clear ey ez eA
       try clear eB eC eD
       try clear eE eF eG eH eI
       try clear eJ eK eL eM eN eO eP
       try clear eQ eR eS
       try clear eT eU eV eW eX eY eZ
       try clear bN bO bP bQ bR bS bT
       try clear e0 e1 e2
       try clear e3 e4 e5
       try clear bU bV bW
       try clear bX bY bZ b0 b1 b2 b3
       try clear b4 b5 b6
       try clear b7 b8 b9
       try clear ht hu hv hx hy hz hA
       try clear hB hC hD hE hF hG hH
       try clear hI hJ hL hM hN
       try clear hO hP hQ hR hS hT hU
       try clear hV hW hX
       try clear hY hZ h0 h1 h2
       try clear h3 h4 h5 h6 h7 h8 h9
       try clear ia ib ic ie ig ii ij
       try clear ik il im io ip
       try clear iq ir it iu iv iw ix
       try clear iy iz iA
       try clear iB iC iD iE iF
       try clear iG iH iI iJ iK iL iM
       try clear iN iO iP iQ iR
       try clear iS iT iU iV iW iX iY
       try clear iZ i0 i1
       try clear i2 i3 i4 i5 i6 i7 i8
       try clear i9 ja jb
       try clear jc jd je
       try clear jf jg jh ji jj
       try clear jk jl jm jn jo jp jq
       try clear jr js jt
       try clear ju jv jw jx jy jz jA
       try clear jB jC jD
       try clear jE jF jG
       try clear p2
       obtain ⟨aH, aV, ay, rfl, HA, HK1, aG, aA, aa, ab, ac, HB⟩ := hrel
       cases gk with
       | zero => exact absurd HA.out (by simp [lodgerref11_Some.l1])
       | succ k1 =>
        have H := HA.out; clear HA; simp only [lodgerref11_Some.l1] at H
        by_cases c153 : ay < (ao.length : Int)
        ·rw [if_pos c153] at H
         have jH : decide (ay < (ao.length : Int)) = true := decide_eq_true c153
         clear c153
         by_cases c154 : 0 ≤ ay
         ·rw [if_pos c154] at H
          have oV : decide (0 ≤ ay) = true := decide_eq_true c154
          clear c154; replace H := bi_ H; obtain ⟨⟨a1, jN⟩, A1550, H⟩ := H
          replace H : ((lodgerref09_Has.f k1 aV a1).bind fun cb => (if cb = true then (if aH.length < 17592186044416 then ((lodgerref09_Without.f k1 aV a1).bind fun bf => (lodgerref11_Some.l1 k1 (aH ++ [0]) bf (wrap64 (ay + 1)) ah aj ap aq ar au av af ak ao)) else (none)) else (if aH.length < 17592186044416 then ((lodgerref09_Without.f k1 aV a1).bind fun bg => (lodgerref11_Some.l1 k1 (aH ++ [6]) bg (wrap64 (ay + 1)) ah aj ap aq ar au av af ak ao)) else (none)))) = some (r1, r2, r3, r4, r5, r6) := H
          have A155 := Aside0.mk A1550; clear A1550; replace H := bi_ H; obtain ⟨cb, A1560, H⟩ := H
          replace H : (if cb = true then (if aH.length < 17592186044416 then ((lodgerref09_Without.f k1 aV a1).bind fun bf => (lodgerref11_Some.l1 k1 (aH ++ [0]) bf (wrap64 (ay + 1)) ah aj ap aq ar au av af ak ao)) else (none)) else (if aH.length < 17592186044416 then ((lodgerref09_Without.f k1 aV a1).bind fun bg => (lodgerref11_Some.l1 k1 (aH ++ [6]) bg (wrap64 (ay + 1)) ah aj ap aq ar au av af ak ao)) else (none))) = some (r1, r2, r3, r4, r5, r6) := H
          have A156 := Aside0.mk A1560; clear A1560
          by_cases c157 : cb = true
          ·subst c157
           have H1 : (if aH.length < 17592186044416 then ((lodgerref09_Without.f k1 aV a1).bind fun bf => (lodgerref11_Some.l1 k1 (aH ++ [0]) bf (wrap64 (ay + 1)) ah aj ap aq ar au av af ak ao)) else (none)) = some (r1, r2, r3, r4, r5, r6) := pf_ rfl H
           clear H; have H := H1; clear H1
           by_cases c158 : aH.length < 17592186044416
           ·rw [if_pos c158] at H
            have LMc158 := Aside0.mk c158; clear c158; obtain ⟨e6, hy663⟩ : ∃ y_ : List Int, y_ = (aH ++ [0]) := ⟨_, rfl⟩
            replace H : ((lodgerref09_Without.f k1 aV a1).bind fun bf => (lodgerref11_Some.l1 k1 e6 bf (wrap64 (ay + 1)) ah aj ap aq ar au av af ak ao)) = some (r1, r2, r3, r4, r5, r6) := rp_ hy663 H
            have Ny663 := Aside0.mk hy663; clear hy663; replace H := bi_ H; obtain ⟨bf, A1590, H⟩ := H
            replace H : (lodgerref11_Some.l1 k1 e6 bf (wrap64 (ay + 1)) ah aj ap aq ar au av af ak ao) = some (r1, r2, r3, r4, r5, r6) := H
            have A159 := Aside0.mk A1590; clear A1590
            have H' := Aside0.mk H
            clear H; have pa := ax.out; have pG := aw.out; have pb := ag.out; have pH := ai.out; obtain ⟨jY, jZ, j0, lY, lZ, l2⟩ := cz3_ (w := wr) ab
            try go_wp2
            replace aG := Aside0.mk (Kd.R_drew aG.out); replace aA := Aside0.mk (Kd.V_drew aA.out); replace aa := Aside0.mk (blk_drew aa.out); replace ab := Aside0.mk (blk_drew ab.out); replace ac := Aside0.mk (blk_drew ac.out); replace HB := Aside0.mk (below_drew1 HB.out)
            have p659 : 0 ≤ (ay : Int) := od_
            have q659 : ay < (ao.length : Int) := od_
            obtain ⟨ad659, e659, hx659_0⟩ := Kd.at_int aX.out ay p659 q659; have hw659_0 := hx659_0
            cases e659
            replace hx659_0 := (HB.out.cell (World.block_lt_of_cell? w _ hx659_0)).trans hx659_0; replace p659 := eq_true p659; replace q659 := eq_true q659
            refine start_ (n := 13) (S := fun w' => P7_ w' aC (.int .u32 ah) (.int .i64 aj) (.slice aR ap.length aT) (.int .i64 aq) (.int .i64 ar) (.int .i64 au) (.int .i64 av) (P3_ w' az (.int .i64 af) (.int .u32 ak) (.slice (some ad659) ao.length aN) (w'.cell? (ad659.add (ay).toNat) = some (.int .u32 (rd ao ay))))) (ds := []) (tf 13 0) (by kernel_rfl) rfl rfl (ck7_ aa (ck3_ ab (((HB.out.cell (World.block_lt_of_cell? w _ hw659_0)).trans hw659_0)))) (fun hHeld => ?_); refine with_tabW lodgerref11_Some.tab30 lodgerref11_Some.bits30 (fun HT_ HW_ => ?_)
            generalize wr.drew = w163 at aG aA aa ab ac HB hx659_0 hHeld ⊢
            refine pvU_ 0 104 (tf 13 1) HT_ ?_; refine pvU_ 2 106 (tf 13 5) HT_ ?_; refine pvU_ 4 108 (tf 13 21) HT_ ?_; refine tvU_ 1 105 (tf 13 23) rfl rfl HT_ HW_ hHeld (by rintro w' ⟨s0, s1, s2, s3, s4, s5, s6, s7, s8, s9, s10⟩; go_simp; with_reducible rfl) ?_; refine tvU_ 3 107 (tf 13 31) rfl rfl HT_ HW_ hHeld (by rintro w' ⟨s0, s1, s2, s3, s4, s5, s6, s7, s8, s9, s10⟩; go_simp; with_reducible rfl) ?_; refine pvU_ 5 109 (tf 13 63) HT_ ?_; refine tvU_ 6 110 (tf 13 127) rfl rfl HT_ HW_ hHeld (by rintro w' ⟨s0, s1, s2, s3, s4, s5, s6, s7, s8, s9, s10⟩; go_simp; with_reducible rfl) ?_
            refine on_ (i := 7) (N := some 111) (tf 13 255) HT_ (fun K hK => ?_)
            refine gN_ Tryd.func37 (lodgerref05_Offset.calls k1 ah aj (rd ao ay) a1 jN _ A155.out) ?_
            rintro e w164 ⟨rfl, hb⟩
            refine ⟨_, rfl, ?_⟩
            replace aG := rB_ aG hb; replace aA := vB_ aA hb; replace aa := bB_ aa hb; replace ab := bB_ ab hb; replace ac := bB_ ac hb; replace HB := hS_ HB hb
            (try clear hb)
            (try clear hb2)
            (try clear hk)
            (try clear hi)
            refine hK.out _ _ ⟨(blk_cell aa.out 0).trans rfl, (blk_cell aa.out 1).trans rfl, (blk_cell aa.out 2).trans rfl, (blk_cell aa.out 3).trans rfl, (blk_cell aa.out 4).trans rfl, (blk_cell aa.out 5).trans rfl, (blk_cell aa.out 6).trans rfl, (blk_cell ab.out 0).trans rfl, (blk_cell ab.out 1).trans rfl, (blk_cell ab.out 2).trans rfl, ((HB.out.cell (World.block_lt_of_cell? w _ hw659_0)).trans hw659_0)⟩ (fun hHeld => ?_)
            clear hK K
            refine norm_ (a' := ?_) ?_ ?_
            rotate_left
            ·show Act.put _ (some 111) _ = _
             simp only [Act.put, List.setIfInBounds_toArray, List.set_cons_zero, List.set_cons_succ, i64_w, i32_w, IntKind.wrap_u32, Int.add_emod_emod, Int.emod_add_emod]
             rfl
            refine pvU_ 8 103 (tf 13 511) HT_ ?_; refine pvU_ 9 112 (tf 13 1023) HT_ ?_; refine pvU_ 10 113 (tf 13 2047) HT_ ?_; refine pvU_ 11 19 (tf 13 4095) HT_ ?_; refine pvU_ 12 20 (tf 13 8191) HT_ ?_
            refine done_ (done_of HT_.out (by kernel_rfl)) ?_
            obtain ⟨p0, p3, eo165⟩ := Kd.V_slice aA.out; subst eo165
            try go_wp2_with (first | ((with_reducible refine gate_callee (f := 21) rfl ?_); refine gM_ (some 116) Tryd.func21 (lodgerref09_Has.calls k1 _ _ aV a1 true _ (cD_ (Kd.V_reads' aA.out).2.2) ((Kd.V_reads' aA.out).2.1) A156.out) ?_; rintro e w' ⟨rfl, ⟨nd, rfl⟩⟩; refine ⟨_, rfl, ?_⟩) | ((with_reducible refine gate_builtin (b := .append) (xs := #[.tmp 117, .tmp 119]) rfl ?_); at_builtin; refine Kd.R_append (Kd.int .i64) (w0 := w) w.heap.size rfl (.tmp 117) (.tmp 119) 32 31 (.int .i64 0) 8 rfl Tryd.underlying32 info31 rfl (by decide) (by omega) u16 aH 0 [.int .i64 0] (fun k_ => (w.heap.size ≤ k_)) (fun _ => False) rfl rfl ?aP (fun _ hk => hk.elim) ?aF ?aO ?aB ?aS ?aL ?_; (case aP => exact rfl); (case aB => exact (hB_ HB)); (case aF => exact (fun k_ hk => (Nat.le_trans (below_size (hB_ HB)) hk))); (case aO => exact (rR_ aG)); (case aS => exact (below_size (hB_ HB))); (case aL => have := LMc158.out; omega); intro v664 w166 ho hb hg hat; rw [← Ny663.out] at ho; replace aA := Aside0.mk (Kd.V_afterv (ok := (fun k_ => (P1_ k_ ∨ w.heap.size ≤ k_) ∧ k_ ≠ aC ∧ k_ ≠ az ∧ k_ ≠ ad)) (Kd.V_mono (vV_ aA) (fun _ hk => ⟨⟨hk.1, ⟨hk.2.2.1, ⟨hk.2.2.2.1, hk.2.2.2.2⟩⟩⟩, hk.2.1⟩)) hg hat); replace aa := Aside0.mk (blk_grown (g := aC) (o := .cells #[.int .u32 ah, .int .i64 aj, .slice aR ap.length aT, .int .i64 aq, .int .i64 ar, .int .i64 au, .int .i64 av] 27 (0, 0)) (bk_ aa) hg (Kd.R_ne aG.out aa.out (by decide))); replace ab := Aside0.mk (blk_grown (g := az) (o := .cells #[.int .i64 af, .int .u32 ak, .slice (some ad659) ao.length aN] 30 (0, 0)) (bk_ ab) hg (Kd.R_ne aG.out ab.out (by decide))); replace ac := Aside0.mk (blk_grown (g := ad) (o := .cells #[.int .i64 0, .int .u32 0, .bool false, .slice none 0 0, .slice none 0 0] 34 (0, 0)) (bk_ ac) hg (Kd.R_ne aG.out ac.out (by decide))); replace HB := Aside0.mk (hb); have bn := Aside0.mk (ho); clear aG ho hb hg hat) | ((with_reducible refine gate_callee (f := 38) rfl ?_); refine gM_ (some 123) Tryd.func38 (lodgerref09_Without.calls k1 _ _ aV a1 bf _ (cD_ (Kd.V_reads' aA.out).2.2) ((Kd.V_reads' aA.out).2.1) A159.out) ?_; rintro e w167 ⟨v667, rfl, ho0, hb⟩; refine ⟨_, rfl, ?_⟩; replace aA := Aside0.mk (Kd.V_elder' (vV_ aA) (Kd.R_base ho0) hb); replace bn := rB_ bn hb; have jU := Aside0.mk (Kd.R_lower (Kd.R_newM (M := fun k_ => (w.heap.size ≤ k_)) ho0 (below_size (hB_ HB)) (fun k_ h_ => h_)) (below_size (hB_ HB))); replace ab := bB_ ab hb; replace HB := hS_ HB hb; replace aa := bB_ aa hb; replace ac := bB_ ac hb; (try clear hb); (try clear ho0)))
            go_roundg k1
            case measure => have := HK1.out; omega
            case rel => exact ⟨(e6), (bf), (wrap64 (ay + 1)), rs_, H', ⟨om_ HK1⟩, ⟨rR_ bn⟩, ⟨Kd.V_mono (ok := (fun k_ => (w.heap.size ≤ k_) ∧ some k_ ≠ (v664 : Value).ownBlock ∧ k_ ≠ aC ∧ k_ ≠ az ∧ k_ ≠ ad)) (Kd.R_V (by (with_reducible repeat (first | apply Kd.R_alloc | apply Kd.R_drewN | apply Kd.R_drew)); exact Kd.R_mono (Kd.R_types (Kd.R_types (Kd.R_types (Kd.R_apart' jU.out (Kd.R_typed bn.out) (by decide)) aa.out (by decide)) ab.out (by decide)) ac.out (by decide)) (fun _ hk => ⟨hk.1.1.1.1.1, ⟨hk.1.1.1.2, ⟨hk.1.1.2, ⟨hk.1.2, hk.2⟩⟩⟩⟩))) (fun k_ hk => by first | exact ⟨(.inr (hk.1)), hk.2⟩ | exact (.inr (hk)))⟩, ⟨bk_ aa⟩, ⟨bk_ ab⟩, ⟨bk_ ac⟩, ⟨hB_ HB⟩⟩
           ·rw [if_neg c158] at H
            exact absurd H (by simp)
          ·replace c157 := Bool.eq_false_iff.mpr c157
           subst c157
           have H1 : (if aH.length < 17592186044416 then ((lodgerref09_Without.f k1 aV a1).bind fun bg => (lodgerref11_Some.l1 k1 (aH ++ [6]) bg (wrap64 (ay + 1)) ah aj ap aq ar au av af ak ao)) else (none)) = some (r1, r2, r3, r4, r5, r6) := nf_ H
           clear H; have H := H1; clear H1
           by_cases c168 : aH.length < 17592186044416
           ·rw [if_pos c168] at H
            have LMc168 := Aside0.mk c168; clear c168; obtain ⟨e7, hy669⟩ : ∃ y_ : List Int, y_ = (aH ++ [6]) := ⟨_, rfl⟩
            replace H : ((lodgerref09_Without.f k1 aV a1).bind fun bg => (lodgerref11_Some.l1 k1 e7 bg (wrap64 (ay + 1)) ah aj ap aq ar au av af ak ao)) = some (r1, r2, r3, r4, r5, r6) := rp_ hy669 H
            have Ny669 := Aside0.mk hy669; clear hy669; replace H := bi_ H; obtain ⟨bg, A1690, H⟩ := H
            replace H : (lodgerref11_Some.l1 k1 e7 bg (wrap64 (ay + 1)) ah aj ap aq ar au av af ak ao) = some (r1, r2, r3, r4, r5, r6) := H
            have A169 := Aside0.mk A1690; clear A1690
            have H' := Aside0.mk H
            clear H; have pc := ax.out; have pI := aw.out; have pd := ag.out; have pJ := ai.out; obtain ⟨j1, j2, j3, l3, l4, l5⟩ := cz3_ (w := wr) ab
            try go_wp2
            replace aG := Aside0.mk (Kd.R_drew aG.out); replace aA := Aside0.mk (Kd.V_drew aA.out); replace aa := Aside0.mk (blk_drew aa.out); replace ab := Aside0.mk (blk_drew ab.out); replace ac := Aside0.mk (blk_drew ac.out); replace HB := Aside0.mk (below_drew1 HB.out)
            have p659 : 0 ≤ (ay : Int) := od_
            have q659 : ay < (ao.length : Int) := od_
            obtain ⟨ad659, e659, hx659_0⟩ := Kd.at_int aX.out ay p659 q659; have hw659_0 := hx659_0
            cases e659
            replace hx659_0 := (HB.out.cell (World.block_lt_of_cell? w _ hx659_0)).trans hx659_0; replace p659 := eq_true p659; replace q659 := eq_true q659
            refine start_ (n := 13) (S := fun w' => P7_ w' aC (.int .u32 ah) (.int .i64 aj) (.slice aR ap.length aT) (.int .i64 aq) (.int .i64 ar) (.int .i64 au) (.int .i64 av) (P3_ w' az (.int .i64 af) (.int .u32 ak) (.slice (some ad659) ao.length aN) (w'.cell? (ad659.add (ay).toNat) = some (.int .u32 (rd ao ay))))) (ds := []) (tf 13 0) (by kernel_rfl) rfl rfl (ck7_ aa (ck3_ ab (((HB.out.cell (World.block_lt_of_cell? w _ hw659_0)).trans hw659_0)))) (fun hHeld => ?_); refine with_tabW lodgerref11_Some.tab30 lodgerref11_Some.bits30 (fun HT_ HW_ => ?_)
            generalize wr.drew = w173 at aG aA aa ab ac HB hx659_0 hHeld ⊢
            refine pvU_ 0 104 (tf 13 1) HT_ ?_; refine pvU_ 2 106 (tf 13 5) HT_ ?_; refine pvU_ 4 108 (tf 13 21) HT_ ?_; refine tvU_ 1 105 (tf 13 23) rfl rfl HT_ HW_ hHeld (by rintro w' ⟨s0, s1, s2, s3, s4, s5, s6, s7, s8, s9, s10⟩; go_simp; with_reducible rfl) ?_; refine tvU_ 3 107 (tf 13 31) rfl rfl HT_ HW_ hHeld (by rintro w' ⟨s0, s1, s2, s3, s4, s5, s6, s7, s8, s9, s10⟩; go_simp; with_reducible rfl) ?_; refine pvU_ 5 109 (tf 13 63) HT_ ?_; refine tvU_ 6 110 (tf 13 127) rfl rfl HT_ HW_ hHeld (by rintro w' ⟨s0, s1, s2, s3, s4, s5, s6, s7, s8, s9, s10⟩; go_simp; with_reducible rfl) ?_
            refine on_ (i := 7) (N := some 111) (tf 13 255) HT_ (fun K hK => ?_)
            refine gN_ Tryd.func37 (lodgerref05_Offset.calls k1 ah aj (rd ao ay) a1 jN _ A155.out) ?_
            rintro e w174 ⟨rfl, hb⟩
            refine ⟨_, rfl, ?_⟩
            replace aG := rB_ aG hb; replace aA := vB_ aA hb; replace aa := bB_ aa hb; replace ab := bB_ ab hb; replace ac := bB_ ac hb; replace HB := hS_ HB hb
            (try clear hb)
            (try clear hb2)
            (try clear hk)
            (try clear hi)
            refine hK.out _ _ ⟨(blk_cell aa.out 0).trans rfl, (blk_cell aa.out 1).trans rfl, (blk_cell aa.out 2).trans rfl, (blk_cell aa.out 3).trans rfl, (blk_cell aa.out 4).trans rfl, (blk_cell aa.out 5).trans rfl, (blk_cell aa.out 6).trans rfl, (blk_cell ab.out 0).trans rfl, (blk_cell ab.out 1).trans rfl, (blk_cell ab.out 2).trans rfl, ((HB.out.cell (World.block_lt_of_cell? w _ hw659_0)).trans hw659_0)⟩ (fun hHeld => ?_)
            clear hK K
            refine norm_ (a' := ?_) ?_ ?_
            rotate_left
            ·show Act.put _ (some 111) _ = _
             simp only [Act.put, List.setIfInBounds_toArray, List.set_cons_zero, List.set_cons_succ, i64_w, i32_w, IntKind.wrap_u32, Int.add_emod_emod, Int.emod_add_emod]
             rfl
            refine pvU_ 8 103 (tf 13 511) HT_ ?_; refine pvU_ 9 112 (tf 13 1023) HT_ ?_; refine pvU_ 10 113 (tf 13 2047) HT_ ?_; refine pvU_ 11 19 (tf 13 4095) HT_ ?_; refine pvU_ 12 20 (tf 13 8191) HT_ ?_
            refine done_ (done_of HT_.out (by kernel_rfl)) ?_
            obtain ⟨p1, p4, eo175⟩ := Kd.V_slice aA.out; subst eo175
            try go_wp2_with (first | ((with_reducible refine gate_callee (f := 21) rfl ?_); refine gM_ (some 116) Tryd.func21 (lodgerref09_Has.calls k1 _ _ aV a1 false _ (cD_ (Kd.V_reads' aA.out).2.2) ((Kd.V_reads' aA.out).2.1) A156.out) ?_; rintro e w' ⟨rfl, ⟨nd, rfl⟩⟩; refine ⟨_, rfl, ?_⟩) | ((with_reducible refine gate_builtin (b := .append) (xs := #[.tmp 117, .tmp 119]) rfl ?_); at_builtin; refine Kd.R_append (Kd.int .i64) (w0 := w) w.heap.size rfl (.tmp 117) (.tmp 119) 32 31 (.int .i64 0) 8 rfl Tryd.underlying32 info31 rfl (by decide) (by omega) u16 aH 6 [.int .i64 6] (fun k_ => (w.heap.size ≤ k_)) (fun _ => False) rfl rfl ?aP (fun _ hk => hk.elim) ?aF ?aO ?aB ?aS ?aL ?_; (case aP => exact rfl); (case aB => exact (hB_ HB)); (case aF => exact (fun k_ hk => (Nat.le_trans (below_size (hB_ HB)) hk))); (case aO => exact (rR_ aG)); (case aS => exact (below_size (hB_ HB))); (case aL => have := LMc168.out; omega); intro v670 w176 ho hb hg hat; rw [← Ny669.out] at ho; replace aA := Aside0.mk (Kd.V_afterv (ok := (fun k_ => (P1_ k_ ∨ w.heap.size ≤ k_) ∧ k_ ≠ aC ∧ k_ ≠ az ∧ k_ ≠ ad)) (Kd.V_mono (vV_ aA) (fun _ hk => ⟨⟨hk.1, ⟨hk.2.2.1, ⟨hk.2.2.2.1, hk.2.2.2.2⟩⟩⟩, hk.2.1⟩)) hg hat); replace aa := Aside0.mk (blk_grown (g := aC) (o := .cells #[.int .u32 ah, .int .i64 aj, .slice aR ap.length aT, .int .i64 aq, .int .i64 ar, .int .i64 au, .int .i64 av] 27 (0, 0)) (bk_ aa) hg (Kd.R_ne aG.out aa.out (by decide))); replace ab := Aside0.mk (blk_grown (g := az) (o := .cells #[.int .i64 af, .int .u32 ak, .slice (some ad659) ao.length aN] 30 (0, 0)) (bk_ ab) hg (Kd.R_ne aG.out ab.out (by decide))); replace ac := Aside0.mk (blk_grown (g := ad) (o := .cells #[.int .i64 0, .int .u32 0, .bool false, .slice none 0 0, .slice none 0 0] 34 (0, 0)) (bk_ ac) hg (Kd.R_ne aG.out ac.out (by decide))); replace HB := Aside0.mk (hb); have bo := Aside0.mk (ho); clear aG ho hb hg hat) | ((with_reducible refine gate_callee (f := 38) rfl ?_); refine gM_ (some 123) Tryd.func38 (lodgerref09_Without.calls k1 _ _ aV a1 bg _ (cD_ (Kd.V_reads' aA.out).2.2) ((Kd.V_reads' aA.out).2.1) A169.out) ?_; rintro e w177 ⟨v673, rfl, ho0, hb⟩; refine ⟨_, rfl, ?_⟩; replace aA := Aside0.mk (Kd.V_elder' (vV_ aA) (Kd.R_base ho0) hb); replace bo := rB_ bo hb; have jV := Aside0.mk (Kd.R_lower (Kd.R_newM (M := fun k_ => (w.heap.size ≤ k_)) ho0 (below_size (hB_ HB)) (fun k_ h_ => h_)) (below_size (hB_ HB))); replace ab := bB_ ab hb; replace HB := hS_ HB hb; replace aa := bB_ aa hb; replace ac := bB_ ac hb; (try clear hb); (try clear ho0)))
            go_roundg k1
            case measure => have := HK1.out; omega
            case rel => exact ⟨(e7), (bg), (wrap64 (ay + 1)), rs_, H', ⟨om_ HK1⟩, ⟨rR_ bo⟩, ⟨Kd.V_mono (ok := (fun k_ => (w.heap.size ≤ k_) ∧ some k_ ≠ (v670 : Value).ownBlock ∧ k_ ≠ aC ∧ k_ ≠ az ∧ k_ ≠ ad)) (Kd.R_V (by (with_reducible repeat (first | apply Kd.R_alloc | apply Kd.R_drewN | apply Kd.R_drew)); exact Kd.R_mono (Kd.R_types (Kd.R_types (Kd.R_types (Kd.R_apart' jV.out (Kd.R_typed bo.out) (by decide)) aa.out (by decide)) ab.out (by decide)) ac.out (by decide)) (fun _ hk => ⟨hk.1.1.1.1.1, ⟨hk.1.1.1.2, ⟨hk.1.1.2, ⟨hk.1.2, hk.2⟩⟩⟩⟩))) (fun k_ hk => by first | exact ⟨(.inr (hk.1)), hk.2⟩ | exact (.inr (hk)))⟩, ⟨bk_ aa⟩, ⟨bk_ ab⟩, ⟨bk_ ac⟩, ⟨hB_ HB⟩⟩
           ·rw [if_neg c168] at H
            exact absurd H (by simp)
         ·rw [if_neg c154] at H
          exact absurd H (by simp)
        ·rw [if_neg c153] at H
         have jH : decide (ay < (ao.length : Int)) = false := decide_eq_false c153
         clear c153; simp only [Option.some.injEq, Prod.mk.injEq] at H; obtain ⟨rfl, rfl, rfl, rfl, rfl, rfl⟩ := H; have pe := ax.out; have pK := aw.out; have pf := ag.out; have pL := ai.out; obtain ⟨j4, j5, j6, l6, l7, l8⟩ := cz3_ (w := wr) ab; obtain ⟨jO, jW, eo181⟩ := Kd.R_slice aG.out; subst eo181; have pg := am.out; have pM := al.out; obtain ⟨j7, j8, j9, ka, kb, l9, ma, mb, mc, me⟩ := cz5_ (w := wr) ac
         go_wp2
         refine bodyPost_ret (results_tc rfl _ _ ad 34 #[.int .i64 0, .int .u32 0, .bool false, .slice none 0 0, .slice jO aH.length jW] (0, 0) _ rfl (by refine bp_ ?_; apply bS5_; refine bp_ ?_; exact ac.out) Tryd.underlying34 rfl (by kernel_rfl)) rfl ?_
         exact ⟨_, _, _, er_, by (with_reducible repeat (first | apply Kd.V_alloc | apply Kd.V_drewN | apply Kd.V_drew)); exact Kd.V_mono (vF5_ (g := ad) (Kd.V_mono aA.out (fun k_ hk => (⟨hk, hk.2.2.2.2⟩ : _ ∧ k_ ≠ ad))) (fun _ hk => hk.2)) (fun _ hk => ⟨hk.1.1, ⟨(by simp [Value.ownBlock]), hk.1.2.1⟩⟩), nl_, by (with_reducible repeat (first | apply Kd.R_alloc | apply Kd.R_drewN | apply Kd.R_drew)); exact Kd.R_mono (rF5_ (g := ad) (Kd.R_types aG.out ac.out (by decide)) (fun _ hk => hk.2)) (fun _ hk => hk.1), hB_ HB⟩
     ·rw [if_neg c139] at H
      have ce : (af == 4) = false := beq_eq_false_iff_ne.mpr c139
      have cf : (af != 4) = true := bne_iff_ne.mpr c139
      by_cases c184 : af = 5
      ·rw [if_pos c184] at H
       have jI : (af == 5) = true := beq_iff_eq.mpr c184
       have jJ : (af != 5) = false := bne_eq_false_iff_eq.mpr c184
       clear c184; simp only [Option.some.injEq, Prod.mk.injEq] at H; obtain ⟨rfl, rfl, rfl, rfl, rfl, rfl⟩ := H
       go_enter Tryd.func16, Tryd.ntmps16
       go_wp2_with (first | ((with_reducible refine gd_ 3 ?_); refine box_event ?hg (N := 3) ?hd (cs := #[.int .u32 ah, .int .i64 aj, .slice aR ap.length aT, .int .i64 aq, .int .i64 ar, .int .i64 au, .int .i64 av]) (t := 27) ?hr ?_; (case hd => rfl); (case hg => rfl); (case hr => first | (go_simp; done) | (go_simp; rfl)); intro aC hg w185 hbox hb; replace ae := vE_ ae hg hb; have aa := Aside0.mk (hbox); have bc := gG_ hg HB; have a9 := gG_ hg HB; replace HB := hS_ HB hb; clear hb hbox hg) | ((with_reducible refine gd_ 5 ?_); refine box_event ?hg (N := 5) ?hd (cs := #[.int .i64 af, .int .u32 ak, .slice aW ao.length aN]) (t := 30) ?hr ?_; (case hd => rfl); (case hg => rfl); (case hr => first | (go_simp; done) | (go_simp; rfl)); intro az hg w186 hbox hb; replace ae := vE_ ae hg hb; have ab := Aside0.mk (hbox); have bd := gG_ hg HB; have ba := gG_ hg HB; replace HB := hS_ HB hb; have aw := nL_ hg aa; have ax := nG_ hg aa; replace aa := bB_ aa hb; clear hb hbox hg) | ((with_reducible refine gd_ 7 ?_); refine box_event ?hg (N := 7) ?hd (cs := #[.int .i64 0, .int .u32 0, .bool false, .slice none 0 0, .slice none 0 0]) (t := 34) ?hr ?_; (case hd => rfl); (case hg => rfl); (case hr => first | (go_simp; done) | (go_simp; rfl)); intro ad hg w187 hbox hb; replace ae := vE_ ae hg hb; have ac := Aside0.mk (hbox); have be := gG_ hg HB; have bb := gG_ hg HB; have al := nL_ hg aa; have am := nG_ hg aa; have ag := nL_ hg ab; have ai := nG_ hg ab; replace ab := bB_ ab hb; replace aa := bB_ aa hb; replace HB := hS_ HB hb; clear hb hbox hg; have ph := aw.out; have pN := ax.out; have pi := al.out; have pO := am.out; obtain ⟨kc, kd, ke, kf, kg, kh, ki, mf, mg, mh, mi, mj, ml, mm⟩ := cz7_ (w := w187) aa; have pj := ag.out; have pP := ai.out; obtain ⟨kj, kk, kl, mo, mp, mq⟩ := cz3_ (w := w187) ab) | ((with_reducible refine gate_callee (f := 25) rfl ?_); refine gM_ (some 24) Tryd.func25 (lodgerref10_Check.calls k ah aj _ _ ap aq ar au av af ak _ _ ao aU _ (cC_ aZ HB) aY.out (cC_ aX HB) a0.out A4.out) ?_; rintro e w193 ⟨rfl, hb⟩; refine ⟨_, rfl, ?_⟩; replace ae := vB_ ae hb; replace ab := bB_ ab hb; replace HB := hS_ HB hb; replace aa := bB_ aa hb; replace ac := bB_ ac hb; (try clear hb); obtain ⟨km, kn, ko, kp, kr, ks, kt, mr, ms, mt, mu, mv, mw, my⟩ := cz7_ (w := w193) aa; obtain ⟨ku, kv, kw, mz, mA, mB⟩ := cz3_ (w := w193) ab) | ((with_reducible refine gate_callee (f := 37) rfl ?_); refine gM_ (some 35) Tryd.func37 (lodgerref05_Offset.calls k ah aj ak aJ bi _ A6.out) ?_; rintro e w196 ⟨rfl, hb⟩; refine ⟨_, rfl, ?_⟩; replace ae := vB_ ae hb; replace ab := bB_ ab hb; replace HB := hS_ HB hb; replace aa := bB_ aa hb; replace ac := bB_ ac hb; (try clear hb)) | ((with_reducible refine gate_callee (f := 21) rfl ?_); refine gM_ (some 40) Tryd.func21 (lodgerref09_Has.calls k _ _ l1 aJ aQ _ (cD_ (Kd.V_reads' ae.out).2.2) ((Kd.V_reads' ae.out).2.1) A7.out) ?_; rintro e w' ⟨rfl, ⟨nd, rfl⟩⟩; refine ⟨_, rfl, ?_⟩; (try (rw [drewN_self w196]; generalize hq_ : World.drewN w196 _ = w196; have n0_ := Aside0.mk (V_atq hq_ ae.out); have n1_ := Aside0.mk (blk_at hq_ aa.out); have n2_ := Aside0.mk (blk_at hq_ ab.out); have n3_ := Aside0.mk (blk_at hq_ ac.out); have n4_ := Aside0.mk (below_at hq_ HB.out); clear hq_ ae aa ab ac HB; have ae := n0_; have aa := n1_; have ab := n2_; have ac := n3_; have HB := n4_; clear n0_ n1_ n2_ n3_ n4_)); obtain ⟨kx, ky, kz, mC, mD, mE⟩ := cz3_ (w := w196) ab; obtain ⟨kA, kB, kC, kD, kE, mF, mG, mH, mI, mJ⟩ := cz5_ (w := w196) ac))
       refine bodyPost_ret (results_tc rfl _ _ ad 34 #[.int .i64 0, .int .u32 0, .bool aQ, .slice none 0 0, .slice none 0 0] (0, 0) _ rfl (by refine bp_ ?_; apply bS5_; refine bp_ ?_; exact ac.out) Tryd.underlying34 rfl (by kernel_rfl)) rfl ?_
       exact ⟨_, _, _, er_, by (with_reducible repeat (first | apply Kd.V_alloc | apply Kd.V_drewN | apply Kd.V_drew)); exact Kd.V_mono (vF5_ (g := ad) (Kd.V_mono ae.out (fun k_ hk => (⟨hk, hk.2⟩ : _ ∧ k_ ≠ ad))) (fun _ hk => hk.2)) (fun _ hk => ⟨hk.1.1.1.1, ⟨(by simp [Value.ownBlock]), (by simp [Value.ownBlock])⟩⟩), nl_, nl_, hB_ HB⟩
      ·rw [if_neg c184] at H
       have jI : (af == 5) = false := beq_eq_false_iff_ne.mpr c184
       have jJ : (af != 5) = true := bne_iff_ne.mpr c184
       by_cases c199 : af = 6
       ·rw [if_pos c199] at H
        have jK : (af == 6) = true := beq_iff_eq.mpr c199
        have jL : (af != 6) = false := bne_eq_false_iff_eq.mpr c199
        clear c199; replace H := bi_ H; obtain ⟨bh, A2000, H⟩ := H
        replace H : (some (l1, 0, 0, false, bh, ([] : List Int))) = some (r1, r2, r3, r4, r5, r6) := H
        have A200 := Aside0.mk A2000; clear A2000; simp only [Option.some.injEq, Prod.mk.injEq] at H; obtain ⟨rfl, rfl, rfl, rfl, rfl, rfl⟩ := H
        go_enter Tryd.func16, Tryd.ntmps16
        go_wp2_with (first | ((with_reducible refine gd_ 3 ?_); refine box_event ?hg (N := 3) ?hd (cs := #[.int .u32 ah, .int .i64 aj, .slice aR ap.length aT, .int .i64 aq, .int .i64 ar, .int .i64 au, .int .i64 av]) (t := 27) ?hr ?_; (case hd => rfl); (case hg => rfl); (case hr => first | (go_simp; done) | (go_simp; rfl)); intro aC hg w201 hbox hb; replace ae := vE_ ae hg hb; have aa := Aside0.mk (hbox); have bc := gG_ hg HB; have a9 := gG_ hg HB; replace HB := hS_ HB hb; clear hb hbox hg) | ((with_reducible refine gd_ 5 ?_); refine box_event ?hg (N := 5) ?hd (cs := #[.int .i64 af, .int .u32 ak, .slice aW ao.length aN]) (t := 30) ?hr ?_; (case hd => rfl); (case hg => rfl); (case hr => first | (go_simp; done) | (go_simp; rfl)); intro az hg w202 hbox hb; replace ae := vE_ ae hg hb; have ab := Aside0.mk (hbox); have bd := gG_ hg HB; have ba := gG_ hg HB; replace HB := hS_ HB hb; have aw := nL_ hg aa; have ax := nG_ hg aa; replace aa := bB_ aa hb; clear hb hbox hg) | ((with_reducible refine gd_ 7 ?_); refine box_event ?hg (N := 7) ?hd (cs := #[.int .i64 0, .int .u32 0, .bool false, .slice none 0 0, .slice none 0 0]) (t := 34) ?hr ?_; (case hd => rfl); (case hg => rfl); (case hr => first | (go_simp; done) | (go_simp; rfl)); intro ad hg w203 hbox hb; replace ae := vE_ ae hg hb; have ac := Aside0.mk (hbox); have be := gG_ hg HB; have bb := gG_ hg HB; have al := nL_ hg aa; have am := nG_ hg aa; have ag := nL_ hg ab; have ai := nG_ hg ab; replace ab := bB_ ab hb; replace aa := bB_ aa hb; replace HB := hS_ HB hb; clear hb hbox hg; have pk := aw.out; have pQ := ax.out; have pl := al.out; have pR := am.out; obtain ⟨kF, kG, kH, kI, kJ, kK, kL, mK, mL, mM, mN, mO, mP, mQ⟩ := cz7_ (w := w203) aa; have pm := ag.out; have pS := ai.out; obtain ⟨kM, kN, kO, mR, mS, mT⟩ := cz3_ (w := w203) ab) | ((with_reducible refine gate_callee (f := 25) rfl ?_); refine gM_ (some 24) Tryd.func25 (lodgerref10_Check.calls k ah aj _ _ ap aq ar au av af ak _ _ ao aU _ (cC_ aZ HB) aY.out (cC_ aX HB) a0.out A4.out) ?_; rintro e w209 ⟨rfl, hb⟩; refine ⟨_, rfl, ?_⟩; replace ae := vB_ ae hb; replace ab := bB_ ab hb; replace HB := hS_ HB hb; replace aa := bB_ aa hb; replace ac := bB_ ac hb; (try clear hb); obtain ⟨kP, kQ, kR, kS, kT, kU, kV, mU, mV, mW, mX, mY, mZ, m0⟩ := cz7_ (w := w209) aa; obtain ⟨kW, kX, kY, m1, m2, m3⟩ := cz3_ (w := w209) ab) | ((with_reducible refine gate_callee (f := 37) rfl ?_); refine gM_ (some 35) Tryd.func37 (lodgerref05_Offset.calls k ah aj ak aJ bi _ A6.out) ?_; rintro e w212 ⟨rfl, hb⟩; refine ⟨_, rfl, ?_⟩; replace ae := vB_ ae hb; replace ab := bB_ ab hb; replace HB := hS_ HB hb; replace aa := bB_ aa hb; replace ac := bB_ ac hb; (try clear hb)) | ((with_reducible refine gate_callee (f := 21) rfl ?_); refine gM_ (some 40) Tryd.func21 (lodgerref09_Has.calls k _ _ l1 aJ aQ _ (cD_ (Kd.V_reads' ae.out).2.2) ((Kd.V_reads' ae.out).2.1) A7.out) ?_; rintro e w' ⟨rfl, ⟨nd, rfl⟩⟩; refine ⟨_, rfl, ?_⟩; (try (rw [drewN_self w212]; generalize hq_ : World.drewN w212 _ = w212; have n0_ := Aside0.mk (V_atq hq_ ae.out); have n1_ := Aside0.mk (blk_at hq_ aa.out); have n2_ := Aside0.mk (blk_at hq_ ab.out); have n3_ := Aside0.mk (blk_at hq_ ac.out); have n4_ := Aside0.mk (below_at hq_ HB.out); clear hq_ ae aa ab ac HB; have ae := n0_; have aa := n1_; have ab := n2_; have ac := n3_; have HB := n4_; clear n0_ n1_ n2_ n3_ n4_)); obtain ⟨kZ, k0, k2, m4, m5, m6⟩ := cz3_ (w := w212) ab; obtain ⟨k3, k4, k5, k6, k7, k8, k9, m7, m8, m9, na, nb, nc, nf⟩ := cz7_ (w := w212) aa) | ((with_reducible refine gate_callee (f := 39) rfl ?_); refine gM_ (some 137) Tryd.func39 (lodgerref09_Addrs.calls k ah aj _ _ ap aq ar au av _ _ l1 bh _ (cC_ aZ HB) aY.out (cD_ (Kd.V_reads' ae.out).2.2) ((Kd.V_reads' ae.out).2.1) A200.out) ?_; rintro e w215 ⟨v676, rfl, ho0, hb⟩; refine ⟨_, rfl, ?_⟩; replace ae := Aside0.mk (Kd.V_elder' (vV_ ae) (Kd.R_base ho0) hb); have e8 := Aside0.mk (Kd.R_lower (Kd.R_newM (M := fun k_ => (w.heap.size ≤ k_)) ho0 (below_size (hB_ HB)) (fun k_ h_ => h_)) (below_size (hB_ HB))); replace ab := bB_ ab hb; replace HB := hS_ HB hb; replace aa := bB_ aa hb; replace ac := bB_ ac hb; (try clear hb); (try clear ho0); obtain ⟨jP, jX, eo216⟩ := Kd.R_slice e8.out; subst eo216; obtain ⟨la, lb, lc, ld, lf, ng, nh, ni, nj, nk⟩ := cz5_ (w := w215) ac))
        refine bodyPost_ret (results_tc rfl _ _ ad 34 #[.int .i64 0, .int .u32 0, .bool false, .slice jP bh.length jX, .slice none 0 0] (0, 0) _ rfl (by refine bp_ ?_; apply bS5_; refine bp_ ?_; exact ac.out) Tryd.underlying34 rfl (by kernel_rfl)) rfl ?_
        exact ⟨_, _, _, er_, by (with_reducible repeat (first | apply Kd.V_alloc | apply Kd.V_drewN | apply Kd.V_drew)); exact Kd.V_mono (vF5_ (g := ad) (Kd.V_mono ae.out (fun k_ hk => (⟨hk, hk.1.2⟩ : _ ∧ k_ ≠ ad))) (fun _ hk => hk.2)) (fun _ hk => ⟨hk.1.1.1.1.1, ⟨hk.1.2, (by simp [Value.ownBlock])⟩⟩), by (with_reducible repeat (first | apply Kd.R_alloc | apply Kd.R_drewN | apply Kd.R_drew)); exact Kd.R_mono (rF5_ (g := ad) (Kd.R_types e8.out ac.out (by decide)) (fun _ hk => hk.2)) (fun _ hk => hk.1.1), nl_, hB_ HB⟩
       ·rw [if_neg c199] at H
        have jK : (af == 6) = false := beq_eq_false_iff_ne.mpr c199
        have jL : (af != 6) = true := bne_iff_ne.mpr c199
        simp only [Option.some.injEq, Prod.mk.injEq] at H; obtain ⟨rfl, rfl, rfl, rfl, rfl, rfl⟩ := H
        go_enter Tryd.func16, Tryd.ntmps16
        go_wp2_with (first | ((with_reducible refine gd_ 3 ?_); refine box_event ?hg (N := 3) ?hd (cs := #[.int .u32 ah, .int .i64 aj, .slice aR ap.length aT, .int .i64 aq, .int .i64 ar, .int .i64 au, .int .i64 av]) (t := 27) ?hr ?_; (case hd => rfl); (case hg => rfl); (case hr => first | (go_simp; done) | (go_simp; rfl)); intro aC hg w218 hbox hb; replace ae := vE_ ae hg hb; have aa := Aside0.mk (hbox); have bc := gG_ hg HB; have a9 := gG_ hg HB; replace HB := hS_ HB hb; clear hb hbox hg) | ((with_reducible refine gd_ 5 ?_); refine box_event ?hg (N := 5) ?hd (cs := #[.int .i64 af, .int .u32 ak, .slice aW ao.length aN]) (t := 30) ?hr ?_; (case hd => rfl); (case hg => rfl); (case hr => first | (go_simp; done) | (go_simp; rfl)); intro az hg w219 hbox hb; replace ae := vE_ ae hg hb; have ab := Aside0.mk (hbox); have bd := gG_ hg HB; have ba := gG_ hg HB; replace HB := hS_ HB hb; have aw := nL_ hg aa; have ax := nG_ hg aa; replace aa := bB_ aa hb; clear hb hbox hg) | ((with_reducible refine gd_ 7 ?_); refine box_event ?hg (N := 7) ?hd (cs := #[.int .i64 0, .int .u32 0, .bool false, .slice none 0 0, .slice none 0 0]) (t := 34) ?hr ?_; (case hd => rfl); (case hg => rfl); (case hr => first | (go_simp; done) | (go_simp; rfl)); intro ad hg w220 hbox hb; replace ae := vE_ ae hg hb; have ac := Aside0.mk (hbox); have be := gG_ hg HB; have bb := gG_ hg HB; have al := nL_ hg aa; have am := nG_ hg aa; have ag := nL_ hg ab; have ai := nG_ hg ab; replace ab := bB_ ab hb; replace aa := bB_ aa hb; replace HB := hS_ HB hb; clear hb hbox hg; have po := aw.out; have pT := ax.out; have pp := al.out; have pU := am.out; obtain ⟨lg, lh, li, lj, lk, ll, lm, nl, nm, nn, no, np, nq, nr⟩ := cz7_ (w := w220) aa; have pq := ag.out; have pV := ai.out; obtain ⟨ln, lo, lp, ns, nt, nu⟩ := cz3_ (w := w220) ab) | ((with_reducible refine gate_callee (f := 25) rfl ?_); refine gM_ (some 24) Tryd.func25 (lodgerref10_Check.calls k ah aj _ _ ap aq ar au av af ak _ _ ao aU _ (cC_ aZ HB) aY.out (cC_ aX HB) a0.out A4.out) ?_; rintro e w226 ⟨rfl, hb⟩; refine ⟨_, rfl, ?_⟩; replace ae := vB_ ae hb; replace ab := bB_ ab hb; replace HB := hS_ HB hb; replace aa := bB_ aa hb; replace ac := bB_ ac hb; (try clear hb); obtain ⟨lq, lr, ls, lu, lv, lw, lx, nv, nw, nx, ny, nz, nA, nB⟩ := cz7_ (w := w226) aa; obtain ⟨ly, lz, lA, nC, nD, nE⟩ := cz3_ (w := w226) ab) | ((with_reducible refine gate_callee (f := 37) rfl ?_); refine gM_ (some 35) Tryd.func37 (lodgerref05_Offset.calls k ah aj ak aJ bi _ A6.out) ?_; rintro e w229 ⟨rfl, hb⟩; refine ⟨_, rfl, ?_⟩; replace ae := vB_ ae hb; replace ab := bB_ ab hb; replace HB := hS_ HB hb; replace aa := bB_ aa hb; replace ac := bB_ ac hb; (try clear hb)) | ((with_reducible refine gate_callee (f := 21) rfl ?_); refine gM_ (some 40) Tryd.func21 (lodgerref09_Has.calls k _ _ l1 aJ aQ _ (cD_ (Kd.V_reads' ae.out).2.2) ((Kd.V_reads' ae.out).2.1) A7.out) ?_; rintro e w' ⟨rfl, ⟨nd, rfl⟩⟩; refine ⟨_, rfl, ?_⟩; (try (rw [drewN_self w229]; generalize hq_ : World.drewN w229 _ = w229; have n0_ := Aside0.mk (V_atq hq_ ae.out); have n1_ := Aside0.mk (blk_at hq_ aa.out); have n2_ := Aside0.mk (blk_at hq_ ab.out); have n3_ := Aside0.mk (blk_at hq_ ac.out); have n4_ := Aside0.mk (below_at hq_ HB.out); clear hq_ ae aa ab ac HB; have ae := n0_; have aa := n1_; have ab := n2_; have ac := n3_; have HB := n4_; clear n0_ n1_ n2_ n3_ n4_)); obtain ⟨lB, lC, lD, nF, nG, nH⟩ := cz3_ (w := w229) ab; obtain ⟨lE, lF, lG, lH, lI, nI, nJ, nK, nL, nM⟩ := cz5_ (w := w229) ac))
        refine bodyPost_ret (results_tc rfl _ _ ad 34 #[.int .i64 0, .int .u32 0, .bool false, .slice none 0 0, .slice none 0 0] (0, 0) _ rfl (by refine bp_ ?_; apply bS5_; refine bp_ ?_; exact ac.out) Tryd.underlying34 rfl (by kernel_rfl)) rfl ?_
        exact ⟨_, _, _, er_, by (with_reducible repeat (first | apply Kd.V_alloc | apply Kd.V_drewN | apply Kd.V_drew)); exact Kd.V_mono (vF5_ (g := ad) (Kd.V_mono ae.out (fun k_ hk => (⟨hk, hk.2⟩ : _ ∧ k_ ≠ ad))) (fun _ hk => hk.2)) (fun _ hk => ⟨hk.1.1.1.1, ⟨(by simp [Value.ownBlock]), (by simp [Value.ownBlock])⟩⟩), nl_, nl_, hB_ HB⟩
 ·rw [if_neg c5] at H
  have cg : (aU == 0) = false := beq_eq_false_iff_ne.mpr c5
  have ch : (aU != 0) = true := bne_iff_ne.mpr c5
  simp only [Option.some.injEq, Prod.mk.injEq] at H; obtain ⟨rfl, rfl, rfl, rfl, rfl, rfl⟩ := H
  go_enter Tryd.func16, Tryd.ntmps16
  go_wp2_with (first | ((with_reducible refine gd_ 3 ?_); refine box_event ?hg (N := 3) ?hd (cs := #[.int .u32 ah, .int .i64 aj, .slice aR ap.length aT, .int .i64 aq, .int .i64 ar, .int .i64 au, .int .i64 av]) (t := 27) ?hr ?_; (case hd => rfl); (case hg => rfl); (case hr => first | (go_simp; done) | (go_simp; rfl)); intro aC hg w232 hbox hb; replace ae := vE_ ae hg hb; have aa := Aside0.mk (hbox); have bc := gG_ hg HB; have a9 := gG_ hg HB; replace HB := hS_ HB hb; clear hb hbox hg) | ((with_reducible refine gd_ 5 ?_); refine box_event ?hg (N := 5) ?hd (cs := #[.int .i64 af, .int .u32 ak, .slice aW ao.length aN]) (t := 30) ?hr ?_; (case hd => rfl); (case hg => rfl); (case hr => first | (go_simp; done) | (go_simp; rfl)); intro az hg w233 hbox hb; replace ae := vE_ ae hg hb; have ab := Aside0.mk (hbox); have bd := gG_ hg HB; have ba := gG_ hg HB; replace HB := hS_ HB hb; have aw := nL_ hg aa; have ax := nG_ hg aa; replace aa := bB_ aa hb; clear hb hbox hg) | ((with_reducible refine gd_ 7 ?_); refine box_event ?hg (N := 7) ?hd (cs := #[.int .i64 0, .int .u32 0, .bool false, .slice none 0 0, .slice none 0 0]) (t := 34) ?hr ?_; (case hd => rfl); (case hg => rfl); (case hr => first | (go_simp; done) | (go_simp; rfl)); intro ad hg w234 hbox hb; replace ae := vE_ ae hg hb; have ac := Aside0.mk (hbox); have be := gG_ hg HB; have bb := gG_ hg HB; have al := nL_ hg aa; have am := nG_ hg aa; have ag := nL_ hg ab; have ai := nG_ hg ab; replace ab := bB_ ab hb; replace aa := bB_ aa hb; replace HB := hS_ HB hb; clear hb hbox hg; have pr := aw.out; have pW := ax.out; have ps := al.out; have pX := am.out; obtain ⟨lJ, lK, lL, lM, lN, lO, lP, nN, nO, nP, nQ, nR, nS, nT⟩ := cz7_ (w := w234) aa; have pt := ag.out; have pY := ai.out; obtain ⟨lQ, lR, lS, nU, nV, nW⟩ := cz3_ (w := w234) ab) | ((with_reducible refine gate_callee (f := 25) rfl ?_); refine gM_ (some 24) Tryd.func25 (lodgerref10_Check.calls k ah aj _ _ ap aq ar au av af ak _ _ ao aU _ (cC_ aZ HB) aY.out (cC_ aX HB) a0.out A4.out) ?_; rintro e w240 ⟨rfl, hb⟩; refine ⟨_, rfl, ?_⟩; replace ae := vB_ ae hb; replace HB := hS_ HB hb; replace ac := bB_ ac hb; (try clear hb); obtain ⟨lT, lU, lV, lW, lX, nX, nY, nZ, n0, n1⟩ := cz5_ (w := w240) ac))
  refine bodyPost_ret (results_tc rfl _ _ ad 34 #[.int .i64 aU, .int .u32 0, .bool false, .slice none 0 0, .slice none 0 0] (0, 0) _ rfl (by refine bp_ ?_; apply bS5_; refine bp_ ?_; exact ac.out) Tryd.underlying34 rfl (by kernel_rfl)) rfl ?_
  exact ⟨_, _, _, er_, by (with_reducible repeat (first | apply Kd.V_alloc | apply Kd.V_drewN | apply Kd.V_drew)); exact Kd.V_mono (vF5_ (g := ad) (Kd.V_mono ae.out (fun k_ hk => (⟨hk, hk.2⟩ : _ ∧ k_ ≠ ad))) (fun _ hk => hk.2)) (fun _ hk => ⟨hk.1.1.1.1, ⟨(by simp [Value.ownBlock]), (by simp [Value.ownBlock])⟩⟩), nl_, nl_, hB_ HB⟩

end Go.Proofs.YtkiimboedgnoiaaDoor.PSpecTells
