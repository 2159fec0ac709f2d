/- The walk of SpecBack, part of it: what the Go functions answer; no condition. -/
import Derived.Test.YtkiimboedgnoiaaDoorQSpecBackx0
import Derived.Test.YtkiimboedgnoiaaDoorQSpecBackx1
import Derived.Test.YtkiimboedgnoiaaDoorQSpecBackx2
import Derived.Test.YtkiimboedgnoiaaDoorQSpecBackx3
namespace Go.Proofs.YtkiimboedgnoiaaDoor.PSpecBack
open Go.RowKit Go.Proofs.YtkiimboedgnoiaaDoorW.PrintWords Go.Proofs.YtkiimboedgnoiaaDoorW.PrintLast Go.Proofs.YtkiimboedgnoiaaDoorW.PrintMore
attribute [local go_sem] max2_int min2_int max_two min_two max_three min_three max_four min_four   -- for this text's walks alone
set_option linter.unusedVariables false
set_option linter.unusedSimpArgs false

/-! ### spec_exact: function 75 -/
def spec_exact.f (k : Nat) (a0_0 a0_1 : Int) (l0_2 : List Int) (a0_3 a0_4 : Int) (a0_5 a0_6 : Int) (l1 : List Int) (a2_0 a2_1 : Int) (l2_2 : List Int) : Option (List Int × Int × Int × Bool × List Int × List Int) := (spec_offset.f k a0_0 a0_1 l0_2 a0_3 a0_4 a0_5 a0_6 a2_1).bind fun t173 => ((model_Has.f k l1 t173).bind fun t174 => (if t174 = true then ((spec_fail.f 5).bind fun bt175 => (some (l1, bt175.1, bt175.2.1, bt175.2.2.1, bt175.2.2.2.1, bt175.2.2.2.2))) else ((model_With.f k l1 t173).bind fun t184 => (some (t184, 0, a2_1, false, ([] : List Int), ([] : List Int))))))
theorem spec_exact.mono : ∀ a0 a1 a2 a3 a4 a5 a6 a7 a8 a9 a10 k, LeO (spec_exact.f k a0 a1 a2 a3 a4 a5 a6 a7 a8 a9 a10) (spec_exact.f (k + 1) a0 a1 a2 a3 a4 a5 a6 a7 a8 a9 a10) := by
 intro a0 a1 a2 a3 a4 a5 a6 a7 a8 a9 a10 k
 unfold spec_exact.f
 repeat' (with_reducible first | apply model_Has.mono | apply model_With.mono | apply spec_offset.mono | exact LeO.refl _ | exact LeO.none _ | refine LeO.ite ?_ ?_ | refine LeO.bind ?_ (fun _ => ?_))
def spec_exact.T4 : Bool × List (List Nat × List Nat) := (true, [([], []), ([], []), ([0, 1], [0, 1]), ([], []), ([3], [3]), ([4], [4]), ([2, 2, 0, 1, 2], [2]), ([5, 6, 0, 1, 2, 3, 4, 5, 6], [5])])
def spec_exact.B4 : List Nat := [0, 0, 3, 0, 8, 24, 7, 127]
theorem spec_exact.tab4 : rtab .any (opsOf Tryd.f75 4) = spec_exact.T4 := by kernel_rfl
theorem spec_exact.bits4 : waitsOk spec_exact.T4.2 spec_exact.B4 = true := by kernel_rfl
set_option maxHeartbeats 8000000 in
set_option maxRecDepth 100000 in
theorem spec_exact.calls (k : Nat) (an ao : Int) (aA : Option Addr) (aB : Nat) (al : List Int) (ap aq : Int) (ar au : Int) (P1_ : Nat → Prop) (A1 : Option Addr) (c1 : Nat) (l1 : List Int) (aF aj : Int) (aE : Option Addr) (aG : Nat) (ax r1 : List Int) (r2 r3 : Int) (r4 : Bool) (r5 r6 : List Int) (w : World) (hr0_2 : Kd.C (Kd.int .i64) w aA al.length al) (hc0_2 : al.length ≤ aB) (b9 : Kd.V (Kd.int .i64) 3 w w.heap.size (fun k_ => P1_ k_) (.slice A1 l1.length c1) l1) (hr2_2 : Kd.C (Kd.int .u32) w aE ax.length ax) (hc2_2 : ax.length ≤ aG) (h : spec_exact.f k an ao al ap aq ar au l1 aF aj ax = some (r1, r2, r3, r4, r5, r6)) :
  Calls Tryd.prog 75 #[.agg #[.int .u32 an, .int .i64 ao, .slice aA al.length aB, .int .i64 ap, .int .i64 aq, .int .i64 ar, .int .i64 au], .slice A1 l1.length c1, .agg #[.int .i64 aF, .int .u32 aj, .slice aE ax.length aG]] w fun e w' => ∃ v0_ v4_ v5_ : Value, e = .returned (.tuple #[v0_, .agg #[.int .i64 r2, .int .u32 r3, .bool r4, v4_, v5_]]) ∧ Kd.V (Kd.int .i64) 3 w' w.heap.size (fun k_ => (P1_ k_ ∨ w.heap.size ≤ k_) ∧ some k_ ≠ (v4_ : Value).ownBlock ∧ some k_ ≠ (v5_ : Value).ownBlock) v0_ r1 ∧ Kd.R (Kd.int .u32) 22 w' w.heap.size (fun k_ => (w.heap.size ≤ k_)) v4_ r5 ∧ Kd.R (Kd.int .i64) 31 w' w.heap.size (fun k_ => (w.heap.size ≤ k_)) v5_ r6 ∧ Below w.heap.size w w' := by
 have hu27 := Tryd.underlying27
 have hu30 := Tryd.underlying30
 have hu34 := Tryd.underlying34
 have aO := Aside0.mk hr0_2
 have aL := Aside0.mk hc0_2
 clear hr0_2 hc0_2
 have af := Aside0.mk (show Kd.V (Kd.int .i64) 3 w w.heap.size (fun k_ => (P1_ k_ ∨ w.heap.size ≤ k_)) (.slice A1 l1.length c1) l1 from Kd.V_mono b9 (fun k_ hk => .inl hk))
 have cb := Aside0.mk hr2_2
 have ca := Aside0.mk hc2_2
 clear hr2_2 hc2_2
 have HB := Aside0.mk (Below.refl w.heap.size w)
 have H : ((spec_offset.f k an ao al ap aq ar au aj).bind fun ak => ((model_Has.f k l1 ak).bind fun aC => (if aC = true then ((spec_fail.f 5).bind fun bt175 => (some (l1, bt175.1, bt175.2.1, bt175.2.2.1, bt175.2.2.2.1, bt175.2.2.2.2))) else ((model_With.f k l1 ak).bind fun am => (some (am, 0, aj, false, ([] : List Int), ([] : List Int))))))) = some (r1, r2, r3, r4, r5, r6) := h
 clear h
 replace H := bi_ H
 obtain ⟨ak, A40, H⟩ := H
 replace H : ((model_Has.f k l1 ak).bind fun aC => (if aC = true then ((spec_fail.f 5).bind fun bt175 => (some (l1, bt175.1, bt175.2.1, bt175.2.2.1, bt175.2.2.2.1, bt175.2.2.2.2))) else ((model_With.f k l1 ak).bind fun am => (some (am, 0, aj, false, ([] : List Int), ([] : List Int)))))) = some (r1, r2, r3, r4, r5, r6) := H
 have A4 := Aside0.mk A40
 clear A40
 replace H := bi_ H
 obtain ⟨aC, A50, H⟩ := H
 replace H : (if aC = true then ((spec_fail.f 5).bind fun bt175 => (some (l1, bt175.1, bt175.2.1, bt175.2.2.1, bt175.2.2.2.1, bt175.2.2.2.2))) else ((model_With.f k l1 ak).bind fun am => (some (am, 0, aj, false, ([] : List Int), ([] : List Int))))) = some (r1, r2, r3, r4, r5, r6) := H
 have A5 := Aside0.mk A50
 clear A50
 by_cases c6 : aC = true
 ·subst c6
  have H1 : ((spec_fail.f 5).bind fun bt175 => (some (l1, bt175.1, bt175.2.1, bt175.2.2.1, bt175.2.2.2.1, bt175.2.2.2.2))) = some (r1, r2, r3, r4, r5, r6) := by rw [if_pos rfl] at H; exact H
  clear H; have H := H1; clear H1; replace H := bi_ H; obtain ⟨⟨az, aD, aH, aJ, aK⟩, A70, H⟩ := H
  replace H : (some (l1, az, aD, aH, aJ, aK)) = some (r1, r2, r3, r4, r5, r6) := H
  have A7 := Aside0.mk A70; clear A70; simp only [Option.some.injEq, Prod.mk.injEq] at H; obtain ⟨rfl, rfl, rfl, rfl, rfl, rfl⟩ := H
  go_enter Tryd.func75, Tryd.ntmps75
  go_wp2_with (first | ((with_reducible refine gate_dst (N := 3) rfl ?_); refine box_event ?hg (N := 3) ?hd (cs := #[.int .u32 an, .int .i64 ao, .slice aA al.length aB, .int .i64 ap, .int .i64 aq, .int .i64 ar, .int .i64 au]) (t := 27) ?hr ?_; (case hd => rfl); (case hg => rfl); (case hr => first | (go_simp; done) | (go_simp; rfl)); intro aI hg w8 hbox hb; replace af := vE_ af hg hb; have ab := Aside0.mk (hbox); have aU := gG_ hg HB; have aR := gG_ hg HB; replace HB := hS_ HB hb; clear hb hbox hg) | ((with_reducible refine gate_dst (N := 5) rfl ?_); refine box_event ?hg (N := 5) ?hd (cs := #[.int .i64 aF, .int .u32 aj, .slice aE ax.length aG]) (t := 30) ?hr ?_; (case hd => rfl); (case hg => rfl); (case hr => first | (go_simp; done) | (go_simp; rfl)); intro ay hg w9 hbox hb; replace af := vE_ af hg hb; have ad := Aside0.mk (hbox); have aV := gG_ hg HB; have aS := gG_ hg HB; replace HB := hS_ HB hb; have av := nL_ hg ab; have aw := nG_ hg ab; replace ab := bB_ ab hb; clear hb hbox hg) | ((with_reducible refine gate_dst (N := 7) rfl ?_); refine box_event ?hg (N := 7) ?hd (cs := #[.int .i64 0, .int .u32 0, .bool false, .slice none 0 0, .slice none 0 0]) (t := 34) ?hr ?_; (case hd => rfl); (case hg => rfl); (case hr => first | (go_simp; done) | (go_simp; rfl)); intro ae hg w10 hbox hb; replace af := vE_ af hg hb; have ac := Aside0.mk (hbox); have aW := gG_ hg HB; have aT := gG_ hg HB; have ag := nL_ hg ab; have ah := nG_ hg ab; have aa := nL_ hg ad; have ai := nG_ hg ad; replace ad := bB_ ad hb; replace ab := bB_ ab hb; replace HB := hS_ HB hb; clear hb hbox hg; have ch := av.out; have cn := aw.out; have ci := ag.out; have co := ah.out; obtain ⟨a0, a1, a2, a3, a4, a5, a6, bp, bq, br, bs, bt, bu, bv⟩ := cz7_ (w := w10) ab; have cj := aa.out; have cp := ai.out; obtain ⟨a7, a8, a9, bw, bx, bz⟩ := cz3_ (w := w10) ad) | ((with_reducible refine gate_callee (f := 82) rfl ?_); refine gL_ (some 12) Tryd.func82 #[.agg #[.int .u32 an, .int .i64 ao, .slice aA al.length aB, .int .i64 ap, .int .i64 aq, .int .i64 ar, .int .i64 au], .int .u32 aj] ?_; (with_reducible refine (spec_offset.calls k an ao _ _ al ap aq ar au aj ak _ ?side1 ?side2 A4.out).mono ?_); (case side1 => exact cC_ aO HB); (case side2 => exact aL.out); rintro e w16 ⟨rfl, hb⟩; refine ⟨_, rfl, ?_⟩; replace af := vB_ af hb; replace ad := bB_ ad hb; replace HB := hS_ HB hb; replace ab := bB_ ab hb; replace ac := bB_ ac hb; (try clear hb)) | ((with_reducible refine gate_callee (f := 34) rfl ?_); refine gL_ (some 15) Tryd.func34 #[.slice A1 l1.length c1, .int .i64 ak] ?_; (with_reducible refine (model_Has.calls k _ _ l1 ak true _ ?side1 ?side2 A5.out).mono ?_); (case side1 => exact cD_ (Kd.V_reads' af.out).2.2); (case side2 => exact (Kd.V_reads' af.out).2.1); rintro e w' ⟨rfl, ⟨nd, rfl⟩⟩; refine ⟨_, rfl, ?_⟩; (try (rw [drewN_self w16]; generalize hq_ : World.drewN w16 _ = w16; have n0_ := Aside0.mk (V_atq hq_ af.out); have n1_ := Aside0.mk (blk_at hq_ ab.out); have n2_ := Aside0.mk (blk_at hq_ ad.out); have n3_ := Aside0.mk (blk_at hq_ ac.out); have n4_ := Aside0.mk (below_at hq_ HB.out); clear hq_ af ab ad ac HB; have af := n0_; have ab := n1_; have ad := n2_; have ac := n3_; have HB := n4_; clear n0_ n1_ n2_ n3_ n4_))) | ((with_reducible refine gate_callee (f := 31) rfl ?_); refine gL_ (some 17) Tryd.func31 #[.int .i64 5] ?_; (with_reducible refine (spec_fail.calls 5 az aD aH aJ aK _ A7.out).mono ?_); rintro e w17 ⟨v179, v182, rfl, ho0, ho1, hb⟩; refine ⟨_, rfl, ?_⟩; replace af := Aside0.mk (Kd.V_mono (Kd.V_told (Kd.V_told (Kd.V_old (vV_ af) hb) (Kd.R_base ho0)) (Kd.R_base ho1)) (fun _ h_ => h_.1)); have aM := Aside0.mk (Kd.R_lower (Kd.R_newM (M := fun k_ => (w.heap.size ≤ k_)) ho0 (below_size (hB_ HB)) (fun k_ h_ => h_)) (below_size (hB_ HB))); have aN := Aside0.mk (Kd.R_lower (Kd.R_newM (M := fun k_ => (w.heap.size ≤ k_)) ho1 (below_size (hB_ HB)) (fun k_ h_ => h_)) (below_size (hB_ HB))); replace ad := bB_ ad hb; replace HB := hS_ HB hb; replace ab := bB_ ab hb; replace ac := bB_ ac hb; (try clear hb); (try clear ho0); (try clear ho1); obtain ⟨ba, bb, bc, bd, be, bA, bB, bC, bD, bE⟩ := cz5_ (w := w17) ac; obtain ⟨aP, aQ, eo19⟩ := Kd.R_slice aM.out; subst eo19; obtain ⟨aY, aZ, eo20⟩ := Kd.R_slice aN.out; subst eo20))
  refine bodyPost_ret (results_tc rfl _ _ ae 34 #[.int .i64 az, .int .u32 aD, .bool aH, .slice aP aJ.length aQ, .slice aY aK.length aZ] (0, 0) _ rfl (by (with_reducible repeat (first | refine blk_drewN ?_ _ | refine blk_drew ?_ | refine blk_alloc ?_ _)); refine blk_put (cs := #[.int .i64 az, .int .u32 aD, .bool aH, .slice aP aJ.length aQ, .slice none 0 0]) ?_ 4 _ rfl; refine blk_put (cs := #[.int .i64 az, .int .u32 aD, .bool aH, .slice none 0 0, .slice none 0 0]) ?_ 3 _ rfl; refine blk_put (cs := #[.int .i64 az, .int .u32 aD, .bool false, .slice none 0 0, .slice none 0 0]) ?_ 2 _ rfl; refine blk_put (cs := #[.int .i64 az, .int .u32 0, .bool false, .slice none 0 0, .slice none 0 0]) ?_ 1 _ rfl; refine blk_put (cs := #[.int .i64 0, .int .u32 0, .bool false, .slice none 0 0, .slice none 0 0]) ?_ 0 _ rfl; (with_reducible repeat (first | refine blk_drewN ?_ _ | refine blk_drew ?_ | refine blk_alloc ?_ _)); exact ac.out) Tryd.underlying34 rfl (by kernel_rfl)) rfl ?_
  exact ⟨_, _, _, er_, by (with_reducible repeat (first | apply Kd.V_alloc | apply Kd.V_drewN | apply Kd.V_drew)); exact Kd.V_mono (vF5_ (g := ae) (Kd.V_mono af.out (fun k_ hk => (⟨hk, hk.1.1.2⟩ : _ ∧ k_ ≠ ae))) (fun _ hk => hk.2)) (fun _ hk => ⟨hk.1.1.1.1.1.1, ⟨hk.1.1.2, hk.1.2⟩⟩), by (with_reducible repeat (first | apply Kd.R_alloc | apply Kd.R_drewN | apply Kd.R_drew)); exact Kd.R_mono (rF5_ (g := ae) (Kd.R_types aM.out ac.out (by decide)) (fun _ hk => hk.2)) (fun _ hk => hk.1.1), by (with_reducible repeat (first | apply Kd.R_alloc | apply Kd.R_drewN | apply Kd.R_drew)); exact Kd.R_mono (rF5_ (g := ae) (Kd.R_types aN.out ac.out (by decide)) (fun _ hk => hk.2)) (fun _ hk => hk.1.1), hB_ HB⟩
 ·replace c6 := Bool.eq_false_iff.mpr c6
  subst c6
  have H1 : ((model_With.f k l1 ak).bind fun am => (some (am, 0, aj, false, ([] : List Int), ([] : List Int)))) = some (r1, r2, r3, r4, r5, r6) := by rw [if_neg (show ¬ (false = true) by decide)] at H; exact H
  clear H; have H := H1; clear H1; replace H := bi_ H; obtain ⟨am, A210, H⟩ := H
  replace H : (some (am, 0, aj, false, ([] : List Int), ([] : List Int))) = some (r1, r2, r3, r4, r5, r6) := H
  have A21 := Aside0.mk A210; clear A210; simp only [Option.some.injEq, Prod.mk.injEq] at H; obtain ⟨rfl, rfl, rfl, rfl, rfl, rfl⟩ := H
  go_enter Tryd.func75, Tryd.ntmps75
  try go_wp2_with (first | ((with_reducible refine gate_dst (N := 3) rfl ?_); refine box_event ?hg (N := 3) ?hd (cs := #[.int .u32 an, .int .i64 ao, .slice aA al.length aB, .int .i64 ap, .int .i64 aq, .int .i64 ar, .int .i64 au]) (t := 27) ?hr ?_; (case hd => rfl); (case hg => rfl); (case hr => first | (go_simp; done) | (go_simp; rfl)); intro aI hg w22 hbox hb; replace af := vE_ af hg hb; have ab := Aside0.mk (hbox); have aU := gG_ hg HB; have aR := gG_ hg HB; replace HB := hS_ HB hb; clear hb hbox hg) | ((with_reducible refine gate_dst (N := 5) rfl ?_); refine box_event ?hg (N := 5) ?hd (cs := #[.int .i64 aF, .int .u32 aj, .slice aE ax.length aG]) (t := 30) ?hr ?_; (case hd => rfl); (case hg => rfl); (case hr => first | (go_simp; done) | (go_simp; rfl)); intro ay hg w23 hbox hb; replace af := vE_ af hg hb; have ad := Aside0.mk (hbox); have aV := gG_ hg HB; have aS := gG_ hg HB; replace HB := hS_ HB hb; have av := nL_ hg ab; have aw := nG_ hg ab; replace ab := bB_ ab hb; clear hb hbox hg) | ((with_reducible refine gate_dst (N := 7) rfl ?_); refine box_event ?hg (N := 7) ?hd (cs := #[.int .i64 0, .int .u32 0, .bool false, .slice none 0 0, .slice none 0 0]) (t := 34) ?hr ?_; (case hd => rfl); (case hg => rfl); (case hr => first | (go_simp; done) | (go_simp; rfl)); intro ae hg w24 hbox hb; replace af := vE_ af hg hb; have ac := Aside0.mk (hbox); have aW := gG_ hg HB; have aT := gG_ hg HB; have ag := nL_ hg ab; have ah := nG_ hg ab; have aa := nL_ hg ad; have ai := nG_ hg ad; replace ad := bB_ ad hb; replace ab := bB_ ab hb; replace HB := hS_ HB hb; clear hb hbox hg; have ck := av.out; have cq := aw.out; have cl := ag.out; have cr := ah.out; obtain ⟨bf, bg, bh, bi, bj, bk, bl, bF, bG, bH, bI, bJ, bK, bL⟩ := cz7_ (w := w24) ab; have cm := aa.out; have ct := ai.out; obtain ⟨bm, bn, bo, bM, bN, bO⟩ := cz3_ (w := w24) ad) | ((with_reducible refine gate_callee (f := 82) rfl ?_); refine gL_ (some 12) Tryd.func82 #[.agg #[.int .u32 an, .int .i64 ao, .slice aA al.length aB, .int .i64 ap, .int .i64 aq, .int .i64 ar, .int .i64 au], .int .u32 aj] ?_; (with_reducible refine (spec_offset.calls k an ao _ _ al ap aq ar au aj ak _ ?side1 ?side2 A4.out).mono ?_); (case side1 => exact cC_ aO HB); (case side2 => exact aL.out); rintro e w30 ⟨rfl, hb⟩; refine ⟨_, rfl, ?_⟩; replace af := vB_ af hb; replace ad := bB_ ad hb; replace HB := hS_ HB hb; replace ab := bB_ ab hb; replace ac := bB_ ac hb; (try clear hb)) | ((with_reducible refine gate_callee (f := 34) rfl ?_); refine gL_ (some 15) Tryd.func34 #[.slice A1 l1.length c1, .int .i64 ak] ?_; (with_reducible refine (model_Has.calls k _ _ l1 ak false _ ?side1 ?side2 A5.out).mono ?_); (case side1 => exact cD_ (Kd.V_reads' af.out).2.2); (case side2 => exact (Kd.V_reads' af.out).2.1); rintro e w' ⟨rfl, ⟨nd, rfl⟩⟩; refine ⟨_, rfl, ?_⟩; (try (rw [drewN_self w30]; generalize hq_ : World.drewN w30 _ = w30; have n0_ := Aside0.mk (V_atq hq_ af.out); have n1_ := Aside0.mk (blk_at hq_ ab.out); have n2_ := Aside0.mk (blk_at hq_ ad.out); have n3_ := Aside0.mk (blk_at hq_ ac.out); have n4_ := Aside0.mk (below_at hq_ HB.out); clear hq_ af ab ad ac HB; have af := n0_; have ab := n1_; have ad := n2_; have ac := n3_; have HB := n4_; clear n0_ n1_ n2_ n3_ n4_))))
  replace af := Aside0.mk (Kd.V_drew af.out); replace ab := Aside0.mk (blk_drew ab.out); replace ad := Aside0.mk (blk_drew ad.out); replace ac := Aside0.mk (blk_drew ac.out); replace HB := Aside0.mk (below_drew1 HB.out)
  refine start_ (n := 8) (S := fun w' => w'.cell? ⟨ay, 0, none⟩ = some (.int .i64 aF) ∧ w'.cell? ⟨ay, 1, none⟩ = some (.int .u32 aj) ∧ w'.cell? ⟨ay, 2, none⟩ = some (.slice aE ax.length aG)) (ds := []) (tf 8 0) (by kernel_rfl) rfl rfl ⟨(blk_cell ad.out 0).trans rfl, (blk_cell ad.out 1).trans rfl, (blk_cell ad.out 2).trans rfl⟩ (fun hHeld => ?_); refine with_tabW spec_exact.tab4 spec_exact.bits4 (fun HT_ HW_ => ?_)
  generalize w30.drew = w31 at af ab ad ac HB hHeld ⊢
  refine pu_ (i := 0) (N := some 18) (tf 8 1) HT_ ?_; refine pu_ (i := 1) (N := some 19) (tf 8 3) HT_ ?_; refine pu_ (i := 3) (N := some 21) (tf 8 11) HT_ ?_; refine tk_ (i := 4) (N := some 22) (tf 8 27) rfl rfl HT_ HW_ hHeld (by rintro w' ⟨s0, s1, s2⟩; go_simp; with_reducible rfl) ?_; refine pu_ (i := 5) (N := some 23) (tf 8 59) HT_ ?_
  refine on_ (i := 2) (N := some 20) (tf 8 63) HT_ (fun K hK => ?_)
  refine goes_ Tryd.func35 (by kernel_rfl) rfl #[.slice A1 l1.length c1, .int .i64 ak] (by rfl) rfl rfl am_ ?_
  with_reducible refine (model_With.calls k (fun k_ => ((((P1_ k_ ∨ w.heap.size ≤ k_) ∧ k_ ≠ aI) ∧ k_ ≠ ay) ∧ k_ ≠ ae)) _ _ l1 ak am _ ?side1 A21.out).mono ?_
  (case side1 => exact af.out)
  rintro e w32 ⟨v185, rfl, ho0, hb⟩
  refine ⟨_, rfl, ?_⟩
  replace af := vB_ af hb; have aX := Aside0.mk (Kd.V_lower (Kd.V_mono (ok' := fun k_ => (P1_ k_ ∨ w.heap.size ≤ k_) ∧ k_ ≠ aI ∧ k_ ≠ ay ∧ k_ ≠ ae) ho0 (fun k_ hk_ => ⟨Or.elim hk_ (fun hs_ => hs_.1.1.1) (fun hn_ => (.inr (Nat.le_trans (below_size (hB_ HB)) hn_))), Or.elim hk_ (fun hs_ => hs_.1.1.2) (fun hn_ => (fB_ ab k_ hn_)), Or.elim hk_ (fun hs_ => hs_.1.2) (fun hn_ => (fB_ ad k_ hn_)), Or.elim hk_ (fun hs_ => hs_.2) (fun hn_ => (fB_ ac k_ hn_))⟩)) (below_size (hB_ HB))); replace ab := bB_ ab hb; replace ad := bB_ ad hb; replace ac := bB_ ac hb; replace HB := hS_ HB hb
  (try clear hb)
  (try clear hb2)
  (try clear hk)
  (try clear hi)
  (try clear ho0)
  refine hK.out _ _ (cl3_ ad) (fun hHeld => ?_)
  clear hK K
  refine norm_ (a' := ?_) ?_ ?_
  rotate_left
  ·show Act.put _ (some 20) _ = _
   simp only [Act.put, List.setIfInBounds_toArray, List.set_cons_zero, List.set_cons_succ, i64_w, i32_w]
   rfl
  refine pu_ (i := 6) (N := some 6) (tf 8 127) HT_ ?_
  refine on_ (i := 7) (N := none) (tf 8 255) HT_ (fun K hK => ?_)
  have cu : w32.cell? ⟨ae, 0, none⟩ = some (.int .i64 0) := (blk_cell ac.out 0).trans rfl
  have cc := blk_frozen ac.out 0; have bZ := ag.out; have b0 := aa.out; have bP := ah.out; have bQ := ai.out
  have cv : w32.cell? ⟨ae, 1, none⟩ = some (.int .u32 0) := (blk_cell ac.out 1).trans rfl
  have cd := blk_frozen ac.out 1; have b1 := ag.out; have b2 := aa.out; have bR := ah.out; have bS := ai.out
  have cw : w32.cell? ⟨ae, 2, none⟩ = some (.bool false) := (blk_cell ac.out 2).trans rfl
  have ce := blk_frozen ac.out 2; have b3 := ag.out; have b4 := aa.out; have bT := ah.out; have bU := ai.out
  have cx : w32.cell? ⟨ae, 3, none⟩ = some (.slice none 0 0) := (blk_cell ac.out 3).trans rfl
  have cf := blk_frozen ac.out 3; have b5 := ag.out; have b6 := aa.out; have bV := ah.out; have bW := ai.out
  have cy : w32.cell? ⟨ae, 4, none⟩ = some (.slice none 0 0) := (blk_cell ac.out 4).trans rfl
  have cg := blk_frozen ac.out 4; have b7 := ag.out; have b8 := aa.out; have bX := ah.out; have bY := ai.out
  refine skip_ (w1 := ?_) (by rfl) rfl ?_ ?_
  rotate_left
  ·go_simp
   rfl
  refine hK.out _ _ ⟨((cell_far (p := ⟨ae, _, none⟩) aa.out _).trans (((cell_far (p := ⟨ae, _, none⟩) aa.out _).trans (((cell_far (p := ⟨ae, _, none⟩) aa.out _).trans (((cell_far (p := ⟨ae, _, none⟩) aa.out _).trans (((cell_far (p := ⟨ae, _, none⟩) aa.out _).trans (hHeld.1)))))))))), ((cell_far (p := ⟨ae, _, none⟩) aa.out _).trans (((cell_far (p := ⟨ae, _, none⟩) aa.out _).trans (((cell_far (p := ⟨ae, _, none⟩) aa.out _).trans (((cell_far (p := ⟨ae, _, none⟩) aa.out _).trans (((cell_far (p := ⟨ae, _, none⟩) aa.out _).trans (hHeld.2.1)))))))))), ((cell_far (p := ⟨ae, _, none⟩) aa.out _).trans (((cell_far (p := ⟨ae, _, none⟩) aa.out _).trans (((cell_far (p := ⟨ae, _, none⟩) aa.out _).trans (((cell_far (p := ⟨ae, _, none⟩) aa.out _).trans (((cell_far (p := ⟨ae, _, none⟩) aa.out _).trans (hHeld.2.2))))))))))⟩ (fun hHeld => ?_)
  clear hK K
  refine done_ (done_of HT_.out (by kernel_rfl)) ?_
  try go_wp2
  refine bodyPost_ret (results_tc rfl _ _ ae 34 #[.int .i64 0, .int .u32 aj, .bool false, .slice none 0 0, .slice none 0 0] (0, 0) _ rfl (by (with_reducible repeat (first | refine blk_drewN ?_ _ | refine blk_drew ?_ | refine blk_alloc ?_ _)); refine blk_put (cs := #[.int .i64 0, .int .u32 aj, .bool false, .slice none 0 0, .slice none 0 0]) ?_ 4 _ rfl; refine blk_put (cs := #[.int .i64 0, .int .u32 aj, .bool false, .slice none 0 0, .slice none 0 0]) ?_ 3 _ rfl; refine blk_put (cs := #[.int .i64 0, .int .u32 aj, .bool false, .slice none 0 0, .slice none 0 0]) ?_ 2 _ rfl; refine blk_put (cs := #[.int .i64 0, .int .u32 0, .bool false, .slice none 0 0, .slice none 0 0]) ?_ 1 _ rfl; refine blk_put (cs := #[.int .i64 0, .int .u32 0, .bool false, .slice none 0 0, .slice none 0 0]) ?_ 0 _ rfl; (with_reducible repeat (first | refine blk_drewN ?_ _ | refine blk_drew ?_ | refine blk_alloc ?_ _)); exact ac.out) Tryd.underlying34 rfl (by kernel_rfl)) rfl ?_
  exact ⟨_, _, _, er_, by (with_reducible repeat (first | apply Kd.V_alloc | apply Kd.V_drewN | apply Kd.V_drew)); exact Kd.V_mono (vF5_ (g := ae) (Kd.V_mono aX.out (fun k_ hk => (⟨hk, hk.2.2.2⟩ : _ ∧ k_ ≠ ae))) (fun _ hk => hk.2)) (fun _ hk => ⟨hk.1.1, ⟨(by simp [Value.ownBlock]), (by simp [Value.ownBlock])⟩⟩), by first | exact Kd.R_nil _ _ _ _ _ | exact Kd.N_nil _ _ _ _ _ | exact Kd.V_nil _ _ _ _ _ | exact Kd.Q_nil _ _ _ _ _ | exact Kd.S_nil _ _ _ _ _, by first | exact Kd.R_nil _ _ _ _ _ | exact Kd.N_nil _ _ _ _ _ | exact Kd.V_nil _ _ _ _ _ | exact Kd.Q_nil _ _ _ _ _ | exact Kd.S_nil _ _ _ _ _, hB_ HB⟩

/-! ### model_Without: function 83 -/
def model_Without.f (k : Nat) (l0 : List Int) (a1 : Int) : Option (List Int) := (slices_BinarySearch_int_int.f k l0 a1).bind fun bt138 => (if bt138.2 = true then (if 0 ≤ bt138.1 then (if bt138.1 ≤ (l0.length : Int) then ((some (l0.take (bt138.1 : Int).toNat : List Int)).bind fun y140 => (if 0 ≤ (wrap64 (bt138.1 + 1)) then (if (wrap64 (bt138.1 + 1)) ≤ (l0.length : Int) then ((some (l0.drop ((wrap64 (bt138.1 + 1)) : Int).toNat : List Int)).bind fun y143 => (if y140.length + y143.length < 17592186044416 then (some (y140 ++ y143)) else (none))) else (none)) else (none))) else (none)) else (none)) else (some l0))
theorem model_Without.mono : ∀ a0 a1 k, LeO (model_Without.f k a0 a1) (model_Without.f (k + 1) a0 a1) := by
 intro a0 a1 k
 unfold model_Without.f
 repeat' (with_reducible first | apply slices_BinarySearch_int_int.mono | exact LeO.refl _ | exact LeO.none _ | refine LeO.ite ?_ ?_ | refine LeO.bind ?_ (fun _ => ?_))
def model_Without.T4 : Bool × List (List Nat × List Nat) := (true, [([], []), ([], []), ([], []), ([0, 1, 2], [0, 1, 2]), ([], []), ([], []), ([5], [5]), ([4, 6], [4, 6]), ([3, 7], [3, 7]), ([8, 8, 0, 1, 2, 3, 4, 5, 6, 7, 8], [8])])
def model_Without.B4 : List Nat := [0, 0, 0, 7, 0, 0, 32, 112, 255, 511]
theorem model_Without.tab4 : rtab .any (opsOf Tryd.f83 4) = model_Without.T4 := by kernel_rfl
theorem model_Without.bits4 : waitsOk model_Without.T4.2 model_Without.B4 = true := by kernel_rfl
set_option maxHeartbeats 8000000 in
set_option maxRecDepth 100000 in
theorem model_Without.calls (k : Nat) (P0_ : Nat → Prop) (A0 : Option Addr) (c0 : Nat) (l0 : List Int) (a1 : Int) (r : List Int) (w : World) (ai : Kd.V (Kd.int .i64) 3 w w.heap.size (fun k_ => P0_ k_) (.slice A0 l0.length c0) l0) (h : model_Without.f k l0 a1 = some r) :
  Calls Tryd.prog 83 #[.slice A0 l0.length c0, .int .i64 a1] w fun e w' => ∃ v0_ : Value, e = .returned (v0_) ∧ Kd.V (Kd.int .i64) 3 w' w.heap.size (fun k_ => (P0_ k_ ∨ w.heap.size ≤ k_)) v0_ r ∧ Below w.heap.size w w' := by
 have ad := Aside0.mk (show Kd.V (Kd.int .i64) 3 w w.heap.size (fun k_ => (P0_ k_ ∨ w.heap.size ≤ k_)) (.slice A0 l0.length c0) l0 from Kd.V_mono ai (fun k_ hk => .inl hk))
 have HB := Aside0.mk (Below.refl w.heap.size w)
 have H : ((slices_BinarySearch_int_int.f k l0 a1).bind fun bt138 => (if bt138.2 = true then (if 0 ≤ bt138.1 then (if bt138.1 ≤ (l0.length : Int) then ((some (l0.take (bt138.1 : Int).toNat : List Int)).bind fun ac => (if 0 ≤ (wrap64 (bt138.1 + 1)) then (if (wrap64 (bt138.1 + 1)) ≤ (l0.length : Int) then ((some (l0.drop ((wrap64 (bt138.1 + 1)) : Int).toNat : List Int)).bind fun ab => (if ac.length + ab.length < 17592186044416 then (some (ac ++ ab)) else (none))) else (none)) else (none))) else (none)) else (none)) else (some l0))) = some r := h
 clear h
 replace H := bi_ H
 obtain ⟨⟨aa, af⟩, A30, H⟩ := H
 replace H : (if af = true then (if 0 ≤ aa then (if aa ≤ (l0.length : Int) then ((some (l0.take (aa : Int).toNat : List Int)).bind fun ac => (if 0 ≤ (wrap64 (aa + 1)) then (if (wrap64 (aa + 1)) ≤ (l0.length : Int) then ((some (l0.drop ((wrap64 (aa + 1)) : Int).toNat : List Int)).bind fun ab => (if ac.length + ab.length < 17592186044416 then (some (ac ++ ab)) else (none))) else (none)) else (none))) else (none)) else (none)) else (some l0)) = some r := H
 have A3 := Aside0.mk A30
 clear A30
 by_cases c4 : af = true
 ·subst c4
  have H1 : (if 0 ≤ aa then (if aa ≤ (l0.length : Int) then ((some (l0.take (aa : Int).toNat : List Int)).bind fun ac => (if 0 ≤ (wrap64 (aa + 1)) then (if (wrap64 (aa + 1)) ≤ (l0.length : Int) then ((some (l0.drop ((wrap64 (aa + 1)) : Int).toNat : List Int)).bind fun ab => (if ac.length + ab.length < 17592186044416 then (some (ac ++ ab)) else (none))) else (none)) else (none))) else (none)) else (none)) = some r := by rw [if_pos rfl] at H; exact H
  clear H; have H := H1; clear H1
  by_cases c5 : 0 ≤ aa
  ·rw [if_pos c5] at H
   have ak := eq_true c5
   have al : decide (0 ≤ aa) = true := decide_eq_true c5
   clear c5
   by_cases c6 : aa ≤ (l0.length : Int)
   ·rw [if_pos c6] at H
    have am := eq_true c6
    have an : decide (aa ≤ (l0.length : Int)) = true := decide_eq_true c6
    clear c6; obtain ⟨ac, hy140⟩ : ∃ y_ : List Int, y_ = (l0.take (aa : Int).toNat) := ⟨_, rfl⟩
    replace H : (if 0 ≤ (wrap64 (aa + 1)) then (if (wrap64 (aa + 1)) ≤ (l0.length : Int) then ((some (l0.drop ((wrap64 (aa + 1)) : Int).toNat : List Int)).bind fun ab => (if ac.length + ab.length < 17592186044416 then (some (ac ++ ab)) else (none))) else (none)) else (none)) = some r := by first | (rw [hy140]; with_reducible exact H) | (have H2_ := (Option.bind_some _ _).symm.trans H; rw [hy140]; with_reducible exact H2_) | (have H2_ := (Option.bind_some _ _).symm.trans H; with_reducible exact H2_) | with_reducible exact H | (rw [hy140]; exact H) | exact H
    have Ny140 := Aside0.mk hy140; clear hy140; obtain ⟨ji7, hji7⟩ : ∃ j_ : Int, (wrap64 (aa + 1)) = j_ := ⟨_, rfl⟩
    replace H : (if 0 ≤ (ji7) then (if (ji7) ≤ (l0.length : Int) then ((some (l0.drop ((ji7) : Int).toNat : List Int)).bind fun ab => (if ac.length + ab.length < 17592186044416 then (some (ac ++ ab)) else (none))) else (none)) else (none)) = some r := by first | (rw [hji7] at H; exact H) | (simp only [hji7] at H ⊢; exact H)
    (try rw [hji7] at A3)
    have hji7w : (IntKind.i64.wrap (aa + 1)) = ji7 := (i64_w _).trans hji7
    by_cases c8 : 0 ≤ (ji7)
    ·rw [if_pos c8] at H
     have ao := eq_true c8
     have ap : decide (0 ≤ (ji7)) = true := decide_eq_true c8
     clear c8
     by_cases c9 : (ji7) ≤ (l0.length : Int)
     ·rw [if_pos c9] at H
      have aq := eq_true c9
      have ar : decide ((ji7) ≤ (l0.length : Int)) = true := decide_eq_true c9
      clear c9; obtain ⟨ab, hy143⟩ : ∃ y_ : List Int, y_ = (l0.drop ((ji7) : Int).toNat) := ⟨_, rfl⟩
      replace H : (if ac.length + ab.length < 17592186044416 then (some (ac ++ ab)) else (none)) = some r := by first | (rw [hy143]; with_reducible exact H) | (have H2_ := (Option.bind_some _ _).symm.trans H; rw [hy143]; with_reducible exact H2_) | (have H2_ := (Option.bind_some _ _).symm.trans H; with_reducible exact H2_) | with_reducible exact H | (rw [hy143]; exact H) | exact H
      have Ny143 := Aside0.mk hy143; clear hy143
      by_cases c10 : ac.length + ab.length < 17592186044416
      ·rw [if_pos c10] at H
       have LMc10 := Aside0.mk c10; clear c10; obtain ⟨ah, hy148⟩ : ∃ y_ : List Int, y_ = (ac ++ ab) := ⟨_, rfl⟩
       replace H : (some ah) = some r := by first | (rw [hy148]; with_reducible exact H) | (have H2_ := (Option.bind_some _ _).symm.trans H; rw [hy148]; with_reducible exact H2_) | (have H2_ := (Option.bind_some _ _).symm.trans H; with_reducible exact H2_) | with_reducible exact H | (rw [hy148]; exact H) | exact H
       have Ny148 := Aside0.mk hy148; clear hy148
       obtain rfl := Option.some.inj H
       go_enter Tryd.func83, Tryd.ntmps83
       try go_wp2_with (first | ((with_reducible refine gate_callee (f := 50) rfl ?_); refine gL_ (some 10) Tryd.func50 #[.slice A0 l0.length c0, .int .i64 a1] ?_; (with_reducible refine (slices_BinarySearch_int_int.calls k _ _ l0 a1 aa true _ ?side1 ?side2 A3.out).mono ?_); (case side1 => exact cD_ (Kd.V_reads' ad.out).2.2); (case side2 => exact (Kd.V_reads' ad.out).2.1); rintro e w' ⟨rfl, ⟨nd, rfl⟩⟩; refine ⟨_, rfl, ?_⟩))
       generalize hq_ : World.drewN w _ = wz
       have n0_ := Aside0.mk (Kd.V_drew (V_atq hq_ ad.out)); have n1_ := Aside0.mk (below_drew1 (below_at hq_ HB.out)); clear ad HB; have ad := n0_; have HB := n1_; clear n0_ n1_ hq_
       have q12 : (aa : Int) ≤ ((l0.length : Int) : Int) := od_
       have q012 : (0 : Int) ≤ (aa : Int) := od_
       obtain ⟨i012, hi012, _, hsz12, _⟩ := info_parts (P := Tryd.prog) (e := 3) (z := .int .i64 0) (size := 1) (bytes := 8) (by kernel_rfl)
       have hroom12 : l0.length ≤ c0 := (Kd.V_reads' ad.out).2.1
       have hcut12 := cut_fullh (P := Tryd.prog) 25 3 Tryd.underlying25 hi012 A0 l0.length c0 aa q012 q12 hroom12
       have hy12 : ac.length = (aa : Int).toNat := (by rw [Ny140.out, List.length_take]; omega)
       rw [← hy12] at hcut12
       have HL12 := Aside0.mk (show (aa : Int).toNat ≤ l0.length from by omega); clear hi012 hsz12 hroom12; have KY12 := Aside0.mk hy12; clear hy12; replace q12 := eq_true q12; replace q012 := eq_true q012
       have q13 : ((ji7) : Int) ≤ ((l0.length : Int) : Int) := od_
       obtain ⟨i013, hi013, _, hsz13, _⟩ := info_parts (P := Tryd.prog) (e := 3) (z := .int .i64 0) (size := 1) (bytes := 8) (by kernel_rfl)
       have hroom13 : l0.length ≤ c0 := (Kd.V_reads' ad.out).2.1
       have hC13 : Kd.F (Kd.int .i64) _ _ A0 l0.length l0 := (Kd.V_at (base := w.heap.size) ad.out).2.2
       have q013 : (0 : Int) ≤ ((ji7) : Int) := od_
       have hcut13 := cut_from (P := Tryd.prog) 25 3 .i64 Tryd.underlying25 hi013 1 hsz13 A0 l0.length c0 (ji7) q013 q13; have hr13 := Kd.F_cut (m := ((ji7) : Int).toNat) (c := c0) hC13 (by omega) hroom13; obtain ⟨A13, hA13⟩ : ∃ A1, A1 = (if c0 = ((ji7) : Int).toNat then A0 else (A0 : Option Addr).map (·.add (((ji7) : Int).toNat * 1))) := ⟨_, rfl⟩; obtain ⟨c13, hc13⟩ : ∃ c1, c1 = c0 - ((ji7) : Int).toNat := ⟨_, rfl⟩
       have hy13 : ab.length = l0.length - ((ji7) : Int).toNat := (by rw [Ny143.out, List.length_drop] <;> omega)
       rw [show (l0).drop ((ji7) : Int).toNat = ab from Ny143.out.symm] at hr13
       replace hr13 : Kd.F (Kd.int .i64) _ _ A13 ab.length ab := (by rw [hA13]; exact hr13)
       rw [← hy13, ← hA13, ← hc13] at hcut13
       have ae := Aside0.mk (show Kd.V (Kd.int .i64) 3 _ w.heap.size _ (.slice A13 ab.length c13) ab from Kd.V_mk (by rw [hy13, hc13]; exact Nat.sub_le_sub_right hroom13 _) hr13); have aj := Aside0.mk (show ab.length ≤ c13 from by rw [hy13, hc13]; exact Nat.sub_le_sub_right hroom13 _); clear hr13 hC13 hroom13 hi013 hsz13 hc13; have KY13 := Aside0.mk hy13; have KA13 := Aside0.mk hA13; clear hy13 hA13; replace q13 := eq_true q13
       refine start_ (n := 10) (S := fun w' => True) (ds := []) (tf 10 0) (by kernel_rfl) rfl rfl trivial (fun hHeld => ?_); refine with_tabW model_Without.tab4 model_Without.bits4 (fun HT_ HW_ => ?_)
       generalize wz.drew = w11 at ad HB ae hHeld ⊢
       refine pu_ (i := 0) (N := some 16) (tf 10 1) HT_ ?_; refine pu_ (i := 1) (N := some 17) (tf 10 3) HT_ ?_; refine pu_ (i := 2) (N := some 18) (tf 10 7) HT_ ?_; refine pu_ (i := 3) (N := some 19) (tf 10 15) HT_ ?_; refine pu_ (i := 4) (N := some 20) (tf 10 31) HT_ ?_; refine pu_ (i := 5) (N := some 21) (tf 10 63) HT_ ?_; refine pu_ (i := 6) (N := some 22) (tf 10 127) HT_ ?_; refine pu_ (i := 7) (N := some 23) (tf 10 255) HT_ ?_
       refine on_ (i := 8) (N := some 24) (tf 10 511) HT_ (fun K hK => ?_)
       have HV_ := Aside0.mk (show Kd.V (Kd.int .i64) 3 w11 w.heap.size (fun k_ => (P0_ k_ ∨ w.heap.size ≤ k_)) (.slice A0 ac.length ac.length) ac from Kd.V_mk (Nat.le_refl _) (by
        have hF_ := Kd.F_take (m := (aa : Int).toNat) (Kd.V_at (base := w.heap.size) ad.out).2.2 HL12.out
        rw [← Ny140.out] at hF_
        exact hF_))
       refine V_append_rows_full_step .i64 (w0 := w) w.heap.size (by rfl) (.tmp 19) (.tmp 23) 25 3 (.int .i64 0) 8 rfl Tryd.underlying25 (by kernel_rfl) rfl (by omega) A0 ac A13 ab c13 (fun k_ => (P0_ k_ ∨ w.heap.size ≤ k_)) rfl rfl HV_.out (Kd.V_reads' ae.out).2.2 (fun k hk => .inr (Nat.le_trans (below_size HB.out) hk)) HB.out (below_size HB.out) (by have := LMc10.out; omega) ?_
       intro v149 w14 ho hb
       rw [← Ny148.out] at ho
       clear ad ae HB HV_; have HB := Aside0.mk hb; have ag := Aside0.mk ho; clear ho hb
       refine hK.out _ _ trivial (fun hHeld => ?_)
       clear hK K
       refine norm_ (a' := ?_) ?_ ?_
       rotate_left
       ·show Act.put _ (some 24) _ = _
        simp only [Act.put, List.setIfInBounds_toArray, List.set_cons_zero, List.set_cons_succ, i64_w, i32_w]
        rfl
       refine pu_ (i := 9) (N := some 4) (tf 10 1023) HT_ ?_
       refine done_ (done_of HT_.out (by kernel_rfl)) ?_
       try go_wp2
       go_ret
       exact ⟨_, by first | rfl | (simp [errW_none, errW_some] <;> rfl) | (simp only [← hji7]; first | rfl | (simp [errW_none, errW_some] <;> rfl)) | (simp [*, errW_none, errW_some] <;> rfl), (vV_ ag), hB_ HB⟩
      ·rw [if_neg c10] at H
       exact absurd H (by simp)
     ·rw [if_neg c9] at H
      exact absurd H (by simp)
    ·rw [if_neg c8] at H
     exact absurd H (by simp)
   ·rw [if_neg c6] at H
    exact absurd H (by simp)
  ·rw [if_neg c5] at H
   exact absurd H (by simp)
 ·replace c4 := Bool.eq_false_iff.mpr c4
  subst c4
  have H1 : (some l0) = some r := by rw [if_neg (show ¬ (false = true) by decide)] at H; exact H
  clear H; have H := H1; clear H1
  obtain rfl := Option.some.inj H
  go_enter Tryd.func83, Tryd.ntmps83
  go_wp2_with (first | ((with_reducible refine gate_callee (f := 50) rfl ?_); refine gL_ (some 10) Tryd.func50 #[.slice A0 l0.length c0, .int .i64 a1] ?_; (with_reducible refine (slices_BinarySearch_int_int.calls k _ _ l0 a1 aa false _ ?side1 ?side2 A3.out).mono ?_); (case side1 => exact cD_ (Kd.V_reads' ad.out).2.2); (case side2 => exact (Kd.V_reads' ad.out).2.1); rintro e w' ⟨rfl, ⟨nd, rfl⟩⟩; refine ⟨_, rfl, ?_⟩))
  go_ret
  exact ⟨_, er_, vV_ ad, hB_ HB⟩

/-! ### spec_release: function 76 -/
def spec_release.f (k : Nat) (a0_0 a0_1 : Int) (l0_2 : List Int) (a0_3 a0_4 : Int) (a0_5 a0_6 : Int) (l1 : List Int) (a2_0 a2_1 : Int) (l2_2 : List Int) : Option (List Int × Int × Int × Bool × List Int × List Int) := (spec_offset.f k a0_0 a0_1 l0_2 a0_3 a0_4 a0_5 a0_6 a2_1).bind fun t190 => ((model_Has.f k l1 t190).bind fun t191 => (if t191 = true then ((model_Without.f k l1 t190).bind fun t192 => (some (t192, 0, 0, false, ([] : List Int), ([] : List Int)))) else ((spec_fail.f 6).bind fun bt195 => (some (l1, bt195.1, bt195.2.1, bt195.2.2.1, bt195.2.2.2.1, bt195.2.2.2.2)))))
theorem spec_release.mono : ∀ a0 a1 a2 a3 a4 a5 a6 a7 a8 a9 a10 k, LeO (spec_release.f k a0 a1 a2 a3 a4 a5 a6 a7 a8 a9 a10) (spec_release.f (k + 1) a0 a1 a2 a3 a4 a5 a6 a7 a8 a9 a10) := by
 intro a0 a1 a2 a3 a4 a5 a6 a7 a8 a9 a10 k
 unfold spec_release.f
 repeat' (with_reducible first | apply model_Has.mono | apply model_Without.mono | apply spec_offset.mono | exact LeO.refl _ | exact LeO.none _ | refine LeO.ite ?_ ?_ | refine LeO.bind ?_ (fun _ => ?_))
set_option maxHeartbeats 8000000 in
set_option maxRecDepth 100000 in
theorem spec_release.calls (k : Nat) (ai aj : Int) (az : Option Addr) (aA : Nat) (ag : List Int) (ak al : Int) (am an : Int) (P1_ : Nat → Prop) (A1 : Option Addr) (c1 : Nat) (l1 : List Int) (aF ao : Int) (aE : Option Addr) (aG : Nat) (ax r1 : List Int) (r2 r3 : Int) (r4 : Bool) (r5 r6 : List Int) (w : World) (hr0_2 : Kd.C (Kd.int .i64) w az ag.length ag) (hc0_2 : ag.length ≤ aA) (bZ : Kd.V (Kd.int .i64) 3 w w.heap.size (fun k_ => P1_ k_) (.slice A1 l1.length c1) l1) (hr2_2 : Kd.C (Kd.int .u32) w aE ax.length ax) (hc2_2 : ax.length ≤ aG) (h : spec_release.f k ai aj ag ak al am an l1 aF ao ax = some (r1, r2, r3, r4, r5, r6)) :
  Calls Tryd.prog 76 #[.agg #[.int .u32 ai, .int .i64 aj, .slice az ag.length aA, .int .i64 ak, .int .i64 al, .int .i64 am, .int .i64 an], .slice A1 l1.length c1, .agg #[.int .i64 aF, .int .u32 ao, .slice aE ax.length aG]] w fun e w' => ∃ v0_ v4_ v5_ : Value, e = .returned (.tuple #[v0_, .agg #[.int .i64 r2, .int .u32 r3, .bool r4, v4_, v5_]]) ∧ Kd.V (Kd.int .i64) 3 w' w.heap.size (fun k_ => (P1_ k_ ∨ w.heap.size ≤ k_) ∧ some k_ ≠ (v4_ : Value).ownBlock ∧ some k_ ≠ (v5_ : Value).ownBlock) v0_ r1 ∧ Kd.R (Kd.int .u32) 22 w' w.heap.size (fun k_ => (w.heap.size ≤ k_)) v4_ r5 ∧ Kd.R (Kd.int .i64) 31 w' w.heap.size (fun k_ => (w.heap.size ≤ k_)) v5_ r6 ∧ Below w.heap.size w w' := by
 have hu27 := Tryd.underlying27
 have hu30 := Tryd.underlying30
 have hu34 := Tryd.underlying34
 have aO := Aside0.mk hr0_2
 have aL := Aside0.mk hc0_2
 clear hr0_2 hc0_2
 have ad := Aside0.mk (show Kd.V (Kd.int .i64) 3 w w.heap.size (fun k_ => (P1_ k_ ∨ w.heap.size ≤ k_)) (.slice A1 l1.length c1) l1 from Kd.V_mono bZ (fun k_ hk => .inl hk))
 have b1 := Aside0.mk hr2_2
 have b0 := Aside0.mk hc2_2
 clear hr2_2 hc2_2
 have HB := Aside0.mk (Below.refl w.heap.size w)
 have H : ((spec_offset.f k ai aj ag ak al am an ao).bind fun ae => ((model_Has.f k l1 ae).bind fun aB => (if aB = true then ((model_Without.f k l1 ae).bind fun ah => (some (ah, 0, 0, false, ([] : List Int), ([] : List Int)))) else ((spec_fail.f 6).bind fun bt195 => (some (l1, bt195.1, bt195.2.1, bt195.2.2.1, bt195.2.2.2.1, bt195.2.2.2.2)))))) = some (r1, r2, r3, r4, r5, r6) := h
 clear h
 replace H := bi_ H
 obtain ⟨ae, A40, H⟩ := H
 replace H : ((model_Has.f k l1 ae).bind fun aB => (if aB = true then ((model_Without.f k l1 ae).bind fun ah => (some (ah, 0, 0, false, ([] : List Int), ([] : List Int)))) else ((spec_fail.f 6).bind fun bt195 => (some (l1, bt195.1, bt195.2.1, bt195.2.2.1, bt195.2.2.2.1, bt195.2.2.2.2))))) = some (r1, r2, r3, r4, r5, r6) := H
 have A4 := Aside0.mk A40
 clear A40
 replace H := bi_ H
 obtain ⟨aB, A50, H⟩ := H
 replace H : (if aB = true then ((model_Without.f k l1 ae).bind fun ah => (some (ah, 0, 0, false, ([] : List Int), ([] : List Int)))) else ((spec_fail.f 6).bind fun bt195 => (some (l1, bt195.1, bt195.2.1, bt195.2.2.1, bt195.2.2.2.1, bt195.2.2.2.2)))) = some (r1, r2, r3, r4, r5, r6) := H
 have A5 := Aside0.mk A50
 clear A50
 by_cases c6 : aB = true
 ·subst c6
  have H1 : ((model_Without.f k l1 ae).bind fun ah => (some (ah, 0, 0, false, ([] : List Int), ([] : List Int)))) = some (r1, r2, r3, r4, r5, r6) := by rw [if_pos rfl] at H; exact H
  clear H; have H := H1; clear H1; replace H := bi_ H; obtain ⟨ah, A70, H⟩ := H
  replace H : (some (ah, 0, 0, false, ([] : List Int), ([] : List Int))) = some (r1, r2, r3, r4, r5, r6) := H
  have A7 := Aside0.mk A70; clear A70; simp only [Option.some.injEq, Prod.mk.injEq] at H; obtain ⟨rfl, rfl, rfl, rfl, rfl, rfl⟩ := H
  go_enter Tryd.func76, Tryd.ntmps76
  go_wp2_with (first | ((with_reducible refine gate_dst (N := 3) rfl ?_); refine box_event ?hg (N := 3) ?hd (cs := #[.int .u32 ai, .int .i64 aj, .slice az ag.length aA, .int .i64 ak, .int .i64 al, .int .i64 am, .int .i64 an]) (t := 27) ?hr ?_; (case hd => rfl); (case hg => rfl); (case hr => first | (go_simp; done) | (go_simp; rfl)); intro aH hg w8 hbox hb; replace ad := vE_ ad hg hb; have aa := Aside0.mk (hbox); have aU := gG_ hg HB; have aR := gG_ hg HB; replace HB := hS_ HB hb; clear hb hbox hg) | ((with_reducible refine gate_dst (N := 5) rfl ?_); refine box_event ?hg (N := 5) ?hd (cs := #[.int .i64 aF, .int .u32 ao, .slice aE ax.length aG]) (t := 30) ?hr ?_; (case hd => rfl); (case hg => rfl); (case hr => first | (go_simp; done) | (go_simp; rfl)); intro aI hg w9 hbox hb; replace ad := vE_ ad hg hb; have ab := Aside0.mk (hbox); have aV := gG_ hg HB; have aS := gG_ hg HB; replace HB := hS_ HB hb; have ap := nL_ hg aa; have ar := nG_ hg aa; replace aa := bB_ aa hb; clear hb hbox hg) | ((with_reducible refine gate_dst (N := 7) rfl ?_); refine box_event ?hg (N := 7) ?hd (cs := #[.int .i64 0, .int .u32 0, .bool false, .slice none 0 0, .slice none 0 0]) (t := 34) ?hr ?_; (case hd => rfl); (case hg => rfl); (case hr => first | (go_simp; done) | (go_simp; rfl)); intro af hg w10 hbox hb; replace ad := vE_ ad hg hb; have ac := Aside0.mk (hbox); have aW := gG_ hg HB; have aT := gG_ hg HB; have aq := nL_ hg aa; have av := nG_ hg aa; have au := nL_ hg ab; have aw := nG_ hg ab; replace ab := bB_ ab hb; replace aa := bB_ aa hb; replace HB := hS_ HB hb; clear hb hbox hg; have b2 := ap.out; have b8 := ar.out; have b3 := aq.out; have b9 := av.out; obtain ⟨a0, a1, a2, a3, a4, a5, a6, bu, bv, bw, bx, bz, bA, bB⟩ := cz7_ (w := w10) aa; have b4 := au.out; have ca := aw.out; obtain ⟨a7, a8, a9, bC, bD, bE⟩ := cz3_ (w := w10) ab) | ((with_reducible refine gate_callee (f := 82) rfl ?_); refine gL_ (some 12) Tryd.func82 #[.agg #[.int .u32 ai, .int .i64 aj, .slice az ag.length aA, .int .i64 ak, .int .i64 al, .int .i64 am, .int .i64 an], .int .u32 ao] ?_; (with_reducible refine (spec_offset.calls k ai aj _ _ ag ak al am an ao ae _ ?side1 ?side2 A4.out).mono ?_); (case side1 => exact cC_ aO HB); (case side2 => exact aL.out); rintro e w16 ⟨rfl, hb⟩; refine ⟨_, rfl, ?_⟩; replace ad := vB_ ad hb; replace ab := bB_ ab hb; replace HB := hS_ HB hb; replace aa := bB_ aa hb; replace ac := bB_ ac hb; (try clear hb)) | ((with_reducible refine gate_callee (f := 34) rfl ?_); refine gL_ (some 15) Tryd.func34 #[.slice A1 l1.length c1, .int .i64 ae] ?_; (with_reducible refine (model_Has.calls k _ _ l1 ae true _ ?side1 ?side2 A5.out).mono ?_); (case side1 => exact cD_ (Kd.V_reads' ad.out).2.2); (case side2 => exact (Kd.V_reads' ad.out).2.1); rintro e w' ⟨rfl, ⟨nd, rfl⟩⟩; refine ⟨_, rfl, ?_⟩; (try (rw [drewN_self w16]; generalize hq_ : World.drewN w16 _ = w16; have n0_ := Aside0.mk (V_atq hq_ ad.out); have n1_ := Aside0.mk (blk_at hq_ aa.out); have n2_ := Aside0.mk (blk_at hq_ ab.out); have n3_ := Aside0.mk (blk_at hq_ ac.out); have n4_ := Aside0.mk (below_at hq_ HB.out); clear hq_ ad aa ab ac HB; have ad := n0_; have aa := n1_; have ab := n2_; have ac := n3_; have HB := n4_; clear n0_ n1_ n2_ n3_ n4_))) | ((with_reducible refine gate_callee (f := 83) rfl ?_); refine gL_ (some 21) Tryd.func83 #[.slice A1 l1.length c1, .int .i64 ae] ?_; (with_reducible refine (model_Without.calls k (fun k_ => ((((P1_ k_ ∨ w.heap.size ≤ k_) ∧ k_ ≠ aH) ∧ k_ ≠ aI) ∧ k_ ≠ af)) _ _ l1 ae ah _ ?side1 A7.out).mono ?_); (case side1 => exact ad.out); rintro e w17 ⟨v193, rfl, ho0, hb⟩; refine ⟨_, rfl, ?_⟩; replace ad := vB_ ad hb; have aX := Aside0.mk (Kd.V_lower (Kd.V_mono (ok' := fun k_ => (P1_ k_ ∨ w.heap.size ≤ k_) ∧ k_ ≠ aH ∧ k_ ≠ aI ∧ k_ ≠ af) ho0 (fun k_ hk_ => ⟨Or.elim hk_ (fun hs_ => hs_.1.1.1) (fun hn_ => (.inr (Nat.le_trans (below_size (hB_ HB)) hn_))), Or.elim hk_ (fun hs_ => hs_.1.1.2) (fun hn_ => (fB_ aa k_ hn_)), Or.elim hk_ (fun hs_ => hs_.1.2) (fun hn_ => (fB_ ab k_ hn_)), Or.elim hk_ (fun hs_ => hs_.2) (fun hn_ => (fB_ ac k_ hn_))⟩)) (below_size (hB_ HB))); replace ab := bB_ ab hb; replace HB := hS_ HB hb; replace aa := bB_ aa hb; replace ac := bB_ ac hb; (try clear hb); (try clear ho0); obtain ⟨ba, bb, bc, bd, be, bF, bG, bH, bI, bJ⟩ := cz5_ (w := w17) ac))
  refine bodyPost_ret (results_tc rfl _ _ af 34 #[.int .i64 0, .int .u32 0, .bool false, .slice none 0 0, .slice none 0 0] (0, 0) _ rfl (by (with_reducible repeat (first | refine blk_drewN ?_ _ | refine blk_drew ?_ | refine blk_alloc ?_ _)); refine blk_put (cs := #[.int .i64 0, .int .u32 0, .bool false, .slice none 0 0, .slice none 0 0]) ?_ 4 _ rfl; refine blk_put (cs := #[.int .i64 0, .int .u32 0, .bool false, .slice none 0 0, .slice none 0 0]) ?_ 3 _ rfl; refine blk_put (cs := #[.int .i64 0, .int .u32 0, .bool false, .slice none 0 0, .slice none 0 0]) ?_ 2 _ rfl; refine blk_put (cs := #[.int .i64 0, .int .u32 0, .bool false, .slice none 0 0, .slice none 0 0]) ?_ 1 _ rfl; refine blk_put (cs := #[.int .i64 0, .int .u32 0, .bool false, .slice none 0 0, .slice none 0 0]) ?_ 0 _ rfl; (with_reducible repeat (first | refine blk_drewN ?_ _ | refine blk_drew ?_ | refine blk_alloc ?_ _)); exact ac.out) Tryd.underlying34 rfl (by kernel_rfl)) rfl ?_
  exact ⟨_, _, _, er_, by (with_reducible repeat (first | apply Kd.V_alloc | apply Kd.V_drewN | apply Kd.V_drew)); exact Kd.V_mono (vF5_ (g := af) (Kd.V_mono aX.out (fun k_ hk => (⟨hk, hk.2.2.2⟩ : _ ∧ k_ ≠ af))) (fun _ hk => hk.2)) (fun _ hk => ⟨hk.1.1, ⟨(by simp [Value.ownBlock]), (by simp [Value.ownBlock])⟩⟩), by first | exact Kd.R_nil _ _ _ _ _ | exact Kd.N_nil _ _ _ _ _ | exact Kd.V_nil _ _ _ _ _ | exact Kd.Q_nil _ _ _ _ _ | exact Kd.S_nil _ _ _ _ _, by first | exact Kd.R_nil _ _ _ _ _ | exact Kd.N_nil _ _ _ _ _ | exact Kd.V_nil _ _ _ _ _ | exact Kd.Q_nil _ _ _ _ _ | exact Kd.S_nil _ _ _ _ _, hB_ HB⟩
 ·replace c6 := Bool.eq_false_iff.mpr c6
  subst c6
  have H1 : ((spec_fail.f 6).bind fun bt195 => (some (l1, bt195.1, bt195.2.1, bt195.2.2.1, bt195.2.2.2.1, bt195.2.2.2.2))) = some (r1, r2, r3, r4, r5, r6) := by rw [if_neg (show ¬ (false = true) by decide)] at H; exact H
  clear H; have H := H1; clear H1; replace H := bi_ H; obtain ⟨⟨ay, aC, aD, aJ, aK⟩, A190, H⟩ := H
  replace H : (some (l1, ay, aC, aD, aJ, aK)) = some (r1, r2, r3, r4, r5, r6) := H
  have A19 := Aside0.mk A190; clear A190; simp only [Option.some.injEq, Prod.mk.injEq] at H; obtain ⟨rfl, rfl, rfl, rfl, rfl, rfl⟩ := H
  go_enter Tryd.func76, Tryd.ntmps76
  go_wp2_with (first | ((with_reducible refine gate_dst (N := 3) rfl ?_); refine box_event ?hg (N := 3) ?hd (cs := #[.int .u32 ai, .int .i64 aj, .slice az ag.length aA, .int .i64 ak, .int .i64 al, .int .i64 am, .int .i64 an]) (t := 27) ?hr ?_; (case hd => rfl); (case hg => rfl); (case hr => first | (go_simp; done) | (go_simp; rfl)); intro aH hg w20 hbox hb; replace ad := vE_ ad hg hb; have aa := Aside0.mk (hbox); have aU := gG_ hg HB; have aR := gG_ hg HB; replace HB := hS_ HB hb; clear hb hbox hg) | ((with_reducible refine gate_dst (N := 5) rfl ?_); refine box_event ?hg (N := 5) ?hd (cs := #[.int .i64 aF, .int .u32 ao, .slice aE ax.length aG]) (t := 30) ?hr ?_; (case hd => rfl); (case hg => rfl); (case hr => first | (go_simp; done) | (go_simp; rfl)); intro aI hg w21 hbox hb; replace ad := vE_ ad hg hb; have ab := Aside0.mk (hbox); have aV := gG_ hg HB; have aS := gG_ hg HB; replace HB := hS_ HB hb; have ap := nL_ hg aa; have ar := nG_ hg aa; replace aa := bB_ aa hb; clear hb hbox hg) | ((with_reducible refine gate_dst (N := 7) rfl ?_); refine box_event ?hg (N := 7) ?hd (cs := #[.int .i64 0, .int .u32 0, .bool false, .slice none 0 0, .slice none 0 0]) (t := 34) ?hr ?_; (case hd => rfl); (case hg => rfl); (case hr => first | (go_simp; done) | (go_simp; rfl)); intro af hg w22 hbox hb; replace ad := vE_ ad hg hb; have ac := Aside0.mk (hbox); have aW := gG_ hg HB; have aT := gG_ hg HB; have aq := nL_ hg aa; have av := nG_ hg aa; have au := nL_ hg ab; have aw := nG_ hg ab; replace ab := bB_ ab hb; replace aa := bB_ aa hb; replace HB := hS_ HB hb; clear hb hbox hg; have b5 := ap.out; have cb := ar.out; have b6 := aq.out; have cc := av.out; obtain ⟨bf, bg, bh, bi, bj, bk, bl, bK, bL, bM, bN, bO, bP, bQ⟩ := cz7_ (w := w22) aa; have b7 := au.out; have cd := aw.out; obtain ⟨bm, bn, bo, bR, bS, bT⟩ := cz3_ (w := w22) ab) | ((with_reducible refine gate_callee (f := 82) rfl ?_); refine gL_ (some 12) Tryd.func82 #[.agg #[.int .u32 ai, .int .i64 aj, .slice az ag.length aA, .int .i64 ak, .int .i64 al, .int .i64 am, .int .i64 an], .int .u32 ao] ?_; (with_reducible refine (spec_offset.calls k ai aj _ _ ag ak al am an ao ae _ ?side1 ?side2 A4.out).mono ?_); (case side1 => exact cC_ aO HB); (case side2 => exact aL.out); rintro e w28 ⟨rfl, hb⟩; refine ⟨_, rfl, ?_⟩; replace ad := vB_ ad hb; replace ab := bB_ ab hb; replace HB := hS_ HB hb; replace aa := bB_ aa hb; replace ac := bB_ ac hb; (try clear hb)) | ((with_reducible refine gate_callee (f := 34) rfl ?_); refine gL_ (some 15) Tryd.func34 #[.slice A1 l1.length c1, .int .i64 ae] ?_; (with_reducible refine (model_Has.calls k _ _ l1 ae false _ ?side1 ?side2 A5.out).mono ?_); (case side1 => exact cD_ (Kd.V_reads' ad.out).2.2); (case side2 => exact (Kd.V_reads' ad.out).2.1); rintro e w' ⟨rfl, ⟨nd, rfl⟩⟩; refine ⟨_, rfl, ?_⟩; (try (rw [drewN_self w28]; generalize hq_ : World.drewN w28 _ = w28; have n0_ := Aside0.mk (V_atq hq_ ad.out); have n1_ := Aside0.mk (blk_at hq_ aa.out); have n2_ := Aside0.mk (blk_at hq_ ab.out); have n3_ := Aside0.mk (blk_at hq_ ac.out); have n4_ := Aside0.mk (below_at hq_ HB.out); clear hq_ ad aa ab ac HB; have ad := n0_; have aa := n1_; have ab := n2_; have ac := n3_; have HB := n4_; clear n0_ n1_ n2_ n3_ n4_))) | ((with_reducible refine gate_callee (f := 31) rfl ?_); refine gL_ (some 18) Tryd.func31 #[.int .i64 6] ?_; (with_reducible refine (spec_fail.calls 6 ay aC aD aJ aK _ A19.out).mono ?_); rintro e w29 ⟨v199, v202, rfl, ho0, ho1, hb⟩; refine ⟨_, rfl, ?_⟩; replace ad := Aside0.mk (Kd.V_mono (Kd.V_told (Kd.V_told (Kd.V_old (vV_ ad) hb) (Kd.R_base ho0)) (Kd.R_base ho1)) (fun _ h_ => h_.1)); have aM := Aside0.mk (Kd.R_lower (Kd.R_newM (M := fun k_ => (w.heap.size ≤ k_)) ho0 (below_size (hB_ HB)) (fun k_ h_ => h_)) (below_size (hB_ HB))); have aN := Aside0.mk (Kd.R_lower (Kd.R_newM (M := fun k_ => (w.heap.size ≤ k_)) ho1 (below_size (hB_ HB)) (fun k_ h_ => h_)) (below_size (hB_ HB))); replace HB := hS_ HB hb; replace ac := bB_ ac hb; (try clear hb); (try clear ho0); (try clear ho1); obtain ⟨bp, bq, br, bs, bt, bU, bV, bW, bX, bY⟩ := cz5_ (w := w29) ac; obtain ⟨aP, aQ, eo31⟩ := Kd.R_slice aM.out; subst eo31; obtain ⟨aY, aZ, eo32⟩ := Kd.R_slice aN.out; subst eo32))
  refine bodyPost_ret (results_tc rfl _ _ af 34 #[.int .i64 ay, .int .u32 aC, .bool aD, .slice aP aJ.length aQ, .slice aY aK.length aZ] (0, 0) _ rfl (by (with_reducible repeat (first | refine blk_drewN ?_ _ | refine blk_drew ?_ | refine blk_alloc ?_ _)); refine blk_put (cs := #[.int .i64 ay, .int .u32 aC, .bool aD, .slice aP aJ.length aQ, .slice none 0 0]) ?_ 4 _ rfl; refine blk_put (cs := #[.int .i64 ay, .int .u32 aC, .bool aD, .slice none 0 0, .slice none 0 0]) ?_ 3 _ rfl; refine blk_put (cs := #[.int .i64 ay, .int .u32 aC, .bool false, .slice none 0 0, .slice none 0 0]) ?_ 2 _ rfl; refine blk_put (cs := #[.int .i64 ay, .int .u32 0, .bool false, .slice none 0 0, .slice none 0 0]) ?_ 1 _ rfl; refine blk_put (cs := #[.int .i64 0, .int .u32 0, .bool false, .slice none 0 0, .slice none 0 0]) ?_ 0 _ rfl; (with_reducible repeat (first | refine blk_drewN ?_ _ | refine blk_drew ?_ | refine blk_alloc ?_ _)); exact ac.out) Tryd.underlying34 rfl (by kernel_rfl)) rfl ?_
  exact ⟨_, _, _, er_, by (with_reducible repeat (first | apply Kd.V_alloc | apply Kd.V_drewN | apply Kd.V_drew)); exact Kd.V_mono (vF5_ (g := af) (Kd.V_mono ad.out (fun k_ hk => (⟨hk, hk.1.1.2⟩ : _ ∧ k_ ≠ af))) (fun _ hk => hk.2)) (fun _ hk => ⟨hk.1.1.1.1.1.1, ⟨hk.1.1.2, hk.1.2⟩⟩), by (with_reducible repeat (first | apply Kd.R_alloc | apply Kd.R_drewN | apply Kd.R_drew)); exact Kd.R_mono (rF5_ (g := af) (Kd.R_types aM.out ac.out (by decide)) (fun _ hk => hk.2)) (fun _ hk => hk.1.1), by (with_reducible repeat (first | apply Kd.R_alloc | apply Kd.R_drewN | apply Kd.R_drew)); exact Kd.R_mono (rF5_ (g := af) (Kd.R_types aN.out ac.out (by decide)) (fun _ hk => hk.2)) (fun _ hk => hk.1.1), hB_ HB⟩

/-! ### spec_batch: function 77 -/
def spec_batch.l0 : Nat → List Int → List Int → Int → Int → Int → Int → List Int → Int → Int → Int → Int → Int → Int → Bool → List Int → Option (List Int × Int × Int × Bool × List Int × List Int)
 | 0, _, _, _, _, _, _, _, _, _, _, _, _, _, _, _ => none
 | k + 1, x1, x14, x15, x16, x205000, x205001, x205002, x205003, x205004, x205005, x205006, x208000, x208001, x208002, x208004 => if x16 < x15 then (if 0 ≤ x16 then (if x16 < (x14.length : Int) then ((spec_release.f k x205000 x205001 x205002 x205003 x205004 x205005 x205006 x1 0 (rd x14 x16) ([] : List Int)).bind fun bt209 => (if x208004.length < 17592186044416 then (spec_batch.l0 k bt209.1 x14 x15 (wrap64 (x16 + 1)) x205000 x205001 x205002 x205003 x205004 x205005 x205006 x208000 x208001 x208002 (x208004 ++ [bt209.2.1])) else (none))) else (none)) else (none)) else (some (x1, x208000, x208001, x208002, ([] : List Int), x208004))
def spec_batch.f (k : Nat) (a0_0 a0_1 : Int) (l0_2 : List Int) (a0_3 a0_4 : Int) (a0_5 a0_6 : Int) (l1 : List Int) (a2_0 a2_1 : Int) (l2_2 : List Int) : Option (List Int × Int × Int × Bool × List Int × List Int) := spec_batch.l0 k l1 l2_2 (l2_2.length : Int) 0 a0_0 a0_1 l0_2 a0_3 a0_4 a0_5 a0_6 0 0 false ([] : List Int)
theorem spec_batch.mono_l : ∀ k, (∀ y0 y1 y2 y3 y4 y5 y6 y7 y8 y9 y10 y11 y12 y13 y14, LeO (spec_batch.l0 k y0 y1 y2 y3 y4 y5 y6 y7 y8 y9 y10 y11 y12 y13 y14) (spec_batch.l0 (k + 1) y0 y1 y2 y3 y4 y5 y6 y7 y8 y9 y10 y11 y12 y13 y14))
 | 0 => fun _ _ _ _ _ _ _ _ _ _ _ _ _ _ _ r h => by simp [spec_batch.l0] at h
 | k + 1 => by
  have ih0 := spec_batch.mono_l k
  ·intro y0 y1 y2 y3 y4 y5 y6 y7 y8 y9 y10 y11 y12 y13 y14
   unfold spec_batch.l0
   repeat' (with_reducible first | apply ih0 | apply spec_release.mono | exact LeO.refl _ | exact LeO.none _ | refine LeO.ite ?_ ?_ | refine LeO.bind ?_ (fun _ => ?_))
theorem spec_batch.mono : ∀ a0 a1 a2 a3 a4 a5 a6 a7 a8 a9 a10 k, LeO (spec_batch.f k a0 a1 a2 a3 a4 a5 a6 a7 a8 a9 a10) (spec_batch.f (k + 1) a0 a1 a2 a3 a4 a5 a6 a7 a8 a9 a10) := by
 intro a0 a1 a2 a3 a4 a5 a6 a7 a8 a9 a10 k
 have ih0 := spec_batch.mono_l k
 unfold spec_batch.f
 repeat' (with_reducible first | apply ih0 | apply spec_release.mono | exact LeO.refl _ | exact LeO.none _ | refine LeO.ite ?_ ?_ | refine LeO.bind ?_ (fun _ => ?_))
set_option maxHeartbeats 8000000 in
set_option maxRecDepth 100000 in
theorem spec_batch.calls (k : Nat) (ay az : Int) (aN : Option Addr) (aQ : Nat) (aw : List Int) (aA aC : Int) (aD aE : Int) (P1_ : Nat → Prop) (A1 : Option Addr) (c1 : Nat) (l1 : List Int) (aX aY : Int) (a3 : Option Addr) (aZ : Nat) (ah r1 : List Int) (r2 r3 : Int) (r4 : Bool) (r5 r6 : List Int) (w : World) (hr0_2 : Kd.C (Kd.int .i64) w aN aw.length aw) (hc0_2 : aw.length ≤ aQ) (cP : Kd.V (Kd.int .i64) 3 w w.heap.size (fun k_ => P1_ k_) (.slice A1 l1.length c1) l1) (hr2_2 : Kd.C (Kd.int .u32) w a3 ah.length ah) (hc2_2 : ah.length ≤ aZ) (h : spec_batch.f k ay az aw aA aC aD aE l1 aX aY ah = some (r1, r2, r3, r4, r5, r6)) :
  Calls Tryd.prog 77 #[.agg #[.int .u32 ay, .int .i64 az, .slice aN aw.length aQ, .int .i64 aA, .int .i64 aC, .int .i64 aD, .int .i64 aE], .slice A1 l1.length c1, .agg #[.int .i64 aX, .int .u32 aY, .slice a3 ah.length aZ]] w fun e w' => ∃ v0_ v4_ v5_ : Value, e = .returned (.tuple #[v0_, .agg #[.int .i64 r2, .int .u32 r3, .bool r4, v4_, v5_]]) ∧ Kd.V (Kd.int .i64) 3 w' w.heap.size (fun k_ => (P1_ k_ ∨ w.heap.size ≤ k_) ∧ some k_ ≠ (v4_ : Value).ownBlock ∧ some k_ ≠ (v5_ : Value).ownBlock) v0_ r1 ∧ Kd.R (Kd.int .u32) 22 w' w.heap.size (fun k_ => (w.heap.size ≤ k_)) v4_ r5 ∧ Kd.R (Kd.int .i64) 31 w' w.heap.size (fun k_ => (w.heap.size ≤ k_)) v5_ r6 ∧ Below w.heap.size w w' := by
 have hu27 := Tryd.underlying27
 have hu30 := Tryd.underlying30
 have hu34 := Tryd.underlying34
 have bu := Aside0.mk hr0_2
 have bt := Aside0.mk hc0_2
 clear hr0_2 hc0_2
 have aK := Aside0.mk (show Kd.V (Kd.int .i64) 3 w w.heap.size (fun k_ => (P1_ k_ ∨ w.heap.size ≤ k_)) (.slice A1 l1.length c1) l1 from Kd.V_mono cP (fun k_ hk => .inl hk))
 have bv := Aside0.mk hr2_2
 have c0 := Aside0.mk hc2_2
 clear hr2_2 hc2_2
 have HB := Aside0.mk (Below.refl w.heap.size w)
 have H : (spec_batch.l0 k l1 ah (ah.length : Int) 0 ay az aw aA aC aD aE 0 0 false ([] : List Int)) = some (r1, r2, r3, r4, r5, r6) := h
 clear h
 have H' := Aside0.mk H
 clear H
 go_enter Tryd.func77, Tryd.ntmps77
 go_wp2_with (first | ((with_reducible refine gate_dst (N := 3) rfl ?_); refine box_event ?hg (N := 3) ?hd (cs := #[.int .u32 ay, .int .i64 az, .slice aN aw.length aQ, .int .i64 aA, .int .i64 aC, .int .i64 aD, .int .i64 aE]) (t := 27) ?hr ?_; (case hd => rfl); (case hg => rfl); (case hr => first | (go_simp; done) | (go_simp; rfl)); intro aH hg w4 hbox hb; replace aK := vE_ aK hg hb; have ae := Aside0.mk (hbox); have cV := gG_ hg HB; have cQ := gG_ hg HB; replace HB := hS_ HB hb; clear hb hbox hg) | ((with_reducible refine gate_dst (N := 5) rfl ?_); refine box_event ?hg (N := 5) ?hd (cs := #[.int .i64 aX, .int .u32 aY, .slice a3 ah.length aZ]) (t := 30) ?hr ?_; (case hd => rfl); (case hg => rfl); (case hr => first | (go_simp; done) | (go_simp; rfl)); intro aI hg w5 hbox hb; replace aK := vE_ aK hg hb; have af := Aside0.mk (hbox); have cW := gG_ hg HB; have cR := gG_ hg HB; replace HB := hS_ HB hb; have aR := nL_ hg ae; have aU := nG_ hg ae; replace ae := bB_ ae hb; clear hb hbox hg) | ((with_reducible refine gate_dst (N := 7) rfl ?_); refine box_event ?hg (N := 7) ?hd (cs := #[.int .i64 0, .int .u32 0, .bool false, .slice none 0 0, .slice none 0 0]) (t := 34) ?hr ?_; (case hd => rfl); (case hg => rfl); (case hr => first | (go_simp; done) | (go_simp; rfl)); intro ab hg w6 hbox hb; replace aK := vE_ aK hg hb; have ac := Aside0.mk (hbox); have cX := gG_ hg HB; have cS := gG_ hg HB; have am := nL_ hg ae; have aq := nG_ hg ae; have ao := nL_ hg af; have ar := nG_ hg af; replace af := bB_ af hb; replace ae := bB_ ae hb; replace HB := hS_ HB hb; clear hb hbox hg) | ((with_reducible refine gate_dst (N := 8) rfl ?_); refine box_event ?hg (N := 8) ?hd (cs := #[.int .i64 0, .int .u32 0, .bool false, .slice none 0 0, .slice none 0 0]) (t := 34) ?hr ?_; (case hd => rfl); (case hg => rfl); (case hr => first | (go_simp; done) | (go_simp; rfl)); intro ak hg w7 hbox hb; replace aK := vE_ aK hg hb; have ag := Aside0.mk (hbox); have cY := gG_ hg HB; have cT := gG_ hg HB; replace HB := hS_ HB hb; have aT := nL_ hg ae; have a8 := nG_ hg ae; have aJ := nL_ hg af; have aV := nG_ hg af; replace af := bB_ af hb; have al := nL_ hg ac; have aa := nG_ hg ac; replace ae := bB_ ae hb; replace ac := bB_ ac hb; clear hb hbox hg; have dz := aU.out; have dB := aR.out; have dA := ao.out; have dC := ar.out; have dd := aJ.out; have dn := aV.out; obtain ⟨bj, bk, bl, bm, bn, bo⟩ := cz3_ (w := w7) af))
 go_loopg [1, 16] k (fun kq v1 v16 w' => ∃ (a1 : List Int) (aj : Int) (ai : List Int) (u208004 : Value), v16 = .int .i64 aj ∧ Aside0 (spec_batch.l0 kq a1 ah (ah.length : Int) aj ay az aw aA aC aD aE 0 0 false ai = some (r1, r2, r3, r4, r5, r6)) ∧ Aside0 (kq ≤ k) ∧ Aside0 (Kd.V (Kd.int .i64) 3 w' w.heap.size (fun k_ => (P1_ k_ ∨ w.heap.size ≤ k_) ∧ some k_ ≠ (u208004 : Value).ownBlock ∧ k_ ≠ aH ∧ k_ ≠ aI ∧ k_ ≠ ab ∧ k_ ≠ ak) v1 a1) ∧ Aside0 (Kd.R (Kd.int .i64) 31 w' w.heap.size (fun k_ => (w.heap.size ≤ k_)) u208004 ai) ∧ Aside0 (w'.heap[aH]? = some (.cells #[.int .u32 ay, .int .i64 az, (.slice aN aw.length aQ), .int .i64 aA, .int .i64 aC, .int .i64 aD, .int .i64 aE] 27 (0, 0))) ∧ Aside0 (w'.heap[aI]? = some (.cells #[.int .i64 aX, .int .u32 aY, (.slice a3 ah.length aZ)] 30 (0, 0))) ∧ Aside0 (w'.heap[ab]? = some (.cells #[.int .i64 0, .int .u32 0, .bool false, (.slice none 0 0), (.slice none 0 0)] 34 (0, 0))) ∧ Aside0 (w'.heap[ak]? = some (.cells #[.int .i64 0, .int .u32 0, .bool false, (.slice none 0 0), u208004] 34 (0, 0))) ∧ Aside0 (Below w.heap.size w w'))
 case atStart => exact ⟨(l1), (0), (([] : List Int)), (.slice none 0 0), rs_, H', ⟨Nat.le_refl _⟩, ⟨Kd.V_mono (vV_ aK) (fun _ hk => ⟨hk.1.1.1.1, ⟨(by simp [Value.ownBlock]), ⟨hk.1.1.1.2, ⟨hk.1.1.2, ⟨hk.1.2, hk.2⟩⟩⟩⟩⟩)⟩, ⟨by first | exact Kd.R_nil _ _ _ _ _ | exact Kd.N_nil _ _ _ _ _ | exact Kd.V_nil _ _ _ _ _ | exact Kd.Q_nil _ _ _ _ _ | exact Kd.S_nil _ _ _ _ _⟩, ⟨bk_ ae⟩, ⟨bk_ af⟩, ⟨bk_ ac⟩, ⟨bk_ ag⟩, ⟨hB_ HB⟩⟩
 case round =>
  clear H'
  try clear c1
  try clear c2
  try clear p2
  try clear c7
  try clear c8
  try clear c9
  try clear c10
  try clear bj bk bl
  try clear bm bn bo
  obtain ⟨a1, aj, ai, u208004, rfl, HA, HK1, ax, ad, ae, af, ac, ag, HB⟩ := hrel
  cases gk with
  | zero => exact absurd HA.out (by simp [spec_batch.l0])
  | succ k1 =>
   have H := HA.out; clear HA; simp only [spec_batch.l0] at H
   by_cases c12 : aj < (ah.length : Int)
   ·rw [if_pos c12] at H
    have bw : decide (aj < (ah.length : Int)) = true := decide_eq_true c12
    clear c12
    by_cases c13 : 0 ≤ aj
    ·rw [if_pos c13] at H
     have c3 : decide (0 ≤ aj) = true := decide_eq_true c13
     clear c13
     by_cases c14 : aj < (ah.length : Int)
     ·rw [if_pos c14] at H
      have c4 : decide (aj < (ah.length : Int)) = true := decide_eq_true c14
      clear c14; replace H := bi_ H; obtain ⟨⟨a6, a0, bA, bB, bh, a7⟩, A150, H⟩ := H
      replace H : (if ai.length < 17592186044416 then (spec_batch.l0 k1 a6 ah (ah.length : Int) (wrap64 (aj + 1)) ay az aw aA aC aD aE 0 0 false (ai ++ [a0])) else (none)) = some (r1, r2, r3, r4, r5, r6) := H
      have A15 := Aside0.mk A150; clear A150
      by_cases c16 : ai.length < 17592186044416
      ·rw [if_pos c16] at H
       have LMc16 := Aside0.mk c16; clear c16; obtain ⟨a2, hy222⟩ : ∃ y_ : List Int, y_ = (ai ++ [a0]) := ⟨_, rfl⟩
       replace H : (spec_batch.l0 k1 a6 ah (ah.length : Int) (wrap64 (aj + 1)) ay az aw aA aC aD aE 0 0 false a2) = some (r1, r2, r3, r4, r5, r6) := by first | (rw [hy222]; with_reducible exact H) | (have H2_ := (Option.bind_some _ _).symm.trans H; rw [hy222]; with_reducible exact H2_) | (have H2_ := (Option.bind_some _ _).symm.trans H; with_reducible exact H2_) | with_reducible exact H | (rw [hy222]; exact H) | exact H
       have Ny222 := Aside0.mk hy222; clear hy222
       have H' := Aside0.mk H
       clear H
       have p208 : 0 ≤ (aj : Int) := od_
       have q208 : aj < (ah.length : Int) := od_
       obtain ⟨ad208, e208, hx208_0⟩ := Kd.at_int bv.out aj p208 q208
       cases e208
       replace hx208_0 := (HB.out.cell (World.block_lt_of_cell? w _ hx208_0)).trans hx208_0; replace p208 := eq_true p208; replace q208 := eq_true q208; have de := aR.out; have dp := aU.out; have df := am.out; have dq := aq.out; have dg := aT.out; have dr := a8.out; obtain ⟨bC, bD, bE, bF, bG, bH, bI, bY, bZ, b0, b1, b2, b3, b4⟩ := cz7_ (w := wr) ae; obtain ⟨bx, bz, eo21⟩ := Kd.V_slice ax.out; subst eo21
       go_wp2_with (first | ((with_reducible refine gate_callee (f := 76) rfl ?_); refine gL_ (some 25) Tryd.func76 #[.agg #[.int .u32 ay, .int .i64 az, .slice aN aw.length aQ, .int .i64 aA, .int .i64 aC, .int .i64 aD, .int .i64 aE], .slice bx a1.length bz, .agg #[.int .i64 0, .int .u32 (rd ah aj), .slice none 0 0]] ?_; (refine (spec_release.calls k1 ay az _ _ aw aA aC aD aE (fun k_ => ((P1_ k_ ∨ w.heap.size ≤ k_) ∧ (some k_ ≠ (u208004 : Value).ownBlock ∧ (k_ ≠ aH ∧ (k_ ≠ aI ∧ (k_ ≠ ab ∧ k_ ≠ ak)))))) _ _ a1 0 (rd ah aj) _ _ ([] : List Int) a6 a0 bA bB bh a7 _ ?side1 ?side2 ?side3 ?side4 ?side5 A15.out).mono ?_); (case side1 => exact cC_ bu HB); (case side2 => exact bt.out); (case side3 => exact ax.out); (case side4 => exact Kd.C_nil _ _); (case side5 => exact Nat.le_refl _); rintro e w22 ⟨v210, v216, v219, rfl, ho0, ho1, ho2, hb⟩; refine ⟨_, rfl, ?_⟩; replace ax := Aside0.mk (Kd.V_mono (Kd.V_told (Kd.V_told (Kd.V_old (vV_ ax) hb) (Kd.R_base ho1)) (Kd.R_base ho2)) (fun _ h_ => h_.1)); have aM := Aside0.mk (Kd.V_lower (Kd.V_mono (ok' := fun k_ => (P1_ k_ ∨ w.heap.size ≤ k_) ∧ some k_ ≠ (v216 : Value).ownBlock ∧ some k_ ≠ (v219 : Value).ownBlock ∧ some k_ ≠ (u208004 : Value).ownBlock ∧ k_ ≠ aH ∧ k_ ≠ aI ∧ k_ ≠ ab ∧ k_ ≠ ak) ho0 (fun k_ hk_ => ⟨Or.elim hk_.1 (fun hs_ => hs_.1) (fun hn_ => (.inr (Nat.le_trans (below_size (hB_ HB)) hn_))), hk_.2.1, hk_.2.2, Or.elim hk_.1 (fun hs_ => hs_.2.1) (fun hn_ => (Kd.fresh' (Kd.R_lt (rR_ ad)) k_ hn_)), Or.elim hk_.1 (fun hs_ => hs_.2.2.1) (fun hn_ => (fB_ ae k_ hn_)), Or.elim hk_.1 (fun hs_ => hs_.2.2.2.1) (fun hn_ => (fB_ af k_ hn_)), Or.elim hk_.1 (fun hs_ => hs_.2.2.2.2.1) (fun hn_ => (fB_ ac k_ hn_)), Or.elim hk_.1 (fun hs_ => hs_.2.2.2.2.2) (fun hn_ => (fB_ ag k_ hn_))⟩)) (below_size (hB_ HB))); have a5 := Aside0.mk (Kd.R_lower (Kd.R_newM (M := fun k_ => (w.heap.size ≤ k_)) (Kd.R_mono (ok' := fun k_ => True) ho1 (fun _ hk_ => trivial)) (below_size (hB_ HB)) (fun k_ h_ => h_)) (below_size (hB_ HB))); have aW := Aside0.mk (Kd.R_lower (Kd.R_new' (Kd.R_newM (M := fun k_ => (w.heap.size ≤ k_)) (Kd.R_mono (ok' := fun k_ => True) ho2 (fun _ hk_ => trivial)) (below_size (hB_ HB)) (fun k_ h_ => h_)) (Kd.R_lt (rR_ ad))) (below_size (hB_ HB))); replace ad := Aside0.mk (Kd.R_elder' (rR_ ad) (Kd.R_base ho2) hb); replace af := bB_ af hb; replace ag := bB_ ag hb; replace ae := bB_ ae hb; replace ac := bB_ ac hb; replace HB := hS_ HB hb; (try clear hb); (try clear ho0); (try clear ho1); (try clear ho2)) | ((with_reducible refine gate_dst (N := 12) rfl ?_); refine box_event ?hg (N := 12) ?hd (cs := #[.int .i64 0, .int .u32 0, .bool false, .slice none 0 0, .slice none 0 0]) (t := 34) ?hr ?_; (case hd => rfl); (case hg => rfl); (case hr => first | (go_simp; done) | (go_simp; rfl)); intro aG hg w23 hbox hb; replace ax := vE_ ax hg hb; replace ad := rB_ ad hb; replace aM := vE_ aM hg hb; replace a5 := rB_ a5 hb; replace aW := rB_ aW hb; have a4 := Aside0.mk (hbox); have cZ := gG_ hg HB; have cU := gG_ hg HB; have an := nL_ hg ae; have a9 := nG_ hg ae; have ap := nL_ hg af; have ba := nG_ hg af; replace af := bB_ af hb; have au := nL_ hg ac; have bb := nG_ hg ac; have av := nL_ hg ag; have bc := nG_ hg ag; replace ag := bB_ ag hb; replace ae := bB_ ae hb; replace ac := bB_ ac hb; replace HB := hS_ HB hb; clear hb hbox hg; have dh := a9.out; have dt := an.out; have di := ba.out; have du := ap.out; have dj := bb.out; have dv := au.out; have dk := bc.out; have dw := av.out; obtain ⟨bJ, bK, bL, bM, bN, b5, b6, b7, b8, b9⟩ := cz5_ (w := w23) a4; obtain ⟨bp, br, eo29⟩ := Kd.R_slice a5.out; subst eo29; obtain ⟨bd, bf, eo30⟩ := Kd.R_slice aW.out; subst eo30; have dl := aV.out; have dx := aJ.out; have dm := aa.out; have dy := al.out; obtain ⟨bO, bP, bQ, bR, bS, ca, cb, cc, cd, ce⟩ := cz5_ (w := w23) ag) | ((with_reducible refine gate_builtin (b := .append) (xs := #[.tmp 30, .tmp 33]) rfl ?_); at_builtin; refine Kd.R_append (Kd.int .i64) (w0 := w) w.heap.size rfl (.tmp 30) (.tmp 33) 32 31 (.int .i64 0) 8 rfl Tryd.underlying32 info31 rfl (by decide) (by omega) u208004 ai a0 [.int .i64 a0] (fun k_ => (w.heap.size ≤ k_) ∧ some k_ ≠ (.slice bd a7.length bf : Value).ownBlock) (fun _ => False) rfl (by first | (go_simp; done) | (go_simp; rfl)) ?aP (fun _ hk => hk.elim) ?aF ?aO ?aB ?aS ?aL ?_; (case aP => exact rfl); (case aB => exact (hB_ HB)); (case aF => exact (fun k_ hk => ⟨(Nat.le_trans (below_size (hB_ HB)) hk), Kd.fresh' (Kd.R_lt (by (with_reducible repeat (first | apply Kd.R_alloc | apply Kd.R_drewN | apply Kd.R_drew)); exact (Kd.R_mono (rF5_ (g := aG) (Kd.R_types aW.out a4.out (by decide)) (fun _ hk => hk.2)) (fun _ h_ => h_.1)))) k_ hk⟩)); (case aO => exact (by (with_reducible repeat (first | apply Kd.R_alloc | apply Kd.R_drewN | apply Kd.R_drew)); exact Kd.R_mono (rF5_ (g := aG) (Kd.R_types ad.out a4.out (by decide)) (fun _ hk => hk.2)) (fun _ hk => ⟨hk.1.1, hk.1.2⟩))); (case aS => exact (below_size (hB_ HB))); (case aL => have := LMc16.out; omega); intro v223 w34 ho hb hg hat; rw [← Ny222.out] at ho; replace ax := Aside0.mk (Kd.V_afterv (ok := (fun k_ => (P1_ k_ ∨ w.heap.size ≤ k_) ∧ some k_ ≠ (.slice bp bh.length br : Value).ownBlock ∧ some k_ ≠ (.slice bd a7.length bf : Value).ownBlock ∧ k_ ≠ aH ∧ k_ ≠ aI ∧ k_ ≠ ab ∧ k_ ≠ ak ∧ k_ ≠ aG)) (by (with_reducible repeat (first | apply Kd.V_alloc | apply Kd.V_drewN | apply Kd.V_drew)); exact Kd.V_mono (vF5_ (g := aG) (Kd.V_mono ax.out (fun k_ hk => (⟨hk, hk.2⟩ : _ ∧ k_ ≠ aG))) (fun _ hk => hk.2)) (fun _ hk => ⟨⟨hk.1.1.1.1.1, ⟨hk.1.1.1.2, ⟨hk.1.1.2, ⟨hk.1.1.1.1.2.2.1, ⟨hk.1.1.1.1.2.2.2.1, ⟨hk.1.1.1.1.2.2.2.2.1, ⟨hk.1.1.1.1.2.2.2.2.2, hk.1.2⟩⟩⟩⟩⟩⟩⟩, hk.1.1.1.1.2.1⟩)) hg hat); replace ae := Aside0.mk (blk_grown (g := aH) (o := .cells #[.int .u32 ay, .int .i64 az, .slice aN aw.length aQ, .int .i64 aA, .int .i64 aC, .int .i64 aD, .int .i64 aE] 27 (0, 0)) (by (with_reducible repeat (first | refine blk_drewN ?_ _ | refine blk_drew ?_ | refine blk_alloc ?_ _)); refine blk_far ?_ an.out _; refine blk_far ?_ an.out _; refine blk_far ?_ an.out _; refine blk_far ?_ an.out _; refine blk_far ?_ an.out _; (with_reducible repeat (first | refine blk_drewN ?_ _ | refine blk_drew ?_ | refine blk_alloc ?_ _)); exact ae.out) hg (Kd.R_ne ad.out ae.out (by decide))); replace af := Aside0.mk (blk_grown (g := aI) (o := .cells #[.int .i64 aX, .int .u32 aY, .slice (some ad208) ah.length aZ] 30 (0, 0)) (by (with_reducible repeat (first | refine blk_drewN ?_ _ | refine blk_drew ?_ | refine blk_alloc ?_ _)); refine blk_far ?_ ap.out _; refine blk_far ?_ ap.out _; refine blk_far ?_ ap.out _; refine blk_far ?_ ap.out _; refine blk_far ?_ ap.out _; (with_reducible repeat (first | refine blk_drewN ?_ _ | refine blk_drew ?_ | refine blk_alloc ?_ _)); exact af.out) hg (Kd.R_ne ad.out af.out (by decide))); replace ac := Aside0.mk (blk_grown (g := ab) (o := .cells #[.int .i64 0, .int .u32 0, .bool false, .slice none 0 0, .slice none 0 0] 34 (0, 0)) (by (with_reducible repeat (first | refine blk_drewN ?_ _ | refine blk_drew ?_ | refine blk_alloc ?_ _)); refine blk_far ?_ au.out _; refine blk_far ?_ au.out _; refine blk_far ?_ au.out _; refine blk_far ?_ au.out _; refine blk_far ?_ au.out _; (with_reducible repeat (first | refine blk_drewN ?_ _ | refine blk_drew ?_ | refine blk_alloc ?_ _)); exact ac.out) hg (Kd.R_ne ad.out ac.out (by decide))); replace ag := Aside0.mk (blk_grown (g := ak) (o := .cells #[.int .i64 0, .int .u32 0, .bool false, .slice none 0 0, u208004] 34 (0, 0)) (by (with_reducible repeat (first | refine blk_drewN ?_ _ | refine blk_drew ?_ | refine blk_alloc ?_ _)); refine blk_far ?_ av.out _; refine blk_far ?_ av.out _; refine blk_far ?_ av.out _; refine blk_far ?_ av.out _; refine blk_far ?_ av.out _; (with_reducible repeat (first | refine blk_drewN ?_ _ | refine blk_drew ?_ | refine blk_alloc ?_ _)); exact ag.out) hg (Kd.R_ne ad.out ag.out (by decide))); replace aM := Aside0.mk (Kd.V_afterv (ok := (fun k_ => (P1_ k_ ∨ w.heap.size ≤ k_) ∧ some k_ ≠ (.slice bp bh.length br : Value).ownBlock ∧ some k_ ≠ (.slice bd a7.length bf : Value).ownBlock ∧ k_ ≠ aH ∧ k_ ≠ aI ∧ k_ ≠ ab ∧ k_ ≠ ak ∧ k_ ≠ aG)) (by (with_reducible repeat (first | apply Kd.V_alloc | apply Kd.V_drewN | apply Kd.V_drew)); exact Kd.V_mono (vF5_ (g := aG) (Kd.V_mono aM.out (fun k_ hk => (⟨hk, hk.2⟩ : _ ∧ k_ ≠ aG))) (fun _ hk => hk.2)) (fun _ hk => ⟨⟨hk.1.1.1, ⟨hk.1.1.2.1, ⟨hk.1.1.2.2.1, ⟨hk.1.1.2.2.2.2.1, ⟨hk.1.1.2.2.2.2.2.1, ⟨hk.1.1.2.2.2.2.2.2.1, ⟨hk.1.1.2.2.2.2.2.2.2, hk.1.2⟩⟩⟩⟩⟩⟩⟩, hk.1.1.2.2.2.1⟩)) hg hat); replace HB := Aside0.mk (hb); have bi := Aside0.mk (ho); clear ad ho hb hg hat; obtain ⟨be, bg, eo35⟩ := Kd.R_slice bi.out; subst eo35; obtain ⟨bT, bU, bV, bW, bX, cf, cg, ch, ci, cj⟩ := cz5_ (w := w34) ag))
       go_roundg k1
       case measure => have := HK1.out; omega
       case rel => exact ⟨(a6), (wrap64 (aj + 1)), (a2), (.slice be a2.length bg), rs_, H', ⟨om_ HK1⟩, ⟨by (with_reducible repeat (first | apply Kd.V_alloc | apply Kd.V_drewN | apply Kd.V_drew)); exact Kd.V_mono (Kd.V_far (p := ⟨ak, 4, none⟩) (Kd.V_mono aM.out (fun k_ hk => (⟨hk, hk.1.2.2.2.2.2.2.1⟩ : _ ∧ k_ ≠ ak))) (fun _ hk => hk.2) (.slice be a2.length bg)) (fun _ hk => ⟨hk.1.1.1, ⟨hk.1.2, ⟨hk.1.1.2.2.2.1, ⟨hk.1.1.2.2.2.2.1, ⟨hk.1.1.2.2.2.2.2.1, hk.1.1.2.2.2.2.2.2.1⟩⟩⟩⟩⟩)⟩, ⟨by (with_reducible repeat (first | apply Kd.R_alloc | apply Kd.R_drewN | apply Kd.R_drew)); exact Kd.R_mono (Kd.R_far (p := ⟨ak, 4, none⟩) (Kd.R_types bi.out ag.out (by decide)) (fun _ hk => hk.2) (.slice be a2.length bg)) (fun _ hk => hk.1.1)⟩, ⟨by (with_reducible repeat (first | refine blk_drewN ?_ _ | refine blk_drew ?_ | refine blk_alloc ?_ _)); refine blk_far ?_ aT.out _; (with_reducible repeat (first | refine blk_drewN ?_ _ | refine blk_drew ?_ | refine blk_alloc ?_ _)); exact ae.out⟩, ⟨by (with_reducible repeat (first | refine blk_drewN ?_ _ | refine blk_drew ?_ | refine blk_alloc ?_ _)); refine blk_far ?_ aJ.out _; (with_reducible repeat (first | refine blk_drewN ?_ _ | refine blk_drew ?_ | refine blk_alloc ?_ _)); exact af.out⟩, ⟨by (with_reducible repeat (first | refine blk_drewN ?_ _ | refine blk_drew ?_ | refine blk_alloc ?_ _)); refine blk_far ?_ al.out _; (with_reducible repeat (first | refine blk_drewN ?_ _ | refine blk_drew ?_ | refine blk_alloc ?_ _)); exact ac.out⟩, ⟨by (with_reducible repeat (first | refine blk_drewN ?_ _ | refine blk_drew ?_ | refine blk_alloc ?_ _)); refine blk_put (cs := #[.int .i64 0, .int .u32 0, .bool false, .slice none 0 0, u208004]) ?_ 4 _ rfl; (with_reducible repeat (first | refine blk_drewN ?_ _ | refine blk_drew ?_ | refine blk_alloc ?_ _)); exact ag.out⟩, ⟨hB_ HB⟩⟩
      ·rw [if_neg c16] at H
       exact absurd H (by simp)
     ·rw [if_neg c14] at H
      exact absurd H (by simp)
    ·rw [if_neg c13] at H
     exact absurd H (by simp)
   ·rw [if_neg c12] at H
    have bw : decide (aj < (ah.length : Int)) = false := decide_eq_false c12
    clear c12; simp only [Option.some.injEq, Prod.mk.injEq] at H; obtain ⟨rfl, rfl, rfl, rfl, rfl, rfl⟩ := H
    try go_wp2
    replace ax := Aside0.mk (Kd.V_drew ax.out); replace ad := Aside0.mk (Kd.R_drew ad.out); replace ae := Aside0.mk (blk_drew ae.out); replace af := Aside0.mk (blk_drew af.out); replace ac := Aside0.mk (blk_drew ac.out); replace ag := Aside0.mk (blk_drew ag.out); replace HB := Aside0.mk (below_drew1 HB.out); obtain ⟨bq, bs, eo42⟩ := Kd.R_slice ad.out
    (first | subst eo42 | (injection eo42 with f1_ f2_ f3_; have f4_ := f1_.symm; have f5_ := f3_.symm; clear f1_ f2_ f3_; subst f4_; subst f5_))
    refine start_ (n := 4) (S := fun w' => w'.cell? ⟨ak, 0, none⟩ = some (.int .i64 0) ∧ w'.cell? ⟨ak, 1, none⟩ = some (.int .u32 0) ∧ w'.cell? ⟨ak, 2, none⟩ = some (.bool false) ∧ w'.cell? ⟨ak, 3, none⟩ = some (.slice none 0 0) ∧ w'.cell? ⟨ak, 4, none⟩ = some (.slice bq ai.length bs)) (ds := []) (tf 4 0) (by kernel_rfl) rfl rfl ⟨(blk_cell ag.out 0).trans rfl, (blk_cell ag.out 1).trans rfl, (blk_cell ag.out 2).trans rfl, (blk_cell ag.out 3).trans rfl, (blk_cell ag.out 4).trans rfl⟩ (fun hHeld => ?_)
    generalize wr.drew = w37 at ax ad ae af ac ag HB hHeld ⊢
    refine pure_ (i := 0) (N := some 37) (v := ?_) (a' := ?_) (tf 4 1) rfl rfl (by kernel_rfl) (fun _ _ _ h => h) (Or.inl ⟨by rfl, ?_⟩) ?_ ?_
    rotate_left
    ·intro w'
     go_simp
     with_reducible rfl
    rotate_left
    ·simp only [Act.put, List.setIfInBounds_toArray, List.set_cons_zero, List.set_cons_succ, i64_w, i32_w]
     rfl
    refine pure_ (i := 2) (N := some 6) (v := ?_) (a' := ?_) (tf 4 5) rfl rfl (by kernel_rfl) (fun _ _ _ h => h) (Or.inl ⟨by rfl, ?_⟩) ?_ ?_
    rotate_left
    ·intro w'
     go_simp
     with_reducible rfl
    rotate_left
    ·simp only [Act.put, List.setIfInBounds_toArray, List.set_cons_zero, List.set_cons_succ, i64_w, i32_w]
     rfl
    refine take_ (i := 1) (N := some 38) (v := ?_) (a' := ?_) (tf 4 7) rfl rfl (by kernel_rfl) (fun _ _ _ h => h) (Or.inl ⟨by rfl, ?_⟩) hHeld ?_ ?_
    rotate_left
    ·rintro w' ⟨s0, s1, s2, s3, s4⟩
     go_simp
     with_reducible rfl
    rotate_left
    ·simp only [Act.put, List.setIfInBounds_toArray, List.set_cons_zero, List.set_cons_succ, i64_w, i32_w]
     rfl
    refine one_ (i := 3) (N := none) (tf 4 15) rfl rfl (by kernel_rfl) (by decide) (fun K hK => ?_)
    have dD : w37.cell? ⟨ab, 0, none⟩ = some (.int .i64 0) := (blk_cell ac.out 0).trans rfl
    have c5 := blk_frozen ac.out 0; have cA := am.out; have cB := ao.out; have cC := aa.out; have ck := aq.out; have cl := ar.out; have cm := al.out
    have dE : w37.cell? ⟨ab, 1, none⟩ = some (.int .u32 0) := (blk_cell ac.out 1).trans rfl
    have c6 := blk_frozen ac.out 1; have cD := am.out; have cE := ao.out; have cF := aa.out; have cn := aq.out; have co := ar.out; have cp := al.out
    have dF : w37.cell? ⟨ab, 2, none⟩ = some (.bool false) := (blk_cell ac.out 2).trans rfl
    have da := blk_frozen ac.out 2; have cG := am.out; have cH := ao.out; have cI := aa.out; have cq := aq.out; have cr := ar.out; have ct := al.out
    have dG : w37.cell? ⟨ab, 3, none⟩ = some (.slice none 0 0) := (blk_cell ac.out 3).trans rfl
    have db := blk_frozen ac.out 3; have cJ := am.out; have cK := ao.out; have cL := aa.out; have cu := aq.out; have cv := ar.out; have cw := al.out
    have dH : w37.cell? ⟨ab, 4, none⟩ = some (.slice none 0 0) := (blk_cell ac.out 4).trans rfl
    have dc := blk_frozen ac.out 4; have cM := am.out; have cN := ao.out; have cO := aa.out; have cx := aq.out; have cy := ar.out; have cz := al.out
    refine skip_ (w1 := ?_) (by rfl) rfl ?_ ?_
    rotate_left
    ·go_simp
     rfl
    refine hK.out _ _ ⟨((cell_far (p := ⟨ab, _, none⟩) aa.out _).trans (((cell_far (p := ⟨ab, _, none⟩) aa.out _).trans (((cell_far (p := ⟨ab, _, none⟩) aa.out _).trans (((cell_far (p := ⟨ab, _, none⟩) aa.out _).trans (((cell_far (p := ⟨ab, _, none⟩) aa.out _).trans (hHeld.1)))))))))), ((cell_far (p := ⟨ab, _, none⟩) aa.out _).trans (((cell_far (p := ⟨ab, _, none⟩) aa.out _).trans (((cell_far (p := ⟨ab, _, none⟩) aa.out _).trans (((cell_far (p := ⟨ab, _, none⟩) aa.out _).trans (((cell_far (p := ⟨ab, _, none⟩) aa.out _).trans (hHeld.2.1)))))))))), ((cell_far (p := ⟨ab, _, none⟩) aa.out _).trans (((cell_far (p := ⟨ab, _, none⟩) aa.out _).trans (((cell_far (p := ⟨ab, _, none⟩) aa.out _).trans (((cell_far (p := ⟨ab, _, none⟩) aa.out _).trans (((cell_far (p := ⟨ab, _, none⟩) aa.out _).trans (hHeld.2.2.1)))))))))), ((cell_far (p := ⟨ab, _, none⟩) aa.out _).trans (((cell_far (p := ⟨ab, _, none⟩) aa.out _).trans (((cell_far (p := ⟨ab, _, none⟩) aa.out _).trans (((cell_far (p := ⟨ab, _, none⟩) aa.out _).trans (((cell_far (p := ⟨ab, _, none⟩) aa.out _).trans (hHeld.2.2.2.1)))))))))), ((cell_far (p := ⟨ab, _, none⟩) aa.out _).trans (((cell_far (p := ⟨ab, _, none⟩) aa.out _).trans (((cell_far (p := ⟨ab, _, none⟩) aa.out _).trans (((cell_far (p := ⟨ab, _, none⟩) aa.out _).trans (((cell_far (p := ⟨ab, _, none⟩) aa.out _).trans (hHeld.2.2.2.2))))))))))⟩ (fun hHeld => ?_)
    clear hK K
    refine done_ (by kernel_rfl) ?_
    try go_wp2
    refine bodyPost_ret (results_tc rfl _ _ ab 34 #[.int .i64 0, .int .u32 0, .bool false, .slice none 0 0, .slice bq ai.length bs] (0, 0) _ rfl (by (with_reducible repeat (first | refine blk_drewN ?_ _ | refine blk_drew ?_ | refine blk_alloc ?_ _)); refine blk_put (cs := #[.int .i64 0, .int .u32 0, .bool false, .slice none 0 0, .slice none 0 0]) ?_ 4 _ rfl; refine blk_put (cs := #[.int .i64 0, .int .u32 0, .bool false, .slice none 0 0, .slice none 0 0]) ?_ 3 _ rfl; refine blk_put (cs := #[.int .i64 0, .int .u32 0, .bool false, .slice none 0 0, .slice none 0 0]) ?_ 2 _ rfl; refine blk_put (cs := #[.int .i64 0, .int .u32 0, .bool false, .slice none 0 0, .slice none 0 0]) ?_ 1 _ rfl; refine blk_put (cs := #[.int .i64 0, .int .u32 0, .bool false, .slice none 0 0, .slice none 0 0]) ?_ 0 _ rfl; (with_reducible repeat (first | refine blk_drewN ?_ _ | refine blk_drew ?_ | refine blk_alloc ?_ _)); exact ac.out) Tryd.underlying34 rfl (by kernel_rfl)) rfl ?_
    exact ⟨_, _, _, er_, by (with_reducible repeat (first | apply Kd.V_alloc | apply Kd.V_drewN | apply Kd.V_drew)); exact Kd.V_mono (vF5_ (g := ab) (Kd.V_mono ax.out (fun k_ hk => (⟨hk, hk.2.2.2.2.1⟩ : _ ∧ k_ ≠ ab))) (fun _ hk => hk.2)) (fun _ hk => ⟨hk.1.1, ⟨(by simp [Value.ownBlock]), hk.1.2.1⟩⟩), by first | exact Kd.R_nil _ _ _ _ _ | exact Kd.N_nil _ _ _ _ _ | exact Kd.V_nil _ _ _ _ _ | exact Kd.Q_nil _ _ _ _ _ | exact Kd.S_nil _ _ _ _ _, by (with_reducible repeat (first | apply Kd.R_alloc | apply Kd.R_drewN | apply Kd.R_drew)); exact Kd.R_mono (rF5_ (g := ab) (Kd.R_types ad.out ac.out (by decide)) (fun _ hk => hk.2)) (fun _ hk => hk.1), hB_ HB⟩

/-! ### spec_query: function 78 -/
def spec_query.f (k : Nat) (a0_0 a0_1 : Int) (l0_2 : List Int) (a0_3 a0_4 : Int) (a0_5 a0_6 : Int) (l1 : List Int) (a2_0 a2_1 : Int) (l2_2 : List Int) : Option (List Int × Int × Int × Bool × List Int × List Int) := (spec_offset.f k a0_0 a0_1 l0_2 a0_3 a0_4 a0_5 a0_6 a2_1).bind fun t228 => ((model_Has.f k l1 t228).bind fun t229 => (some (l1, 0, 0, t229, ([] : List Int), ([] : List Int))))
theorem spec_query.mono : ∀ a0 a1 a2 a3 a4 a5 a6 a7 a8 a9 a10 k, LeO (spec_query.f k a0 a1 a2 a3 a4 a5 a6 a7 a8 a9 a10) (spec_query.f (k + 1) a0 a1 a2 a3 a4 a5 a6 a7 a8 a9 a10) := by
 intro a0 a1 a2 a3 a4 a5 a6 a7 a8 a9 a10 k
 unfold spec_query.f
 repeat' (with_reducible first | apply model_Has.mono | apply spec_offset.mono | exact LeO.refl _ | exact LeO.none _ | refine LeO.ite ?_ ?_ | refine LeO.bind ?_ (fun _ => ?_))
set_option maxHeartbeats 8000000 in
set_option maxRecDepth 100000 in
theorem spec_query.calls (k : Nat) (ag ah : Int) (ap : Option Addr) (aq : Nat) (ae : List Int) (ai aj : Int) (ak al : Int) (P1_ : Nat → Prop) (A1 : Option Addr) (c1 : Nat) (l1 : List Int) (aB am : Int) (aA : Option Addr) (aC : Nat) (an r1 : List Int) (r2 r3 : Int) (r4 : Bool) (r5 r6 : List Int) (w : World) (hr0_2 : Kd.C (Kd.int .i64) w ap ae.length ae) (hc0_2 : ae.length ≤ aq) (a9 : Kd.V (Kd.int .i64) 3 w w.heap.size (fun k_ => P1_ k_) (.slice A1 l1.length c1) l1) (hr2_2 : Kd.C (Kd.int .u32) w aA an.length an) (hc2_2 : an.length ≤ aC) (h : spec_query.f k ag ah ae ai aj ak al l1 aB am an = some (r1, r2, r3, r4, r5, r6)) :
  Calls Tryd.prog 78 #[.agg #[.int .u32 ag, .int .i64 ah, .slice ap ae.length aq, .int .i64 ai, .int .i64 aj, .int .i64 ak, .int .i64 al], .slice A1 l1.length c1, .agg #[.int .i64 aB, .int .u32 am, .slice aA an.length aC]] w fun e w' => ∃ v0_ v4_ v5_ : Value, e = .returned (.tuple #[v0_, .agg #[.int .i64 r2, .int .u32 r3, .bool r4, v4_, v5_]]) ∧ Kd.V (Kd.int .i64) 3 w' w.heap.size (fun k_ => (P1_ k_ ∨ w.heap.size ≤ k_) ∧ some k_ ≠ (v4_ : Value).ownBlock ∧ some k_ ≠ (v5_ : Value).ownBlock) v0_ r1 ∧ Kd.R (Kd.int .u32) 22 w' w.heap.size (fun k_ => (w.heap.size ≤ k_)) v4_ r5 ∧ Kd.R (Kd.int .i64) 31 w' w.heap.size (fun k_ => (w.heap.size ≤ k_)) v5_ r6 ∧ Below w.heap.size w w' := by
 have hu27 := Tryd.underlying27
 have hu30 := Tryd.underlying30
 have hu34 := Tryd.underlying34
 have aE := Aside0.mk hr0_2
 have aD := Aside0.mk hc0_2
 clear hr0_2 hc0_2
 have ac := Aside0.mk (show Kd.V (Kd.int .i64) 3 w w.heap.size (fun k_ => (P1_ k_ ∨ w.heap.size ≤ k_)) (.slice A1 l1.length c1) l1 from Kd.V_mono a9 (fun k_ hk => .inl hk))
 have bh := Aside0.mk hr2_2
 have bg := Aside0.mk hc2_2
 clear hr2_2 hc2_2
 have HB := Aside0.mk (Below.refl w.heap.size w)
 have H : ((spec_offset.f k ag ah ae ai aj ak al am).bind fun ao => ((model_Has.f k l1 ao).bind fun af => (some (l1, 0, 0, af, ([] : List Int), ([] : List Int))))) = some (r1, r2, r3, r4, r5, r6) := h
 clear h
 replace H := bi_ H
 obtain ⟨ao, A40, H⟩ := H
 replace H : ((model_Has.f k l1 ao).bind fun af => (some (l1, 0, 0, af, ([] : List Int), ([] : List Int)))) = some (r1, r2, r3, r4, r5, r6) := H
 have A4 := Aside0.mk A40
 clear A40
 replace H := bi_ H
 obtain ⟨af, A50, H⟩ := H
 replace H : (some (l1, 0, 0, af, ([] : List Int), ([] : List Int))) = some (r1, r2, r3, r4, r5, r6) := H
 have A5 := Aside0.mk A50
 clear A50
 simp only [Option.some.injEq, Prod.mk.injEq] at H
 obtain ⟨rfl, rfl, rfl, rfl, rfl, rfl⟩ := H
 go_enter Tryd.func78, Tryd.ntmps78
 go_wp2_with (first | ((with_reducible refine gate_dst (N := 3) rfl ?_); refine box_event ?hg (N := 3) ?hd (cs := #[.int .u32 ag, .int .i64 ah, .slice ap ae.length aq, .int .i64 ai, .int .i64 aj, .int .i64 ak, .int .i64 al]) (t := 27) ?hr ?_; (case hd => rfl); (case hg => rfl); (case hr => first | (go_simp; done) | (go_simp; rfl)); intro bi hg w6 hbox hb; replace ac := vE_ ac hg hb; have aa := Aside0.mk (hbox); have bd := gG_ hg HB; have ba := gG_ hg HB; replace HB := hS_ HB hb; clear hb hbox hg) | ((with_reducible refine gate_dst (N := 5) rfl ?_); refine box_event ?hg (N := 5) ?hd (cs := #[.int .i64 aB, .int .u32 am, .slice aA an.length aC]) (t := 30) ?hr ?_; (case hd => rfl); (case hg => rfl); (case hr => first | (go_simp; done) | (go_simp; rfl)); intro bj hg w7 hbox hb; replace ac := vE_ ac hg hb; have ab := Aside0.mk (hbox); have be := gG_ hg HB; have bb := gG_ hg HB; replace HB := hS_ HB hb; have au := nL_ hg aa; have aw := nG_ hg aa; replace aa := bB_ aa hb; clear hb hbox hg) | ((with_reducible refine gate_dst (N := 7) rfl ?_); refine box_event ?hg (N := 7) ?hd (cs := #[.int .i64 0, .int .u32 0, .bool false, .slice none 0 0, .slice none 0 0]) (t := 34) ?hr ?_; (case hd => rfl); (case hg => rfl); (case hr => first | (go_simp; done) | (go_simp; rfl)); intro ar hg w8 hbox hb; replace ac := vE_ ac hg hb; have ad := Aside0.mk (hbox); have bf := gG_ hg HB; have bc := gG_ hg HB; have av := nL_ hg aa; have ay := nG_ hg aa; have ax := nL_ hg ab; have az := nG_ hg ab; replace ab := bB_ ab hb; replace aa := bB_ aa hb; replace HB := hS_ HB hb; clear hb hbox hg; have bo := au.out; have bp := aw.out; have bk := av.out; have bm := ay.out; obtain ⟨aF, aG, aH, aI, aJ, aK, aL, aU, aV, aW, aX, aY, aZ, a0⟩ := cz7_ (w := w8) aa; have bl := ax.out; have bn := az.out; obtain ⟨aM, aN, aO, a1, a2, a3⟩ := cz3_ (w := w8) ab) | ((with_reducible refine gate_callee (f := 82) rfl ?_); refine gL_ (some 13) Tryd.func82 #[.agg #[.int .u32 ag, .int .i64 ah, .slice ap ae.length aq, .int .i64 ai, .int .i64 aj, .int .i64 ak, .int .i64 al], .int .u32 am] ?_; (with_reducible refine (spec_offset.calls k ag ah _ _ ae ai aj ak al am ao _ ?side1 ?side2 A4.out).mono ?_); (case side1 => exact cC_ aE HB); (case side2 => exact aD.out); rintro e w14 ⟨rfl, hb⟩; refine ⟨_, rfl, ?_⟩; replace ac := vB_ ac hb; replace ab := bB_ ab hb; replace HB := hS_ HB hb; replace aa := bB_ aa hb; replace ad := bB_ ad hb; (try clear hb)) | ((with_reducible refine gate_callee (f := 34) rfl ?_); refine gL_ (some 14) Tryd.func34 #[.slice A1 l1.length c1, .int .i64 ao] ?_; (with_reducible refine (model_Has.calls k _ _ l1 ao af _ ?side1 ?side2 A5.out).mono ?_); (case side1 => exact cD_ (Kd.V_reads' ac.out).2.2); (case side2 => exact (Kd.V_reads' ac.out).2.1); rintro e w' ⟨rfl, ⟨nd, rfl⟩⟩; refine ⟨_, rfl, ?_⟩; (try (rw [drewN_self w14]; generalize hq_ : World.drewN w14 _ = w14; have n0_ := Aside0.mk (V_atq hq_ ac.out); have n1_ := Aside0.mk (blk_at hq_ aa.out); have n2_ := Aside0.mk (blk_at hq_ ab.out); have n3_ := Aside0.mk (blk_at hq_ ad.out); have n4_ := Aside0.mk (below_at hq_ HB.out); clear hq_ ac aa ab ad HB; have ac := n0_; have aa := n1_; have ab := n2_; have ad := n3_; have HB := n4_; clear n0_ n1_ n2_ n3_ n4_)); obtain ⟨aP, aQ, aR, aS, aT, a4, a5, a6, a7, a8⟩ := cz5_ (w := w14) ad))
 refine bodyPost_ret (results_tc rfl _ _ ar 34 #[.int .i64 0, .int .u32 0, .bool af, .slice none 0 0, .slice none 0 0] (0, 0) _ rfl (by (with_reducible repeat (first | refine blk_drewN ?_ _ | refine blk_drew ?_ | refine blk_alloc ?_ _)); refine blk_put (cs := #[.int .i64 0, .int .u32 0, .bool af, .slice none 0 0, .slice none 0 0]) ?_ 4 _ rfl; refine blk_put (cs := #[.int .i64 0, .int .u32 0, .bool af, .slice none 0 0, .slice none 0 0]) ?_ 3 _ rfl; refine blk_put (cs := #[.int .i64 0, .int .u32 0, .bool false, .slice none 0 0, .slice none 0 0]) ?_ 2 _ rfl; refine blk_put (cs := #[.int .i64 0, .int .u32 0, .bool false, .slice none 0 0, .slice none 0 0]) ?_ 1 _ rfl; refine blk_put (cs := #[.int .i64 0, .int .u32 0, .bool false, .slice none 0 0, .slice none 0 0]) ?_ 0 _ rfl; (with_reducible repeat (first | refine blk_drewN ?_ _ | refine blk_drew ?_ | refine blk_alloc ?_ _)); exact ad.out) Tryd.underlying34 rfl (by kernel_rfl)) rfl ?_
 exact ⟨_, _, _, er_, by (with_reducible repeat (first | apply Kd.V_alloc | apply Kd.V_drewN | apply Kd.V_drew)); exact Kd.V_mono (vF5_ (g := ar) (Kd.V_mono ac.out (fun k_ hk => (⟨hk, hk.2⟩ : _ ∧ k_ ≠ ar))) (fun _ hk => hk.2)) (fun _ hk => ⟨hk.1.1.1.1, ⟨(by simp [Value.ownBlock]), (by simp [Value.ownBlock])⟩⟩), by first | exact Kd.R_nil _ _ _ _ _ | exact Kd.N_nil _ _ _ _ _ | exact Kd.V_nil _ _ _ _ _ | exact Kd.Q_nil _ _ _ _ _ | exact Kd.S_nil _ _ _ _ _, by first | exact Kd.R_nil _ _ _ _ _ | exact Kd.N_nil _ _ _ _ _ | exact Kd.V_nil _ _ _ _ _ | exact Kd.Q_nil _ _ _ _ _ | exact Kd.S_nil _ _ _ _ _, hB_ HB⟩

end Go.Proofs.YtkiimboedgnoiaaDoor.PSpecBack
