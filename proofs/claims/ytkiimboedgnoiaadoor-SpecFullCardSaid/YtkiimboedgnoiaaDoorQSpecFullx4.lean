/- The walk of SpecFull, part of it: what the Go functions answer; no condition. -/
import Derived.Test.YtkiimboedgnoiaaDoorQSpecFullx0
import Derived.Test.YtkiimboedgnoiaaDoorQSpecFullx1
import Derived.Test.YtkiimboedgnoiaaDoorQSpecFullx2
import Derived.Test.YtkiimboedgnoiaaDoorQSpecFullx3
namespace Go.Proofs.YtkiimboedgnoiaaDoor.PSpecFull
open Go.RowKit Go.Proofs.YtkiimboedgnoiaaDoorW.PrintWords Go.Proofs.YtkiimboedgnoiaaDoorW.PrintLast Go.Proofs.YtkiimboedgnoiaaDoorW.PrintMore
attribute [local go_sem] max2_int min2_int max_two min_two max_three min_three max_four min_four   -- for this text's walks alone
set_option linter.unusedVariables false
set_option linter.unusedSimpArgs false

/-! ### spec_exact: function 75 -/
def spec_exact.f (k : Nat) (a0_0 : Int) (a0_1 : Int) (l0_2 : List Int) (a0_3 : Int) (a0_4 : Int) (a0_5 : Int) (a0_6 : Int) (l1 : List Int) (a2_0 : Int) (a2_1 : Int) (l2_2 : List Int) : Option (List Int × Int × Int × Bool × List Int × List Int) := (spec_offset.f k a0_0 a0_1 l0_2 a0_3 a0_4 a0_5 a0_6 a2_1).bind fun t173 => ((model_Has.f k l1 t173).bind fun t174 => (if t174 = true then ((spec_fail.f 5).bind fun bt175 => (some (l1, bt175.1, bt175.2.1, bt175.2.2.1, bt175.2.2.2.1, bt175.2.2.2.2))) else ((model_With.f k l1 t173).bind fun t184 => (some (t184, 0, a2_1, false, ([] : List Int), ([] : List Int))))))
theorem spec_exact.mono : ∀ a0 a1 a2 a3 a4 a5 a6 a7 a8 a9 a10 k, LeO (spec_exact.f k a0 a1 a2 a3 a4 a5 a6 a7 a8 a9 a10) (spec_exact.f (k + 1) a0 a1 a2 a3 a4 a5 a6 a7 a8 a9 a10) := by
 intro a0 a1 a2 a3 a4 a5 a6 a7 a8 a9 a10 k
 unfold spec_exact.f
 repeat' first
   | (with_reducible exact model_Has.mono _ _ _)
   | (with_reducible exact model_With.mono _ _ _)
   | (with_reducible exact spec_offset.mono _ _ _ _ _ _ _ _ _)
   | (with_reducible exact LeO.refl _)
   | (with_reducible exact LeO.none _)
   | (with_reducible refine LeO.ite ?_ ?_)
   | (with_reducible refine LeO.bind ?_ (fun _ => ?_))
   | exact model_Has.mono _ _ _
   | exact model_With.mono _ _ _
   | exact spec_offset.mono _ _ _ _ _ _ _ _ _
   | exact LeO.none _
   | refine LeO.ite ?_ ?_
   | refine LeO.bind ?_ (fun _ => ?_)
def spec_exact.T4 : Bool × List (List Nat × List Nat) := (true, [([], []), ([], []), ([0, 1], [0, 1]), ([], []), ([3], [3]), ([4], [4]), ([2, 2, 0, 1, 2], [2]), ([5, 6, 0, 1, 2, 3, 4, 5, 6], [5])])
def spec_exact.B4 : List Nat := [0, 0, 3, 0, 8, 24, 7, 127]
theorem spec_exact.tab4 : rtab .any (opsOf Tryd.f75 4) = spec_exact.T4 := by kernel_rfl
theorem spec_exact.bits4 : waitsOk spec_exact.T4.2 spec_exact.B4 = true := by kernel_rfl
set_option maxHeartbeats 8000000 in
set_option maxRecDepth 100000 in
theorem spec_exact.calls (k : Nat) (a0_0 : Int) (a0_1 : Int) (A0_2 : Option Addr) (c0_2 : Nat) (l0_2 : List Int) (a0_3 : Int) (a0_4 : Int) (a0_5 : Int) (a0_6 : Int) (P1_ : Nat → Prop) (A1 : Option Addr) (c1 : Nat) (l1 : List Int) (a2_0 : Int) (a2_1 : Int) (A2_2 : Option Addr) (c2_2 : Nat) (l2_2 : List Int) (r1 : List Int) (r2 : Int) (r3 : Int) (r4 : Bool) (r5 : List Int) (r6 : List Int) (w : World) (hr0_2 : Kd.C (Kd.int .i64) w A0_2 l0_2.length l0_2) (hc0_2 : l0_2.length ≤ c0_2) (hs1 : Kd.V (Kd.int .i64) 3 w w.heap.size (fun k_ => P1_ k_) (.slice A1 l1.length c1) l1) (hr2_2 : Kd.C (Kd.int .u32) w A2_2 l2_2.length l2_2) (hc2_2 : l2_2.length ≤ c2_2) (h : spec_exact.f k a0_0 a0_1 l0_2 a0_3 a0_4 a0_5 a0_6 l1 a2_0 a2_1 l2_2 = some (r1, r2, r3, r4, r5, r6)) :
  Calls Tryd.prog 75 #[.agg #[.int .u32 a0_0, .int .i64 a0_1, .slice A0_2 l0_2.length c0_2, .int .i64 a0_3, .int .i64 a0_4, .int .i64 a0_5, .int .i64 a0_6], .slice A1 l1.length c1, .agg #[.int .i64 a2_0, .int .u32 a2_1, .slice A2_2 l2_2.length c2_2]] w fun e w' => ∃ v0_ v4_ v5_ : Value, e = .returned (.tuple #[v0_, .agg #[.int .i64 r2, .int .u32 r3, .bool r4, v4_, v5_]]) ∧ Kd.V (Kd.int .i64) 3 w' w.heap.size (fun k_ => (P1_ k_ ∨ w.heap.size ≤ k_) ∧ some k_ ≠ (v4_ : Value).ownBlock ∧ some k_ ≠ (v5_ : Value).ownBlock) v0_ r1 ∧ Kd.R (Kd.int .u32) 22 w' w.heap.size (fun k_ => (w.heap.size ≤ k_)) v4_ r5 ∧ Kd.R (Kd.int .i64) 31 w' w.heap.size (fun k_ => (w.heap.size ≤ k_)) v5_ r6 ∧ Below w.heap.size w w' := by
 have hu27 := Tryd.underlying27
 have hu30 := Tryd.underlying30
 have hu34 := Tryd.underlying34
 have HR0_2 := Aside0.mk hr0_2
 have HC0_2 := Aside0.mk hc0_2
 clear hr0_2 hc0_2
 have HO1 := Aside0.mk (show Kd.V (Kd.int .i64) 3 w w.heap.size (fun k_ => (P1_ k_ ∨ w.heap.size ≤ k_)) (.slice A1 l1.length c1) l1 from Kd.V_mono hs1 (fun k_ hk => .inl hk))
 have HR2_2 := Aside0.mk hr2_2
 have HC2_2 := Aside0.mk hc2_2
 clear hr2_2 hc2_2
 have HB := Aside0.mk (Below.refl w.heap.size w)
 have H : ((spec_offset.f k a0_0 a0_1 l0_2 a0_3 a0_4 a0_5 a0_6 a2_1).bind fun t173 => ((model_Has.f k l1 t173).bind fun t174 => (if t174 = true then ((spec_fail.f 5).bind fun bt175 => (some (l1, bt175.1, bt175.2.1, bt175.2.2.1, bt175.2.2.2.1, bt175.2.2.2.2))) else ((model_With.f k l1 t173).bind fun t184 => (some (t184, 0, a2_1, false, ([] : List Int), ([] : List Int))))))) = some (r1, r2, r3, r4, r5, r6) := h
 clear h
 replace H := Option.bind_eq_some_iff.mp H
 obtain ⟨t173, A40, H⟩ := H
 replace H : ((model_Has.f k l1 t173).bind fun t174 => (if t174 = true then ((spec_fail.f 5).bind fun bt175 => (some (l1, bt175.1, bt175.2.1, bt175.2.2.1, bt175.2.2.2.1, bt175.2.2.2.2))) else ((model_With.f k l1 t173).bind fun t184 => (some (t184, 0, a2_1, false, ([] : List Int), ([] : List Int)))))) = some (r1, r2, r3, r4, r5, r6) := H
 have A4 := Aside0.mk A40
 clear A40
 replace H := Option.bind_eq_some_iff.mp H
 obtain ⟨t174, A50, H⟩ := H
 replace H : (if t174 = true then ((spec_fail.f 5).bind fun bt175 => (some (l1, bt175.1, bt175.2.1, bt175.2.2.1, bt175.2.2.2.1, bt175.2.2.2.2))) else ((model_With.f k l1 t173).bind fun t184 => (some (t184, 0, a2_1, false, ([] : List Int), ([] : List Int))))) = some (r1, r2, r3, r4, r5, r6) := H
 have A5 := Aside0.mk A50
 clear A50
 by_cases c6 : t174 = true
 ·subst c6
  have H1 : ((spec_fail.f 5).bind fun bt175 => (some (l1, bt175.1, bt175.2.1, bt175.2.2.1, bt175.2.2.2.1, bt175.2.2.2.2))) = some (r1, r2, r3, r4, r5, r6) := by rw [if_pos rfl] at H; exact H
  clear H
  have H := H1
  clear H1
  replace H := Option.bind_eq_some_iff.mp H
  obtain ⟨⟨t175, t176, t177, t178, t181⟩, A70, H⟩ := H
  replace H : (some (l1, t175, t176, t177, t178, t181)) = some (r1, r2, r3, r4, r5, r6) := H
  have A7 := Aside0.mk A70
  clear A70
  simp only [Option.some.injEq, Prod.mk.injEq] at H
  obtain ⟨rfl, rfl, rfl, rfl, rfl, rfl⟩ := H
  go_enter Tryd.func75, Tryd.ntmps75
  go_wp2_with (first | ((with_reducible refine gate_dst (N := 3) rfl ?_); refine box_event ?hg (N := 3) ?hd (cs := #[.int .u32 a0_0, .int .i64 a0_1, .slice A0_2 l0_2.length c0_2, .int .i64 a0_3, .int .i64 a0_4, .int .i64 a0_5, .int .i64 a0_6]) (t := 27) ?hr ?_; (case hd => rfl); (case hg => rfl); (case hr => first | (go_simp; done) | (go_simp; rfl)); intro gb170 hg w8 hbox hb; have n0_ := Aside0.mk (Kd.V_below (Kd.V_elderB (vV_ HO1) gb170 (Nat.le_of_eq hg.symm)) hb); have n2_ := Aside0.mk (hbox); have n3_ := gG_ (w := w) hg HB; have n4_ := gG_ (w := w) hg HB; clear HO1; have HO1 := n0_; have BK170 := n2_; have GW170 := n3_; have GE170 := n4_; replace HB := hS_ HB hb; clear n0_ n2_ n3_ n4_; clear hb hbox hg) | ((with_reducible refine gate_dst (N := 5) rfl ?_); refine box_event ?hg (N := 5) ?hd (cs := #[.int .i64 a2_0, .int .u32 a2_1, .slice A2_2 l2_2.length c2_2]) (t := 30) ?hr ?_; (case hd => rfl); (case hg => rfl); (case hr => first | (go_simp; done) | (go_simp; rfl)); intro gb171 hg w9 hbox hb; have n0_ := Aside0.mk (Kd.V_below (Kd.V_elderB (vV_ HO1) gb171 (Nat.le_of_eq hg.symm)) hb); have n2_ := Aside0.mk (below_step (hB_ HB) hb); have n3_ := Aside0.mk (hbox); have n4_ := gG_ (w := w) hg HB; have n5_ := gG_ (w := w) hg HB; have n6_ := nL_ hg BK170; have n7_ := nG_ hg BK170; clear HO1; clear HB; have HO1 := n0_; have HB := n2_; have BK171 := n3_; have GW171 := n4_; have GE171 := n5_; have NB170_171 := n6_; have NB171_170 := n7_; replace BK170 := bB_ BK170 hb; clear n0_ n2_ n3_ n4_ n5_ n6_ n7_; clear hb hbox hg) | ((with_reducible refine gate_dst (N := 7) rfl ?_); refine box_event ?hg (N := 7) ?hd (cs := #[.int .i64 0, .int .u32 0, .bool false, .slice none 0 0, .slice none 0 0]) (t := 34) ?hr ?_; (case hd => rfl); (case hg => rfl); (case hr => first | (go_simp; done) | (go_simp; rfl)); intro gb172 hg w10 hbox hb; have n0_ := Aside0.mk (Kd.V_below (Kd.V_elderB (vV_ HO1) gb172 (Nat.le_of_eq hg.symm)) hb); have n2_ := bB_ BK171 hb; have n4_ := Aside0.mk (hbox); have n5_ := gG_ (w := w) hg HB; have n6_ := gG_ (w := w) hg HB; have n7_ := nL_ hg BK170; have n8_ := nG_ hg BK170; have n9_ := nL_ hg BK171; have n10_ := nG_ hg BK171; clear HO1; clear BK171; have HO1 := n0_; have BK171 := n2_; have BK172 := n4_; have GW172 := n5_; have GE172 := n6_; have NB170_172 := n7_; have NB172_170 := n8_; have NB171_172 := n9_; have NB172_171 := n10_; replace BK170 := bB_ BK170 hb; replace HB := hS_ HB hb; clear n0_ n2_ n4_ n5_ n6_ n7_ n8_ n9_ n10_; clear hb hbox hg; have hnb11 := NB170_171.out; have hnc11 := NB171_170.out; have hnb12 := NB170_172.out; have hnc12 := NB172_170.out; obtain ⟨hcz13_0, hcz13_1, hcz13_2, hcz13_3, hcz13_4, hcz13_5, hcz13_6, hfz13_0, hfz13_1, hfz13_2, hfz13_3, hfz13_4, hfz13_5, hfz13_6⟩ := cz7_ (w := w10) BK170; have hnb14 := NB171_172.out; have hnc14 := NB172_171.out; obtain ⟨hcz15_0, hcz15_1, hcz15_2, hfz15_0, hfz15_1, hfz15_2⟩ := cz3_ (w := w10) BK171) | ((with_reducible refine gate_callee (f := 82) rfl ?_); refine goesL_ (some 12) rfl rfl Tryd.func82 (by kernel_rfl) rfl #[.agg #[.int .u32 a0_0, .int .i64 a0_1, .slice A0_2 l0_2.length c0_2, .int .i64 a0_3, .int .i64 a0_4, .int .i64 a0_5, .int .i64 a0_6], .int .u32 a2_1] rfl am_ ?_; (with_reducible refine (spec_offset.calls k a0_0 a0_1 _ _ l0_2 a0_3 a0_4 a0_5 a0_6 a2_1 t173 _ ?side1 ?side2 A4.out).mono ?_); (case side1 => exact cC_ HR0_2 HB); (case side2 => exact HC0_2.out); rintro e w16 ⟨rfl, hb⟩; refine ⟨_, rfl, ?_⟩; have n0_ := Aside0.mk (Kd.V_below (vV_ HO1) hb); have n2_ := bB_ BK171 hb; have n4_ := Aside0.mk (below_step (hB_ HB) hb); clear HO1; clear BK171; clear HB; have HO1 := n0_; have BK171 := n2_; have HB := n4_; replace BK170 := bB_ BK170 hb; replace BK172 := bB_ BK172 hb; clear n0_ n2_ n4_; (try clear hb); (try clear hb2); (try clear hk); (try clear hi)) | ((with_reducible refine gate_callee (f := 34) rfl ?_); refine goesL_ (some 15) rfl rfl Tryd.func34 (by kernel_rfl) rfl #[.slice A1 l1.length c1, .int .i64 t173] rfl am_ ?_; (with_reducible refine (model_Has.calls k _ _ l1 t173 true _ ?side1 ?side2 A5.out).mono ?_); (case side1 => repeat (first | exact (Kd.V_reads' HO1.out).2.2 | (with_reducible refine Kd.C_alloc ?_ _) | (with_reducible refine Kd.C_drewN ?_ _) | (with_reducible refine Kd.C_drew ?_))); (case side2 => exact (Kd.V_reads' HO1.out).2.1); rintro e w' ⟨rfl, ⟨nd, rfl⟩⟩; refine ⟨_, rfl, ?_⟩; (try (rw [drewN_self w16]; generalize hq_ : World.drewN w16 _ = w16; have n0_ := Aside0.mk (V_atq hq_ HO1.out); have n1_ := Aside0.mk (blk_at hq_ BK170.out); have n2_ := Aside0.mk (blk_at hq_ BK171.out); have n3_ := Aside0.mk (blk_at hq_ BK172.out); have n4_ := Aside0.mk (below_at hq_ HB.out); clear hq_ HO1 BK170 BK171 BK172 HB; have HO1 := n0_; have BK170 := n1_; have BK171 := n2_; have BK172 := n3_; have HB := n4_; clear n0_ n1_ n2_ n3_ n4_))) | ((with_reducible refine gate_callee (f := 31) rfl ?_); refine goesL_ (some 17) rfl rfl Tryd.func31 (by kernel_rfl) rfl #[.int .i64 5] rfl am_ ?_; (with_reducible refine (spec_fail.calls 5 t175 t176 t177 t178 t181 _ A7.out).mono ?_); rintro e w17 ⟨v179, v182, rfl, ho0, ho1, hb⟩; refine ⟨_, rfl, ?_⟩; have n0_ := Aside0.mk (Kd.V_mono (Kd.V_told (Kd.V_told (Kd.V_old (vV_ HO1) hb) (Kd.R_base ho0)) (Kd.R_base ho1)) (fun _ h_ => h_.1)); have n1_ := Aside0.mk (Kd.R_lower (Kd.R_newM (M := fun k_ => (w.heap.size ≤ k_)) ho0 (below_size (hB_ HB)) (fun k_ h_ => h_)) (below_size (hB_ HB))); have n2_ := Aside0.mk (Kd.R_lower (Kd.R_newM (M := fun k_ => (w.heap.size ≤ k_)) ho1 (below_size (hB_ HB)) (fun k_ h_ => h_)) (below_size (hB_ HB))); have n4_ := bB_ BK171 hb; have n6_ := Aside0.mk (below_step (hB_ HB) hb); clear HO1; clear BK171; clear HB; have HO1 := n0_; have HO180 := n1_; have HO183 := n2_; have BK171 := n4_; have HB := n6_; replace BK170 := bB_ BK170 hb; replace BK172 := bB_ BK172 hb; clear n0_ n1_ n2_ n4_ n6_; (try clear hb); (try clear hb2); (try clear hk); (try clear hi); (try clear ho0); (try clear ho1); obtain ⟨hcz18_0, hcz18_1, hcz18_2, hcz18_3, hcz18_4, hfz18_0, hfz18_1, hfz18_2, hfz18_3, hfz18_4⟩ := cz5_ (w := w17) BK172; obtain ⟨Ao19, co19, eo19⟩ := Kd.R_slice HO180.out; subst eo19; obtain ⟨Ao20, co20, eo20⟩ := Kd.R_slice HO183.out; subst eo20))
  refine bodyPost_ret (results_tc rfl _ _ gb172 34 #[.int .i64 t175, .int .u32 t176, .bool t177, .slice Ao19 t178.length co19, .slice Ao20 t181.length co20] (0, 0) _ rfl (by (with_reducible repeat (first | refine blk_drewN ?_ _ | refine blk_drew ?_ | refine blk_alloc ?_ _)); refine blk_put (cs := #[.int .i64 t175, .int .u32 t176, .bool t177, .slice Ao19 t178.length co19, .slice none 0 0]) ?_ 4 _ rfl; refine blk_put (cs := #[.int .i64 t175, .int .u32 t176, .bool t177, .slice none 0 0, .slice none 0 0]) ?_ 3 _ rfl; refine blk_put (cs := #[.int .i64 t175, .int .u32 t176, .bool false, .slice none 0 0, .slice none 0 0]) ?_ 2 _ rfl; refine blk_put (cs := #[.int .i64 t175, .int .u32 0, .bool false, .slice none 0 0, .slice none 0 0]) ?_ 1 _ rfl; refine blk_put (cs := #[.int .i64 0, .int .u32 0, .bool false, .slice none 0 0, .slice none 0 0]) ?_ 0 _ rfl; (with_reducible repeat (first | refine blk_drewN ?_ _ | refine blk_drew ?_ | refine blk_alloc ?_ _)); exact BK172.out) Tryd.underlying34 rfl (by kernel_rfl)) rfl ?_
  exact ⟨_, _, _, er_, by (with_reducible repeat (first | apply Kd.V_alloc | apply Kd.V_drewN | apply Kd.V_drew)); exact Kd.V_mono (vF5_ (g := gb172) (Kd.V_mono HO1.out (fun k_ hk => (⟨hk, hk.1.1.2⟩ : _ ∧ k_ ≠ gb172))) (fun _ hk => hk.2)) (fun _ hk => ⟨hk.1.1.1.1.1.1, ⟨hk.1.1.2, hk.1.2⟩⟩), by (with_reducible repeat (first | apply Kd.R_alloc | apply Kd.R_drewN | apply Kd.R_drew)); exact Kd.R_mono (rF5_ (g := gb172) (Kd.R_types HO180.out BK172.out (by decide)) (fun _ hk => hk.2)) (fun _ hk => hk.1.1), by (with_reducible repeat (first | apply Kd.R_alloc | apply Kd.R_drewN | apply Kd.R_drew)); exact Kd.R_mono (rF5_ (g := gb172) (Kd.R_types HO183.out BK172.out (by decide)) (fun _ hk => hk.2)) (fun _ hk => hk.1.1), hB_ HB⟩
 ·replace c6 := Bool.eq_false_iff.mpr c6
  subst c6
  have H1 : ((model_With.f k l1 t173).bind fun t184 => (some (t184, 0, a2_1, false, ([] : List Int), ([] : List Int)))) = some (r1, r2, r3, r4, r5, r6) := by rw [if_neg (show ¬ (false = true) by decide)] at H; exact H
  clear H
  have H := H1
  clear H1
  replace H := Option.bind_eq_some_iff.mp H
  obtain ⟨t184, A210, H⟩ := H
  replace H : (some (t184, 0, a2_1, false, ([] : List Int), ([] : List Int))) = some (r1, r2, r3, r4, r5, r6) := H
  have A21 := Aside0.mk A210
  clear A210
  simp only [Option.some.injEq, Prod.mk.injEq] at H
  obtain ⟨rfl, rfl, rfl, rfl, rfl, rfl⟩ := H
  go_enter Tryd.func75, Tryd.ntmps75
  try go_wp2_with (first | ((with_reducible refine gate_dst (N := 3) rfl ?_); refine box_event ?hg (N := 3) ?hd (cs := #[.int .u32 a0_0, .int .i64 a0_1, .slice A0_2 l0_2.length c0_2, .int .i64 a0_3, .int .i64 a0_4, .int .i64 a0_5, .int .i64 a0_6]) (t := 27) ?hr ?_; (case hd => rfl); (case hg => rfl); (case hr => first | (go_simp; done) | (go_simp; rfl)); intro gb170 hg w22 hbox hb; have n0_ := Aside0.mk (Kd.V_below (Kd.V_elderB (vV_ HO1) gb170 (Nat.le_of_eq hg.symm)) hb); have n2_ := Aside0.mk (hbox); have n3_ := gG_ (w := w) hg HB; have n4_ := gG_ (w := w) hg HB; clear HO1; have HO1 := n0_; have BK170 := n2_; have GW170 := n3_; have GE170 := n4_; replace HB := hS_ HB hb; clear n0_ n2_ n3_ n4_; clear hb hbox hg) | ((with_reducible refine gate_dst (N := 5) rfl ?_); refine box_event ?hg (N := 5) ?hd (cs := #[.int .i64 a2_0, .int .u32 a2_1, .slice A2_2 l2_2.length c2_2]) (t := 30) ?hr ?_; (case hd => rfl); (case hg => rfl); (case hr => first | (go_simp; done) | (go_simp; rfl)); intro gb171 hg w23 hbox hb; have n0_ := Aside0.mk (Kd.V_below (Kd.V_elderB (vV_ HO1) gb171 (Nat.le_of_eq hg.symm)) hb); have n2_ := Aside0.mk (below_step (hB_ HB) hb); have n3_ := Aside0.mk (hbox); have n4_ := gG_ (w := w) hg HB; have n5_ := gG_ (w := w) hg HB; have n6_ := nL_ hg BK170; have n7_ := nG_ hg BK170; clear HO1; clear HB; have HO1 := n0_; have HB := n2_; have BK171 := n3_; have GW171 := n4_; have GE171 := n5_; have NB170_171 := n6_; have NB171_170 := n7_; replace BK170 := bB_ BK170 hb; clear n0_ n2_ n3_ n4_ n5_ n6_ n7_; clear hb hbox hg) | ((with_reducible refine gate_dst (N := 7) rfl ?_); refine box_event ?hg (N := 7) ?hd (cs := #[.int .i64 0, .int .u32 0, .bool false, .slice none 0 0, .slice none 0 0]) (t := 34) ?hr ?_; (case hd => rfl); (case hg => rfl); (case hr => first | (go_simp; done) | (go_simp; rfl)); intro gb172 hg w24 hbox hb; have n0_ := Aside0.mk (Kd.V_below (Kd.V_elderB (vV_ HO1) gb172 (Nat.le_of_eq hg.symm)) hb); have n2_ := bB_ BK171 hb; have n4_ := Aside0.mk (hbox); have n5_ := gG_ (w := w) hg HB; have n6_ := gG_ (w := w) hg HB; have n7_ := nL_ hg BK170; have n8_ := nG_ hg BK170; have n9_ := nL_ hg BK171; have n10_ := nG_ hg BK171; clear HO1; clear BK171; have HO1 := n0_; have BK171 := n2_; have BK172 := n4_; have GW172 := n5_; have GE172 := n6_; have NB170_172 := n7_; have NB172_170 := n8_; have NB171_172 := n9_; have NB172_171 := n10_; replace BK170 := bB_ BK170 hb; replace HB := hS_ HB hb; clear n0_ n2_ n4_ n5_ n6_ n7_ n8_ n9_ n10_; clear hb hbox hg; have hnb25 := NB170_171.out; have hnc25 := NB171_170.out; have hnb26 := NB170_172.out; have hnc26 := NB172_170.out; obtain ⟨hcz27_0, hcz27_1, hcz27_2, hcz27_3, hcz27_4, hcz27_5, hcz27_6, hfz27_0, hfz27_1, hfz27_2, hfz27_3, hfz27_4, hfz27_5, hfz27_6⟩ := cz7_ (w := w24) BK170; have hnb28 := NB171_172.out; have hnc28 := NB172_171.out; obtain ⟨hcz29_0, hcz29_1, hcz29_2, hfz29_0, hfz29_1, hfz29_2⟩ := cz3_ (w := w24) BK171) | ((with_reducible refine gate_callee (f := 82) rfl ?_); refine goesL_ (some 12) rfl rfl Tryd.func82 (by kernel_rfl) rfl #[.agg #[.int .u32 a0_0, .int .i64 a0_1, .slice A0_2 l0_2.length c0_2, .int .i64 a0_3, .int .i64 a0_4, .int .i64 a0_5, .int .i64 a0_6], .int .u32 a2_1] rfl am_ ?_; (with_reducible refine (spec_offset.calls k a0_0 a0_1 _ _ l0_2 a0_3 a0_4 a0_5 a0_6 a2_1 t173 _ ?side1 ?side2 A4.out).mono ?_); (case side1 => exact cC_ HR0_2 HB); (case side2 => exact HC0_2.out); rintro e w30 ⟨rfl, hb⟩; refine ⟨_, rfl, ?_⟩; have n0_ := Aside0.mk (Kd.V_below (vV_ HO1) hb); have n2_ := bB_ BK171 hb; have n4_ := Aside0.mk (below_step (hB_ HB) hb); clear HO1; clear BK171; clear HB; have HO1 := n0_; have BK171 := n2_; have HB := n4_; replace BK170 := bB_ BK170 hb; replace BK172 := bB_ BK172 hb; clear n0_ n2_ n4_; (try clear hb); (try clear hb2); (try clear hk); (try clear hi)) | ((with_reducible refine gate_callee (f := 34) rfl ?_); refine goesL_ (some 15) rfl rfl Tryd.func34 (by kernel_rfl) rfl #[.slice A1 l1.length c1, .int .i64 t173] rfl am_ ?_; (with_reducible refine (model_Has.calls k _ _ l1 t173 false _ ?side1 ?side2 A5.out).mono ?_); (case side1 => repeat (first | exact (Kd.V_reads' HO1.out).2.2 | (with_reducible refine Kd.C_alloc ?_ _) | (with_reducible refine Kd.C_drewN ?_ _) | (with_reducible refine Kd.C_drew ?_))); (case side2 => exact (Kd.V_reads' HO1.out).2.1); rintro e w' ⟨rfl, ⟨nd, rfl⟩⟩; refine ⟨_, rfl, ?_⟩; (try (rw [drewN_self w30]; generalize hq_ : World.drewN w30 _ = w30; have n0_ := Aside0.mk (V_atq hq_ HO1.out); have n1_ := Aside0.mk (blk_at hq_ BK170.out); have n2_ := Aside0.mk (blk_at hq_ BK171.out); have n3_ := Aside0.mk (blk_at hq_ BK172.out); have n4_ := Aside0.mk (below_at hq_ HB.out); clear hq_ HO1 BK170 BK171 BK172 HB; have HO1 := n0_; have BK170 := n1_; have BK171 := n2_; have BK172 := n3_; have HB := n4_; clear n0_ n1_ n2_ n3_ n4_))))
  have n0_ := Aside0.mk (Kd.V_drew HO1.out)
  have n1_ := Aside0.mk (blk_drew BK170.out)
  have n2_ := Aside0.mk (blk_drew BK171.out)
  have n3_ := Aside0.mk (blk_drew BK172.out)
  have n4_ := Aside0.mk (below_drew1 HB.out)
  clear HO1
  clear BK170
  clear BK171
  clear BK172
  clear HB
  have HO1 := n0_
  have BK170 := n1_
  have BK171 := n2_
  have BK172 := n3_
  have HB := n4_
  clear n0_ n1_ n2_ n3_ n4_
  refine start_ (n := 8) (S := fun w' => w'.cell? ⟨gb171, 0, none⟩ = some (.int .i64 a2_0) ∧ w'.cell? ⟨gb171, 1, none⟩ = some (.int .u32 a2_1) ∧ w'.cell? ⟨gb171, 2, none⟩ = some (.slice A2_2 l2_2.length c2_2)) (ds := []) (tf 8 0) (by kernel_rfl) rfl rfl ⟨(blk_cell BK171.out 0).trans rfl, (blk_cell BK171.out 1).trans rfl, (blk_cell BK171.out 2).trans rfl⟩ (fun hHeld => ?_); refine with_tabW spec_exact.tab4 spec_exact.bits4 (fun HT_ HW_ => ?_)
  generalize w30.drew = w31 at HO1 BK170 BK171 BK172 HB hHeld ⊢
  refine pu_ (i := 0) (N := some 18) (tf 8 1) HT_ ?_
  refine pu_ (i := 1) (N := some 19) (tf 8 3) HT_ ?_
  refine pu_ (i := 3) (N := some 21) (tf 8 11) HT_ ?_
  refine tk_ (i := 4) (N := some 22) (tf 8 27) rfl rfl HT_ HW_ hHeld (by rintro w' ⟨s0, s1, s2⟩; go_simp; with_reducible rfl) ?_
  refine pu_ (i := 5) (N := some 23) (tf 8 59) HT_ ?_
  refine one_ (i := 2) (N := some 20) (tf 8 63) rfl rfl (one_of HT_.out (by kernel_rfl)) (by decide) (fun K hK => ?_)
  refine goes_ Tryd.func35 (by kernel_rfl) rfl #[.slice A1 l1.length c1, .int .i64 t173] (by rfl) rfl rfl am_ ?_
  with_reducible refine (model_With.calls k (fun k_ => ((((P1_ k_ ∨ w.heap.size ≤ k_) ∧ k_ ≠ gb170) ∧ k_ ≠ gb171) ∧ k_ ≠ gb172)) _ _ l1 t173 t184 _ ?side1 A21.out).mono ?_
  (case side1 => exact HO1.out)
  rintro e w32 ⟨v185, rfl, ho0, hb⟩
  refine ⟨_, rfl, ?_⟩
  have n0_ := Aside0.mk (Kd.V_below (vV_ HO1) hb)
  have n1_ := Aside0.mk (Kd.V_lower (Kd.V_mono (ok' := fun k_ => (P1_ k_ ∨ w.heap.size ≤ k_) ∧ k_ ≠ gb170 ∧ k_ ≠ gb171 ∧ k_ ≠ gb172) ho0 (fun k_ hk_ => ⟨Or.elim hk_ (fun hs_ => hs_.1.1.1) (fun hn_ => (.inr (Nat.le_trans (below_size (hB_ HB)) hn_))), Or.elim hk_ (fun hs_ => hs_.1.1.2) (fun hn_ => (fB_ BK170 k_ hn_)), Or.elim hk_ (fun hs_ => hs_.1.2) (fun hn_ => (fB_ BK171 k_ hn_)), Or.elim hk_ (fun hs_ => hs_.2) (fun hn_ => (fB_ BK172 k_ hn_))⟩)) (below_size (hB_ HB)))
  have n2_ := bB_ BK170 hb
  have n3_ := bB_ BK171 hb
  have n4_ := bB_ BK172 hb
  have n5_ := Aside0.mk (below_step (hB_ HB) hb)
  clear HO1
  clear BK170
  clear BK171
  clear BK172
  clear HB
  have HO1 := n0_
  have HO186 := n1_
  have BK170 := n2_
  have BK171 := n3_
  have BK172 := n4_
  have HB := n5_
  clear n0_ n1_ n2_ n3_ n4_ n5_
  (try clear hb)
  (try clear hb2)
  (try clear hk)
  (try clear hi)
  (try clear ho0)
  refine hK.out _ _ ⟨(blk_cell BK171.out 0).trans rfl, (blk_cell BK171.out 1).trans rfl, (blk_cell BK171.out 2).trans rfl⟩ (fun hHeld => ?_)
  clear hK K
  refine norm_ (a' := ?_) ?_ ?_
  rotate_left
  ·show Act.put _ (some 20) _ = _
   simp only [Act.put, List.setIfInBounds_toArray, List.set_cons_zero, List.set_cons_succ, i64_w, i32_w]
   rfl
  refine pu_ (i := 6) (N := some 6) (tf 8 127) HT_ ?_
  refine one_ (i := 7) (N := none) (tf 8 255) rfl rfl (one_of HT_.out (by kernel_rfl)) (by decide) (fun K hK => ?_)
  have hs33 : w32.cell? ⟨gb172, 0, none⟩ = some (.int .i64 0) := (blk_cell BK172.out 0).trans rfl
  have hfs33 := blk_frozen BK172.out 0
  have hns33_0 := NB170_172.out
  have hns33_1 := NB171_172.out
  have hms33_0 := NB172_170.out
  have hms33_1 := NB172_171.out
  have hs34 : w32.cell? ⟨gb172, 1, none⟩ = some (.int .u32 0) := (blk_cell BK172.out 1).trans rfl
  have hfs34 := blk_frozen BK172.out 1
  have hns34_0 := NB170_172.out
  have hns34_1 := NB171_172.out
  have hms34_0 := NB172_170.out
  have hms34_1 := NB172_171.out
  have hs35 : w32.cell? ⟨gb172, 2, none⟩ = some (.bool false) := (blk_cell BK172.out 2).trans rfl
  have hfs35 := blk_frozen BK172.out 2
  have hns35_0 := NB170_172.out
  have hns35_1 := NB171_172.out
  have hms35_0 := NB172_170.out
  have hms35_1 := NB172_171.out
  have hs36 : w32.cell? ⟨gb172, 3, none⟩ = some (.slice none 0 0) := (blk_cell BK172.out 3).trans rfl
  have hfs36 := blk_frozen BK172.out 3
  have hns36_0 := NB170_172.out
  have hns36_1 := NB171_172.out
  have hms36_0 := NB172_170.out
  have hms36_1 := NB172_171.out
  have hs37 : w32.cell? ⟨gb172, 4, none⟩ = some (.slice none 0 0) := (blk_cell BK172.out 4).trans rfl
  have hfs37 := blk_frozen BK172.out 4
  have hns37_0 := NB170_172.out
  have hns37_1 := NB171_172.out
  have hms37_0 := NB172_170.out
  have hms37_1 := NB172_171.out
  refine skip_ (w1 := ?_) (by rfl) rfl ?_ ?_
  rotate_left
  ·go_simp
   rfl
  refine hK.out _ _ ⟨((cell_far (p := ⟨gb172, _, none⟩) NB171_172.out _).trans (((cell_far (p := ⟨gb172, _, none⟩) NB171_172.out _).trans (((cell_far (p := ⟨gb172, _, none⟩) NB171_172.out _).trans (((cell_far (p := ⟨gb172, _, none⟩) NB171_172.out _).trans (((cell_far (p := ⟨gb172, _, none⟩) NB171_172.out _).trans (hHeld.1)))))))))), ((cell_far (p := ⟨gb172, _, none⟩) NB171_172.out _).trans (((cell_far (p := ⟨gb172, _, none⟩) NB171_172.out _).trans (((cell_far (p := ⟨gb172, _, none⟩) NB171_172.out _).trans (((cell_far (p := ⟨gb172, _, none⟩) NB171_172.out _).trans (((cell_far (p := ⟨gb172, _, none⟩) NB171_172.out _).trans (hHeld.2.1)))))))))), ((cell_far (p := ⟨gb172, _, none⟩) NB171_172.out _).trans (((cell_far (p := ⟨gb172, _, none⟩) NB171_172.out _).trans (((cell_far (p := ⟨gb172, _, none⟩) NB171_172.out _).trans (((cell_far (p := ⟨gb172, _, none⟩) NB171_172.out _).trans (((cell_far (p := ⟨gb172, _, none⟩) NB171_172.out _).trans (hHeld.2.2))))))))))⟩ (fun hHeld => ?_)
  clear hK K
  refine done_ (done_of HT_.out (by kernel_rfl)) ?_
  try go_wp2
  refine bodyPost_ret (results_tc rfl _ _ gb172 34 #[.int .i64 0, .int .u32 a2_1, .bool false, .slice none 0 0, .slice none 0 0] (0, 0) _ rfl (by (with_reducible repeat (first | refine blk_drewN ?_ _ | refine blk_drew ?_ | refine blk_alloc ?_ _)); refine blk_put (cs := #[.int .i64 0, .int .u32 a2_1, .bool false, .slice none 0 0, .slice none 0 0]) ?_ 4 _ rfl; refine blk_put (cs := #[.int .i64 0, .int .u32 a2_1, .bool false, .slice none 0 0, .slice none 0 0]) ?_ 3 _ rfl; refine blk_put (cs := #[.int .i64 0, .int .u32 a2_1, .bool false, .slice none 0 0, .slice none 0 0]) ?_ 2 _ rfl; refine blk_put (cs := #[.int .i64 0, .int .u32 0, .bool false, .slice none 0 0, .slice none 0 0]) ?_ 1 _ rfl; refine blk_put (cs := #[.int .i64 0, .int .u32 0, .bool false, .slice none 0 0, .slice none 0 0]) ?_ 0 _ rfl; (with_reducible repeat (first | refine blk_drewN ?_ _ | refine blk_drew ?_ | refine blk_alloc ?_ _)); exact BK172.out) Tryd.underlying34 rfl (by kernel_rfl)) rfl ?_
  exact ⟨_, _, _, er_, by (with_reducible repeat (first | apply Kd.V_alloc | apply Kd.V_drewN | apply Kd.V_drew)); exact Kd.V_mono (vF5_ (g := gb172) (Kd.V_mono HO186.out (fun k_ hk => (⟨hk, hk.2.2.2⟩ : _ ∧ k_ ≠ gb172))) (fun _ hk => hk.2)) (fun _ hk => ⟨hk.1.1, ⟨(by simp [Value.ownBlock]), (by simp [Value.ownBlock])⟩⟩), by first | exact Kd.R_nil _ _ _ _ _ | exact Kd.N_nil _ _ _ _ _ | exact Kd.V_nil _ _ _ _ _ | exact Kd.Q_nil _ _ _ _ _ | exact Kd.S_nil _ _ _ _ _, by first | exact Kd.R_nil _ _ _ _ _ | exact Kd.N_nil _ _ _ _ _ | exact Kd.V_nil _ _ _ _ _ | exact Kd.Q_nil _ _ _ _ _ | exact Kd.S_nil _ _ _ _ _, hB_ HB⟩

/-! ### model_Without: function 83 -/
def model_Without.f (k : Nat) (l0 : List Int) (a1 : Int) : Option (List Int) := (slices_BinarySearch_int_int.f k l0 a1).bind fun bt138 => (if bt138.2 = true then (if 0 ≤ bt138.1 then (if bt138.1 ≤ (l0.length : Int) then ((some (l0.take (bt138.1 : Int).toNat : List Int)).bind fun y140 => (if 0 ≤ (wrap64 (bt138.1 + 1)) then (if (wrap64 (bt138.1 + 1)) ≤ (l0.length : Int) then ((some (l0.drop ((wrap64 (bt138.1 + 1)) : Int).toNat : List Int)).bind fun y143 => (if y140.length + y143.length < 17592186044416 then (some (y140 ++ y143)) else (none))) else (none)) else (none))) else (none)) else (none)) else (some l0))
theorem model_Without.mono : ∀ a0 a1 k, LeO (model_Without.f k a0 a1) (model_Without.f (k + 1) a0 a1) := by
 intro a0 a1 k
 unfold model_Without.f
 repeat' first
   | (with_reducible exact slices_BinarySearch_int_int.mono _ _ _)
   | (with_reducible exact LeO.refl _)
   | (with_reducible exact LeO.none _)
   | (with_reducible refine LeO.ite ?_ ?_)
   | (with_reducible refine LeO.bind ?_ (fun _ => ?_))
   | exact slices_BinarySearch_int_int.mono _ _ _
   | exact LeO.none _
   | refine LeO.ite ?_ ?_
   | refine LeO.bind ?_ (fun _ => ?_)
def model_Without.T4 : Bool × List (List Nat × List Nat) := (true, [([], []), ([], []), ([], []), ([0, 1, 2], [0, 1, 2]), ([], []), ([], []), ([5], [5]), ([4, 6], [4, 6]), ([3, 7], [3, 7]), ([8, 8, 0, 1, 2, 3, 4, 5, 6, 7, 8], [8])])
def model_Without.B4 : List Nat := [0, 0, 0, 7, 0, 0, 32, 112, 255, 511]
theorem model_Without.tab4 : rtab .any (opsOf Tryd.f83 4) = model_Without.T4 := by kernel_rfl
theorem model_Without.bits4 : waitsOk model_Without.T4.2 model_Without.B4 = true := by kernel_rfl
set_option maxHeartbeats 8000000 in
set_option maxRecDepth 100000 in
theorem model_Without.calls (k : Nat) (P0_ : Nat → Prop) (A0 : Option Addr) (c0 : Nat) (l0 : List Int) (a1 : Int) (r : List Int) (w : World) (hs0 : Kd.V (Kd.int .i64) 3 w w.heap.size (fun k_ => P0_ k_) (.slice A0 l0.length c0) l0) (h : model_Without.f k l0 a1 = some r) :
  Calls Tryd.prog 83 #[.slice A0 l0.length c0, .int .i64 a1] w fun e w' => ∃ v0_ : Value, e = .returned (v0_) ∧ Kd.V (Kd.int .i64) 3 w' w.heap.size (fun k_ => (P0_ k_ ∨ w.heap.size ≤ k_)) v0_ r ∧ Below w.heap.size w w' := by
 have HO0 := Aside0.mk (show Kd.V (Kd.int .i64) 3 w w.heap.size (fun k_ => (P0_ k_ ∨ w.heap.size ≤ k_)) (.slice A0 l0.length c0) l0 from Kd.V_mono hs0 (fun k_ hk => .inl hk))
 have HB := Aside0.mk (Below.refl w.heap.size w)
 have H : ((slices_BinarySearch_int_int.f k l0 a1).bind fun bt138 => (if bt138.2 = true then (if 0 ≤ bt138.1 then (if bt138.1 ≤ (l0.length : Int) then ((some (l0.take (bt138.1 : Int).toNat : List Int)).bind fun y140 => (if 0 ≤ (wrap64 (bt138.1 + 1)) then (if (wrap64 (bt138.1 + 1)) ≤ (l0.length : Int) then ((some (l0.drop ((wrap64 (bt138.1 + 1)) : Int).toNat : List Int)).bind fun y143 => (if y140.length + y143.length < 17592186044416 then (some (y140 ++ y143)) else (none))) else (none)) else (none))) else (none)) else (none)) else (some l0))) = some r := h
 clear h
 replace H := Option.bind_eq_some_iff.mp H
 obtain ⟨⟨t138, t139⟩, A30, H⟩ := H
 replace H : (if t139 = true then (if 0 ≤ t138 then (if t138 ≤ (l0.length : Int) then ((some (l0.take (t138 : Int).toNat : List Int)).bind fun y140 => (if 0 ≤ (wrap64 (t138 + 1)) then (if (wrap64 (t138 + 1)) ≤ (l0.length : Int) then ((some (l0.drop ((wrap64 (t138 + 1)) : Int).toNat : List Int)).bind fun y143 => (if y140.length + y143.length < 17592186044416 then (some (y140 ++ y143)) else (none))) else (none)) else (none))) else (none)) else (none)) else (some l0)) = some r := H
 have A3 := Aside0.mk A30
 clear A30
 by_cases c4 : t139 = true
 ·subst c4
  have H1 : (if 0 ≤ t138 then (if t138 ≤ (l0.length : Int) then ((some (l0.take (t138 : Int).toNat : List Int)).bind fun y140 => (if 0 ≤ (wrap64 (t138 + 1)) then (if (wrap64 (t138 + 1)) ≤ (l0.length : Int) then ((some (l0.drop ((wrap64 (t138 + 1)) : Int).toNat : List Int)).bind fun y143 => (if y140.length + y143.length < 17592186044416 then (some (y140 ++ y143)) else (none))) else (none)) else (none))) else (none)) else (none)) = some r := by rw [if_pos rfl] at H; exact H
  clear H
  have H := H1
  clear H1
  by_cases c5 : 0 ≤ t138
  ·rw [if_pos c5] at H
   have c5b0 := eq_true c5
   have c5b1 : decide (0 ≤ t138) = true := decide_eq_true c5
   clear c5
   by_cases c6 : t138 ≤ (l0.length : Int)
   ·rw [if_pos c6] at H
    have c6b0 := eq_true c6
    have c6b1 : decide (t138 ≤ (l0.length : Int)) = true := decide_eq_true c6
    clear c6
    obtain ⟨y140, hy140⟩ : ∃ y_ : List Int, y_ = (l0.take (t138 : Int).toNat) := ⟨_, rfl⟩
    replace H : (if 0 ≤ (wrap64 (t138 + 1)) then (if (wrap64 (t138 + 1)) ≤ (l0.length : Int) then ((some (l0.drop ((wrap64 (t138 + 1)) : Int).toNat : List Int)).bind fun y143 => (if y140.length + y143.length < 17592186044416 then (some (y140 ++ y143)) else (none))) else (none)) else (none)) = some r := by first | (rw [hy140]; with_reducible exact H) | (have H2_ := (Option.bind_some _ _).symm.trans H; rw [hy140]; with_reducible exact H2_) | (have H2_ := (Option.bind_some _ _).symm.trans H; with_reducible exact H2_) | with_reducible exact H | (rw [hy140]; exact H) | exact H
    have Ny140 := Aside0.mk hy140
    clear hy140
    obtain ⟨ji7, hji7⟩ : ∃ j_ : Int, (wrap64 (t138 + 1)) = j_ := ⟨_, rfl⟩
    replace H : (if 0 ≤ (ji7) then (if (ji7) ≤ (l0.length : Int) then ((some (l0.drop ((ji7) : Int).toNat : List Int)).bind fun y143 => (if y140.length + y143.length < 17592186044416 then (some (y140 ++ y143)) else (none))) else (none)) else (none)) = some r := by first | (rw [hji7] at H; exact H) | (simp only [hji7] at H ⊢; exact H)
    (try rw [hji7] at A3)
    have hji7w : (IntKind.i64.wrap (t138 + 1)) = ji7 := (i64_w _).trans hji7
    by_cases c8 : 0 ≤ (ji7)
    ·rw [if_pos c8] at H
     have c8b0 := eq_true c8
     have c8b1 : decide (0 ≤ (ji7)) = true := decide_eq_true c8
     clear c8
     by_cases c9 : (ji7) ≤ (l0.length : Int)
     ·rw [if_pos c9] at H
      have c9b0 := eq_true c9
      have c9b1 : decide ((ji7) ≤ (l0.length : Int)) = true := decide_eq_true c9
      clear c9
      obtain ⟨y143, hy143⟩ : ∃ y_ : List Int, y_ = (l0.drop ((ji7) : Int).toNat) := ⟨_, rfl⟩
      replace H : (if y140.length + y143.length < 17592186044416 then (some (y140 ++ y143)) else (none)) = some r := by first | (rw [hy143]; with_reducible exact H) | (have H2_ := (Option.bind_some _ _).symm.trans H; rw [hy143]; with_reducible exact H2_) | (have H2_ := (Option.bind_some _ _).symm.trans H; with_reducible exact H2_) | with_reducible exact H | (rw [hy143]; exact H) | exact H
      have Ny143 := Aside0.mk hy143
      clear hy143
      by_cases c10 : y140.length + y143.length < 17592186044416
      ·rw [if_pos c10] at H
       have LMc10 := Aside0.mk c10
       clear c10
       obtain ⟨y148, hy148⟩ : ∃ y_ : List Int, y_ = (y140 ++ y143) := ⟨_, rfl⟩
       replace H : (some y148) = some r := by first | (rw [hy148]; with_reducible exact H) | (have H2_ := (Option.bind_some _ _).symm.trans H; rw [hy148]; with_reducible exact H2_) | (have H2_ := (Option.bind_some _ _).symm.trans H; with_reducible exact H2_) | with_reducible exact H | (rw [hy148]; exact H) | exact H
       have Ny148 := Aside0.mk hy148
       clear hy148
       obtain rfl := Option.some.inj H
       go_enter Tryd.func83, Tryd.ntmps83
       try go_wp2_with (first | ((with_reducible refine gate_callee (f := 50) rfl ?_); refine goesL_ (some 10) rfl rfl Tryd.func50 (by kernel_rfl) rfl #[.slice A0 l0.length c0, .int .i64 a1] rfl am_ ?_; (with_reducible refine (slices_BinarySearch_int_int.calls k _ _ l0 a1 t138 true _ ?side1 ?side2 A3.out).mono ?_); (case side1 => repeat (first | exact (Kd.V_reads' HO0.out).2.2 | (with_reducible refine Kd.C_alloc ?_ _) | (with_reducible refine Kd.C_drewN ?_ _) | (with_reducible refine Kd.C_drew ?_))); (case side2 => exact (Kd.V_reads' HO0.out).2.1); rintro e w' ⟨rfl, ⟨nd, rfl⟩⟩; refine ⟨_, rfl, ?_⟩))
       generalize hq_ : World.drewN w _ = wz
       have n0_ := Aside0.mk (Kd.V_drew (V_atq hq_ HO0.out))
       have n1_ := Aside0.mk (below_drew1 (below_at hq_ HB.out))
       clear HO0
       clear HB
       have HO0 := n0_
       have HB := n1_
       clear n0_ n1_ hq_
       have q12 : (t138 : Int) ≤ ((l0.length : Int) : Int) := od_
       have q012 : (0 : Int) ≤ (t138 : Int) := od_
       obtain ⟨i012, hi012, _, hsz12, _⟩ := info_parts (P := Tryd.prog) (e := 3) (z := .int .i64 0) (size := 1) (bytes := 8) (by kernel_rfl)
       have hroom12 : l0.length ≤ c0 := (Kd.V_reads' HO0.out).2.1
       have hcut12 := cut_fullh (P := Tryd.prog) 25 3 Tryd.underlying25 hi012 A0 l0.length c0 t138 q012 q12 hroom12
       have hy12 : y140.length = (t138 : Int).toNat := (by rw [Ny140.out, List.length_take]; omega)
       rw [← hy12] at hcut12
       have HL12 := Aside0.mk (show (t138 : Int).toNat ≤ l0.length from by omega)
       clear hi012 hsz12 hroom12
       have KY12 := Aside0.mk hy12
       clear hy12
       replace q12 := eq_true q12
       replace q012 := eq_true q012
       have q13 : ((ji7) : Int) ≤ ((l0.length : Int) : Int) := od_
       obtain ⟨i013, hi013, _, hsz13, _⟩ := info_parts (P := Tryd.prog) (e := 3) (z := .int .i64 0) (size := 1) (bytes := 8) (by kernel_rfl)
       have hroom13 : l0.length ≤ c0 := (Kd.V_reads' HO0.out).2.1
       have hC13 : Kd.F (Kd.int .i64) _ _ A0 l0.length l0 := (Kd.V_at (base := w.heap.size) HO0.out).2.2
       have q013 : (0 : Int) ≤ ((ji7) : Int) := od_
       have hcut13 := cut_from (P := Tryd.prog) 25 3 .i64 Tryd.underlying25 hi013 1 hsz13 A0 l0.length c0 (ji7) q013 q13
       have hr13 := Kd.F_cut (m := ((ji7) : Int).toNat) (c := c0) hC13 (by omega) hroom13
       obtain ⟨A13, hA13⟩ : ∃ A1, A1 = (if c0 = ((ji7) : Int).toNat then A0 else (A0 : Option Addr).map (·.add (((ji7) : Int).toNat * 1))) := ⟨_, rfl⟩
       obtain ⟨c13, hc13⟩ : ∃ c1, c1 = c0 - ((ji7) : Int).toNat := ⟨_, rfl⟩
       have hy13 : y143.length = l0.length - ((ji7) : Int).toNat := (by rw [Ny143.out, List.length_drop] <;> omega)
       rw [show (l0).drop ((ji7) : Int).toNat = y143 from Ny143.out.symm] at hr13
       replace hr13 : Kd.F (Kd.int .i64) _ _ A13 y143.length y143 := (by rw [hA13]; exact hr13)
       rw [← hy13, ← hA13, ← hc13] at hcut13
       have HO147 := Aside0.mk (show Kd.V (Kd.int .i64) 3 _ w.heap.size _ (.slice A13 y143.length c13) y143 from Kd.V_mk (by rw [hy13, hc13]; exact Nat.sub_le_sub_right hroom13 _) hr13)
       have HC147 := Aside0.mk (show y143.length ≤ c13 from by rw [hy13, hc13]; exact Nat.sub_le_sub_right hroom13 _)
       clear hr13 hC13 hroom13 hi013 hsz13 hc13
       have KY13 := Aside0.mk hy13
       have KA13 := Aside0.mk hA13
       clear hy13 hA13
       replace q13 := eq_true q13
       refine start_ (n := 10) (S := fun w' => True) (ds := []) (tf 10 0) (by kernel_rfl) rfl rfl trivial (fun hHeld => ?_); refine with_tabW model_Without.tab4 model_Without.bits4 (fun HT_ HW_ => ?_)
       generalize wz.drew = w11 at HO0 HB HO147 hHeld ⊢
       refine pu_ (i := 0) (N := some 16) (tf 10 1) HT_ ?_
       refine pu_ (i := 1) (N := some 17) (tf 10 3) HT_ ?_
       refine pu_ (i := 2) (N := some 18) (tf 10 7) HT_ ?_
       refine pu_ (i := 3) (N := some 19) (tf 10 15) HT_ ?_
       refine pu_ (i := 4) (N := some 20) (tf 10 31) HT_ ?_
       refine pu_ (i := 5) (N := some 21) (tf 10 63) HT_ ?_
       refine pu_ (i := 6) (N := some 22) (tf 10 127) HT_ ?_
       refine pu_ (i := 7) (N := some 23) (tf 10 255) HT_ ?_
       refine one_ (i := 8) (N := some 24) (tf 10 511) rfl rfl (one_of HT_.out (by kernel_rfl)) (by decide) (fun K hK => ?_)
       have HV_ := Aside0.mk (show Kd.V (Kd.int .i64) 3 w11 w.heap.size (fun k_ => (P0_ k_ ∨ w.heap.size ≤ k_)) (.slice A0 y140.length y140.length) y140 from Kd.V_mk (Nat.le_refl _) (by
        have hF_ := Kd.F_take (m := (t138 : Int).toNat) (Kd.V_at (base := w.heap.size) HO0.out).2.2 HL12.out
        rw [← Ny140.out] at hF_
        exact hF_))
       refine V_append_rows_full_step .i64 (w0 := w) w.heap.size (by rfl) (.tmp 19) (.tmp 23) 25 3 (.int .i64 0) 8 rfl Tryd.underlying25 (by kernel_rfl) rfl (by omega) A0 y140 A13 y143 c13 (fun k_ => (P0_ k_ ∨ w.heap.size ≤ k_)) rfl rfl HV_.out (Kd.V_reads' HO147.out).2.2 (fun k hk => .inr (Nat.le_trans (below_size HB.out) hk)) HB.out (below_size HB.out) (by have := LMc10.out; omega) ?_
       intro v149 w14 ho hb
       rw [← Ny148.out] at ho
       clear HO0 HO147 HB HV_
       have HB := Aside0.mk hb
       have HO150 := Aside0.mk ho
       clear ho hb
       refine hK.out _ _ trivial (fun hHeld => ?_)
       clear hK K
       refine norm_ (a' := ?_) ?_ ?_
       rotate_left
       ·show Act.put _ (some 24) _ = _
        simp only [Act.put, List.setIfInBounds_toArray, List.set_cons_zero, List.set_cons_succ, i64_w, i32_w]
        rfl
       refine pu_ (i := 9) (N := some 4) (tf 10 1023) HT_ ?_
       refine done_ (done_of HT_.out (by kernel_rfl)) ?_
       try go_wp2
       go_ret
       exact ⟨_, by first | rfl | (simp [errW_none, errW_some] <;> rfl) | (simp only [← hji7]; first | rfl | (simp [errW_none, errW_some] <;> rfl)) | (simp [*, errW_none, errW_some] <;> rfl), (vV_ HO150), hB_ HB⟩
      ·rw [if_neg c10] at H
       exact absurd H (by simp)
     ·rw [if_neg c9] at H
      exact absurd H (by simp)
    ·rw [if_neg c8] at H
     exact absurd H (by simp)
   ·rw [if_neg c6] at H
    exact absurd H (by simp)
  ·rw [if_neg c5] at H
   exact absurd H (by simp)
 ·replace c4 := Bool.eq_false_iff.mpr c4
  subst c4
  have H1 : (some l0) = some r := by rw [if_neg (show ¬ (false = true) by decide)] at H; exact H
  clear H
  have H := H1
  clear H1
  obtain rfl := Option.some.inj H
  go_enter Tryd.func83, Tryd.ntmps83
  go_wp2_with (first | ((with_reducible refine gate_callee (f := 50) rfl ?_); refine goesL_ (some 10) rfl rfl Tryd.func50 (by kernel_rfl) rfl #[.slice A0 l0.length c0, .int .i64 a1] rfl am_ ?_; (with_reducible refine (slices_BinarySearch_int_int.calls k _ _ l0 a1 t138 false _ ?side1 ?side2 A3.out).mono ?_); (case side1 => repeat (first | exact (Kd.V_reads' HO0.out).2.2 | (with_reducible refine Kd.C_alloc ?_ _) | (with_reducible refine Kd.C_drewN ?_ _) | (with_reducible refine Kd.C_drew ?_))); (case side2 => exact (Kd.V_reads' HO0.out).2.1); rintro e w' ⟨rfl, ⟨nd, rfl⟩⟩; refine ⟨_, rfl, ?_⟩))
  go_ret
  exact ⟨_, er_, by (with_reducible repeat (first | apply Kd.V_alloc | apply Kd.V_drewN | apply Kd.V_drew)); exact HO0.out, hB_ HB⟩

/-! ### spec_release: function 76 -/
def spec_release.f (k : Nat) (a0_0 : Int) (a0_1 : Int) (l0_2 : List Int) (a0_3 : Int) (a0_4 : Int) (a0_5 : Int) (a0_6 : Int) (l1 : List Int) (a2_0 : Int) (a2_1 : Int) (l2_2 : List Int) : Option (List Int × Int × Int × Bool × List Int × List Int) := (spec_offset.f k a0_0 a0_1 l0_2 a0_3 a0_4 a0_5 a0_6 a2_1).bind fun t190 => ((model_Has.f k l1 t190).bind fun t191 => (if t191 = true then ((model_Without.f k l1 t190).bind fun t192 => (some (t192, 0, 0, false, ([] : List Int), ([] : List Int)))) else ((spec_fail.f 6).bind fun bt195 => (some (l1, bt195.1, bt195.2.1, bt195.2.2.1, bt195.2.2.2.1, bt195.2.2.2.2)))))
theorem spec_release.mono : ∀ a0 a1 a2 a3 a4 a5 a6 a7 a8 a9 a10 k, LeO (spec_release.f k a0 a1 a2 a3 a4 a5 a6 a7 a8 a9 a10) (spec_release.f (k + 1) a0 a1 a2 a3 a4 a5 a6 a7 a8 a9 a10) := by
 intro a0 a1 a2 a3 a4 a5 a6 a7 a8 a9 a10 k
 unfold spec_release.f
 repeat' first
   | (with_reducible exact model_Has.mono _ _ _)
   | (with_reducible exact model_Without.mono _ _ _)
   | (with_reducible exact spec_offset.mono _ _ _ _ _ _ _ _ _)
   | (with_reducible exact LeO.refl _)
   | (with_reducible exact LeO.none _)
   | (with_reducible refine LeO.ite ?_ ?_)
   | (with_reducible refine LeO.bind ?_ (fun _ => ?_))
   | exact model_Has.mono _ _ _
   | exact model_Without.mono _ _ _
   | exact spec_offset.mono _ _ _ _ _ _ _ _ _
   | exact LeO.none _
   | refine LeO.ite ?_ ?_
   | refine LeO.bind ?_ (fun _ => ?_)
set_option maxHeartbeats 8000000 in
set_option maxRecDepth 100000 in
theorem spec_release.calls (k : Nat) (a0_0 : Int) (a0_1 : Int) (A0_2 : Option Addr) (c0_2 : Nat) (l0_2 : List Int) (a0_3 : Int) (a0_4 : Int) (a0_5 : Int) (a0_6 : Int) (P1_ : Nat → Prop) (A1 : Option Addr) (c1 : Nat) (l1 : List Int) (a2_0 : Int) (a2_1 : Int) (A2_2 : Option Addr) (c2_2 : Nat) (l2_2 : List Int) (r1 : List Int) (r2 : Int) (r3 : Int) (r4 : Bool) (r5 : List Int) (r6 : List Int) (w : World) (hr0_2 : Kd.C (Kd.int .i64) w A0_2 l0_2.length l0_2) (hc0_2 : l0_2.length ≤ c0_2) (hs1 : Kd.V (Kd.int .i64) 3 w w.heap.size (fun k_ => P1_ k_) (.slice A1 l1.length c1) l1) (hr2_2 : Kd.C (Kd.int .u32) w A2_2 l2_2.length l2_2) (hc2_2 : l2_2.length ≤ c2_2) (h : spec_release.f k a0_0 a0_1 l0_2 a0_3 a0_4 a0_5 a0_6 l1 a2_0 a2_1 l2_2 = some (r1, r2, r3, r4, r5, r6)) :
  Calls Tryd.prog 76 #[.agg #[.int .u32 a0_0, .int .i64 a0_1, .slice A0_2 l0_2.length c0_2, .int .i64 a0_3, .int .i64 a0_4, .int .i64 a0_5, .int .i64 a0_6], .slice A1 l1.length c1, .agg #[.int .i64 a2_0, .int .u32 a2_1, .slice A2_2 l2_2.length c2_2]] w fun e w' => ∃ v0_ v4_ v5_ : Value, e = .returned (.tuple #[v0_, .agg #[.int .i64 r2, .int .u32 r3, .bool r4, v4_, v5_]]) ∧ Kd.V (Kd.int .i64) 3 w' w.heap.size (fun k_ => (P1_ k_ ∨ w.heap.size ≤ k_) ∧ some k_ ≠ (v4_ : Value).ownBlock ∧ some k_ ≠ (v5_ : Value).ownBlock) v0_ r1 ∧ Kd.R (Kd.int .u32) 22 w' w.heap.size (fun k_ => (w.heap.size ≤ k_)) v4_ r5 ∧ Kd.R (Kd.int .i64) 31 w' w.heap.size (fun k_ => (w.heap.size ≤ k_)) v5_ r6 ∧ Below w.heap.size w w' := by
 have hu27 := Tryd.underlying27
 have hu30 := Tryd.underlying30
 have hu34 := Tryd.underlying34
 have HR0_2 := Aside0.mk hr0_2
 have HC0_2 := Aside0.mk hc0_2
 clear hr0_2 hc0_2
 have HO1 := Aside0.mk (show Kd.V (Kd.int .i64) 3 w w.heap.size (fun k_ => (P1_ k_ ∨ w.heap.size ≤ k_)) (.slice A1 l1.length c1) l1 from Kd.V_mono hs1 (fun k_ hk => .inl hk))
 have HR2_2 := Aside0.mk hr2_2
 have HC2_2 := Aside0.mk hc2_2
 clear hr2_2 hc2_2
 have HB := Aside0.mk (Below.refl w.heap.size w)
 have H : ((spec_offset.f k a0_0 a0_1 l0_2 a0_3 a0_4 a0_5 a0_6 a2_1).bind fun t190 => ((model_Has.f k l1 t190).bind fun t191 => (if t191 = true then ((model_Without.f k l1 t190).bind fun t192 => (some (t192, 0, 0, false, ([] : List Int), ([] : List Int)))) else ((spec_fail.f 6).bind fun bt195 => (some (l1, bt195.1, bt195.2.1, bt195.2.2.1, bt195.2.2.2.1, bt195.2.2.2.2)))))) = some (r1, r2, r3, r4, r5, r6) := h
 clear h
 replace H := Option.bind_eq_some_iff.mp H
 obtain ⟨t190, A40, H⟩ := H
 replace H : ((model_Has.f k l1 t190).bind fun t191 => (if t191 = true then ((model_Without.f k l1 t190).bind fun t192 => (some (t192, 0, 0, false, ([] : List Int), ([] : List Int)))) else ((spec_fail.f 6).bind fun bt195 => (some (l1, bt195.1, bt195.2.1, bt195.2.2.1, bt195.2.2.2.1, bt195.2.2.2.2))))) = some (r1, r2, r3, r4, r5, r6) := H
 have A4 := Aside0.mk A40
 clear A40
 replace H := Option.bind_eq_some_iff.mp H
 obtain ⟨t191, A50, H⟩ := H
 replace H : (if t191 = true then ((model_Without.f k l1 t190).bind fun t192 => (some (t192, 0, 0, false, ([] : List Int), ([] : List Int)))) else ((spec_fail.f 6).bind fun bt195 => (some (l1, bt195.1, bt195.2.1, bt195.2.2.1, bt195.2.2.2.1, bt195.2.2.2.2)))) = some (r1, r2, r3, r4, r5, r6) := H
 have A5 := Aside0.mk A50
 clear A50
 by_cases c6 : t191 = true
 ·subst c6
  have H1 : ((model_Without.f k l1 t190).bind fun t192 => (some (t192, 0, 0, false, ([] : List Int), ([] : List Int)))) = some (r1, r2, r3, r4, r5, r6) := by rw [if_pos rfl] at H; exact H
  clear H
  have H := H1
  clear H1
  replace H := Option.bind_eq_some_iff.mp H
  obtain ⟨t192, A70, H⟩ := H
  replace H : (some (t192, 0, 0, false, ([] : List Int), ([] : List Int))) = some (r1, r2, r3, r4, r5, r6) := H
  have A7 := Aside0.mk A70
  clear A70
  simp only [Option.some.injEq, Prod.mk.injEq] at H
  obtain ⟨rfl, rfl, rfl, rfl, rfl, rfl⟩ := H
  go_enter Tryd.func76, Tryd.ntmps76
  go_wp2_with (first | ((with_reducible refine gate_dst (N := 3) rfl ?_); refine box_event ?hg (N := 3) ?hd (cs := #[.int .u32 a0_0, .int .i64 a0_1, .slice A0_2 l0_2.length c0_2, .int .i64 a0_3, .int .i64 a0_4, .int .i64 a0_5, .int .i64 a0_6]) (t := 27) ?hr ?_; (case hd => rfl); (case hg => rfl); (case hr => first | (go_simp; done) | (go_simp; rfl)); intro gb187 hg w8 hbox hb; have n0_ := Aside0.mk (Kd.V_below (Kd.V_elderB (vV_ HO1) gb187 (Nat.le_of_eq hg.symm)) hb); have n2_ := Aside0.mk (hbox); have n3_ := gG_ (w := w) hg HB; have n4_ := gG_ (w := w) hg HB; clear HO1; have HO1 := n0_; have BK187 := n2_; have GW187 := n3_; have GE187 := n4_; replace HB := hS_ HB hb; clear n0_ n2_ n3_ n4_; clear hb hbox hg) | ((with_reducible refine gate_dst (N := 5) rfl ?_); refine box_event ?hg (N := 5) ?hd (cs := #[.int .i64 a2_0, .int .u32 a2_1, .slice A2_2 l2_2.length c2_2]) (t := 30) ?hr ?_; (case hd => rfl); (case hg => rfl); (case hr => first | (go_simp; done) | (go_simp; rfl)); intro gb188 hg w9 hbox hb; have n0_ := Aside0.mk (Kd.V_below (Kd.V_elderB (vV_ HO1) gb188 (Nat.le_of_eq hg.symm)) hb); have n2_ := Aside0.mk (below_step (hB_ HB) hb); have n3_ := Aside0.mk (hbox); have n4_ := gG_ (w := w) hg HB; have n5_ := gG_ (w := w) hg HB; have n6_ := nL_ hg BK187; have n7_ := nG_ hg BK187; clear HO1; clear HB; have HO1 := n0_; have HB := n2_; have BK188 := n3_; have GW188 := n4_; have GE188 := n5_; have NB187_188 := n6_; have NB188_187 := n7_; replace BK187 := bB_ BK187 hb; clear n0_ n2_ n3_ n4_ n5_ n6_ n7_; clear hb hbox hg) | ((with_reducible refine gate_dst (N := 7) rfl ?_); refine box_event ?hg (N := 7) ?hd (cs := #[.int .i64 0, .int .u32 0, .bool false, .slice none 0 0, .slice none 0 0]) (t := 34) ?hr ?_; (case hd => rfl); (case hg => rfl); (case hr => first | (go_simp; done) | (go_simp; rfl)); intro gb189 hg w10 hbox hb; have n0_ := Aside0.mk (Kd.V_below (Kd.V_elderB (vV_ HO1) gb189 (Nat.le_of_eq hg.symm)) hb); have n2_ := bB_ BK188 hb; have n4_ := Aside0.mk (hbox); have n5_ := gG_ (w := w) hg HB; have n6_ := gG_ (w := w) hg HB; have n7_ := nL_ hg BK187; have n8_ := nG_ hg BK187; have n9_ := nL_ hg BK188; have n10_ := nG_ hg BK188; clear HO1; clear BK188; have HO1 := n0_; have BK188 := n2_; have BK189 := n4_; have GW189 := n5_; have GE189 := n6_; have NB187_189 := n7_; have NB189_187 := n8_; have NB188_189 := n9_; have NB189_188 := n10_; replace BK187 := bB_ BK187 hb; replace HB := hS_ HB hb; clear n0_ n2_ n4_ n5_ n6_ n7_ n8_ n9_ n10_; clear hb hbox hg; have hnb11 := NB187_188.out; have hnc11 := NB188_187.out; have hnb12 := NB187_189.out; have hnc12 := NB189_187.out; obtain ⟨hcz13_0, hcz13_1, hcz13_2, hcz13_3, hcz13_4, hcz13_5, hcz13_6, hfz13_0, hfz13_1, hfz13_2, hfz13_3, hfz13_4, hfz13_5, hfz13_6⟩ := cz7_ (w := w10) BK187; have hnb14 := NB188_189.out; have hnc14 := NB189_188.out; obtain ⟨hcz15_0, hcz15_1, hcz15_2, hfz15_0, hfz15_1, hfz15_2⟩ := cz3_ (w := w10) BK188) | ((with_reducible refine gate_callee (f := 82) rfl ?_); refine goesL_ (some 12) rfl rfl Tryd.func82 (by kernel_rfl) rfl #[.agg #[.int .u32 a0_0, .int .i64 a0_1, .slice A0_2 l0_2.length c0_2, .int .i64 a0_3, .int .i64 a0_4, .int .i64 a0_5, .int .i64 a0_6], .int .u32 a2_1] rfl am_ ?_; (with_reducible refine (spec_offset.calls k a0_0 a0_1 _ _ l0_2 a0_3 a0_4 a0_5 a0_6 a2_1 t190 _ ?side1 ?side2 A4.out).mono ?_); (case side1 => exact cC_ HR0_2 HB); (case side2 => exact HC0_2.out); rintro e w16 ⟨rfl, hb⟩; refine ⟨_, rfl, ?_⟩; have n0_ := Aside0.mk (Kd.V_below (vV_ HO1) hb); have n2_ := bB_ BK188 hb; have n4_ := Aside0.mk (below_step (hB_ HB) hb); clear HO1; clear BK188; clear HB; have HO1 := n0_; have BK188 := n2_; have HB := n4_; replace BK187 := bB_ BK187 hb; replace BK189 := bB_ BK189 hb; clear n0_ n2_ n4_; (try clear hb); (try clear hb2); (try clear hk); (try clear hi)) | ((with_reducible refine gate_callee (f := 34) rfl ?_); refine goesL_ (some 15) rfl rfl Tryd.func34 (by kernel_rfl) rfl #[.slice A1 l1.length c1, .int .i64 t190] rfl am_ ?_; (with_reducible refine (model_Has.calls k _ _ l1 t190 true _ ?side1 ?side2 A5.out).mono ?_); (case side1 => repeat (first | exact (Kd.V_reads' HO1.out).2.2 | (with_reducible refine Kd.C_alloc ?_ _) | (with_reducible refine Kd.C_drewN ?_ _) | (with_reducible refine Kd.C_drew ?_))); (case side2 => exact (Kd.V_reads' HO1.out).2.1); rintro e w' ⟨rfl, ⟨nd, rfl⟩⟩; refine ⟨_, rfl, ?_⟩; (try (rw [drewN_self w16]; generalize hq_ : World.drewN w16 _ = w16; have n0_ := Aside0.mk (V_atq hq_ HO1.out); have n1_ := Aside0.mk (blk_at hq_ BK187.out); have n2_ := Aside0.mk (blk_at hq_ BK188.out); have n3_ := Aside0.mk (blk_at hq_ BK189.out); have n4_ := Aside0.mk (below_at hq_ HB.out); clear hq_ HO1 BK187 BK188 BK189 HB; have HO1 := n0_; have BK187 := n1_; have BK188 := n2_; have BK189 := n3_; have HB := n4_; clear n0_ n1_ n2_ n3_ n4_))) | ((with_reducible refine gate_callee (f := 83) rfl ?_); refine goesL_ (some 21) rfl rfl Tryd.func83 (by kernel_rfl) rfl #[.slice A1 l1.length c1, .int .i64 t190] rfl am_ ?_; (with_reducible refine (model_Without.calls k (fun k_ => ((((P1_ k_ ∨ w.heap.size ≤ k_) ∧ k_ ≠ gb187) ∧ k_ ≠ gb188) ∧ k_ ≠ gb189)) _ _ l1 t190 t192 _ ?side1 A7.out).mono ?_); (case side1 => exact HO1.out); rintro e w17 ⟨v193, rfl, ho0, hb⟩; refine ⟨_, rfl, ?_⟩; have n0_ := Aside0.mk (Kd.V_below (vV_ HO1) hb); have n1_ := Aside0.mk (Kd.V_lower (Kd.V_mono (ok' := fun k_ => (P1_ k_ ∨ w.heap.size ≤ k_) ∧ k_ ≠ gb187 ∧ k_ ≠ gb188 ∧ k_ ≠ gb189) ho0 (fun k_ hk_ => ⟨Or.elim hk_ (fun hs_ => hs_.1.1.1) (fun hn_ => (.inr (Nat.le_trans (below_size (hB_ HB)) hn_))), Or.elim hk_ (fun hs_ => hs_.1.1.2) (fun hn_ => (fB_ BK187 k_ hn_)), Or.elim hk_ (fun hs_ => hs_.1.2) (fun hn_ => (fB_ BK188 k_ hn_)), Or.elim hk_ (fun hs_ => hs_.2) (fun hn_ => (fB_ BK189 k_ hn_))⟩)) (below_size (hB_ HB))); have n3_ := bB_ BK188 hb; have n5_ := Aside0.mk (below_step (hB_ HB) hb); clear HO1; clear BK188; clear HB; have HO1 := n0_; have HO194 := n1_; have BK188 := n3_; have HB := n5_; replace BK187 := bB_ BK187 hb; replace BK189 := bB_ BK189 hb; clear n0_ n1_ n3_ n5_; (try clear hb); (try clear hb2); (try clear hk); (try clear hi); (try clear ho0); obtain ⟨hcz18_0, hcz18_1, hcz18_2, hcz18_3, hcz18_4, hfz18_0, hfz18_1, hfz18_2, hfz18_3, hfz18_4⟩ := cz5_ (w := w17) BK189))
  refine bodyPost_ret (results_tc rfl _ _ gb189 34 #[.int .i64 0, .int .u32 0, .bool false, .slice none 0 0, .slice none 0 0] (0, 0) _ rfl (by (with_reducible repeat (first | refine blk_drewN ?_ _ | refine blk_drew ?_ | refine blk_alloc ?_ _)); refine blk_put (cs := #[.int .i64 0, .int .u32 0, .bool false, .slice none 0 0, .slice none 0 0]) ?_ 4 _ rfl; refine blk_put (cs := #[.int .i64 0, .int .u32 0, .bool false, .slice none 0 0, .slice none 0 0]) ?_ 3 _ rfl; refine blk_put (cs := #[.int .i64 0, .int .u32 0, .bool false, .slice none 0 0, .slice none 0 0]) ?_ 2 _ rfl; refine blk_put (cs := #[.int .i64 0, .int .u32 0, .bool false, .slice none 0 0, .slice none 0 0]) ?_ 1 _ rfl; refine blk_put (cs := #[.int .i64 0, .int .u32 0, .bool false, .slice none 0 0, .slice none 0 0]) ?_ 0 _ rfl; (with_reducible repeat (first | refine blk_drewN ?_ _ | refine blk_drew ?_ | refine blk_alloc ?_ _)); exact BK189.out) Tryd.underlying34 rfl (by kernel_rfl)) rfl ?_
  exact ⟨_, _, _, er_, by (with_reducible repeat (first | apply Kd.V_alloc | apply Kd.V_drewN | apply Kd.V_drew)); exact Kd.V_mono (vF5_ (g := gb189) (Kd.V_mono HO194.out (fun k_ hk => (⟨hk, hk.2.2.2⟩ : _ ∧ k_ ≠ gb189))) (fun _ hk => hk.2)) (fun _ hk => ⟨hk.1.1, ⟨(by simp [Value.ownBlock]), (by simp [Value.ownBlock])⟩⟩), by first | exact Kd.R_nil _ _ _ _ _ | exact Kd.N_nil _ _ _ _ _ | exact Kd.V_nil _ _ _ _ _ | exact Kd.Q_nil _ _ _ _ _ | exact Kd.S_nil _ _ _ _ _, by first | exact Kd.R_nil _ _ _ _ _ | exact Kd.N_nil _ _ _ _ _ | exact Kd.V_nil _ _ _ _ _ | exact Kd.Q_nil _ _ _ _ _ | exact Kd.S_nil _ _ _ _ _, hB_ HB⟩
 ·replace c6 := Bool.eq_false_iff.mpr c6
  subst c6
  have H1 : ((spec_fail.f 6).bind fun bt195 => (some (l1, bt195.1, bt195.2.1, bt195.2.2.1, bt195.2.2.2.1, bt195.2.2.2.2))) = some (r1, r2, r3, r4, r5, r6) := by rw [if_neg (show ¬ (false = true) by decide)] at H; exact H
  clear H
  have H := H1
  clear H1
  replace H := Option.bind_eq_some_iff.mp H
  obtain ⟨⟨t195, t196, t197, t198, t201⟩, A190, H⟩ := H
  replace H : (some (l1, t195, t196, t197, t198, t201)) = some (r1, r2, r3, r4, r5, r6) := H
  have A19 := Aside0.mk A190
  clear A190
  simp only [Option.some.injEq, Prod.mk.injEq] at H
  obtain ⟨rfl, rfl, rfl, rfl, rfl, rfl⟩ := H
  go_enter Tryd.func76, Tryd.ntmps76
  go_wp2_with (first | ((with_reducible refine gate_dst (N := 3) rfl ?_); refine box_event ?hg (N := 3) ?hd (cs := #[.int .u32 a0_0, .int .i64 a0_1, .slice A0_2 l0_2.length c0_2, .int .i64 a0_3, .int .i64 a0_4, .int .i64 a0_5, .int .i64 a0_6]) (t := 27) ?hr ?_; (case hd => rfl); (case hg => rfl); (case hr => first | (go_simp; done) | (go_simp; rfl)); intro gb187 hg w20 hbox hb; have n0_ := Aside0.mk (Kd.V_below (Kd.V_elderB (vV_ HO1) gb187 (Nat.le_of_eq hg.symm)) hb); have n2_ := Aside0.mk (hbox); have n3_ := gG_ (w := w) hg HB; have n4_ := gG_ (w := w) hg HB; clear HO1; have HO1 := n0_; have BK187 := n2_; have GW187 := n3_; have GE187 := n4_; replace HB := hS_ HB hb; clear n0_ n2_ n3_ n4_; clear hb hbox hg) | ((with_reducible refine gate_dst (N := 5) rfl ?_); refine box_event ?hg (N := 5) ?hd (cs := #[.int .i64 a2_0, .int .u32 a2_1, .slice A2_2 l2_2.length c2_2]) (t := 30) ?hr ?_; (case hd => rfl); (case hg => rfl); (case hr => first | (go_simp; done) | (go_simp; rfl)); intro gb188 hg w21 hbox hb; have n0_ := Aside0.mk (Kd.V_below (Kd.V_elderB (vV_ HO1) gb188 (Nat.le_of_eq hg.symm)) hb); have n2_ := Aside0.mk (below_step (hB_ HB) hb); have n3_ := Aside0.mk (hbox); have n4_ := gG_ (w := w) hg HB; have n5_ := gG_ (w := w) hg HB; have n6_ := nL_ hg BK187; have n7_ := nG_ hg BK187; clear HO1; clear HB; have HO1 := n0_; have HB := n2_; have BK188 := n3_; have GW188 := n4_; have GE188 := n5_; have NB187_188 := n6_; have NB188_187 := n7_; replace BK187 := bB_ BK187 hb; clear n0_ n2_ n3_ n4_ n5_ n6_ n7_; clear hb hbox hg) | ((with_reducible refine gate_dst (N := 7) rfl ?_); refine box_event ?hg (N := 7) ?hd (cs := #[.int .i64 0, .int .u32 0, .bool false, .slice none 0 0, .slice none 0 0]) (t := 34) ?hr ?_; (case hd => rfl); (case hg => rfl); (case hr => first | (go_simp; done) | (go_simp; rfl)); intro gb189 hg w22 hbox hb; have n0_ := Aside0.mk (Kd.V_below (Kd.V_elderB (vV_ HO1) gb189 (Nat.le_of_eq hg.symm)) hb); have n2_ := bB_ BK188 hb; have n4_ := Aside0.mk (hbox); have n5_ := gG_ (w := w) hg HB; have n6_ := gG_ (w := w) hg HB; have n7_ := nL_ hg BK187; have n8_ := nG_ hg BK187; have n9_ := nL_ hg BK188; have n10_ := nG_ hg BK188; clear HO1; clear BK188; have HO1 := n0_; have BK188 := n2_; have BK189 := n4_; have GW189 := n5_; have GE189 := n6_; have NB187_189 := n7_; have NB189_187 := n8_; have NB188_189 := n9_; have NB189_188 := n10_; replace BK187 := bB_ BK187 hb; replace HB := hS_ HB hb; clear n0_ n2_ n4_ n5_ n6_ n7_ n8_ n9_ n10_; clear hb hbox hg; have hnb23 := NB187_188.out; have hnc23 := NB188_187.out; have hnb24 := NB187_189.out; have hnc24 := NB189_187.out; obtain ⟨hcz25_0, hcz25_1, hcz25_2, hcz25_3, hcz25_4, hcz25_5, hcz25_6, hfz25_0, hfz25_1, hfz25_2, hfz25_3, hfz25_4, hfz25_5, hfz25_6⟩ := cz7_ (w := w22) BK187; have hnb26 := NB188_189.out; have hnc26 := NB189_188.out; obtain ⟨hcz27_0, hcz27_1, hcz27_2, hfz27_0, hfz27_1, hfz27_2⟩ := cz3_ (w := w22) BK188) | ((with_reducible refine gate_callee (f := 82) rfl ?_); refine goesL_ (some 12) rfl rfl Tryd.func82 (by kernel_rfl) rfl #[.agg #[.int .u32 a0_0, .int .i64 a0_1, .slice A0_2 l0_2.length c0_2, .int .i64 a0_3, .int .i64 a0_4, .int .i64 a0_5, .int .i64 a0_6], .int .u32 a2_1] rfl am_ ?_; (with_reducible refine (spec_offset.calls k a0_0 a0_1 _ _ l0_2 a0_3 a0_4 a0_5 a0_6 a2_1 t190 _ ?side1 ?side2 A4.out).mono ?_); (case side1 => exact cC_ HR0_2 HB); (case side2 => exact HC0_2.out); rintro e w28 ⟨rfl, hb⟩; refine ⟨_, rfl, ?_⟩; have n0_ := Aside0.mk (Kd.V_below (vV_ HO1) hb); have n2_ := bB_ BK188 hb; have n4_ := Aside0.mk (below_step (hB_ HB) hb); clear HO1; clear BK188; clear HB; have HO1 := n0_; have BK188 := n2_; have HB := n4_; replace BK187 := bB_ BK187 hb; replace BK189 := bB_ BK189 hb; clear n0_ n2_ n4_; (try clear hb); (try clear hb2); (try clear hk); (try clear hi)) | ((with_reducible refine gate_callee (f := 34) rfl ?_); refine goesL_ (some 15) rfl rfl Tryd.func34 (by kernel_rfl) rfl #[.slice A1 l1.length c1, .int .i64 t190] rfl am_ ?_; (with_reducible refine (model_Has.calls k _ _ l1 t190 false _ ?side1 ?side2 A5.out).mono ?_); (case side1 => repeat (first | exact (Kd.V_reads' HO1.out).2.2 | (with_reducible refine Kd.C_alloc ?_ _) | (with_reducible refine Kd.C_drewN ?_ _) | (with_reducible refine Kd.C_drew ?_))); (case side2 => exact (Kd.V_reads' HO1.out).2.1); rintro e w' ⟨rfl, ⟨nd, rfl⟩⟩; refine ⟨_, rfl, ?_⟩; (try (rw [drewN_self w28]; generalize hq_ : World.drewN w28 _ = w28; have n0_ := Aside0.mk (V_atq hq_ HO1.out); have n1_ := Aside0.mk (blk_at hq_ BK187.out); have n2_ := Aside0.mk (blk_at hq_ BK188.out); have n3_ := Aside0.mk (blk_at hq_ BK189.out); have n4_ := Aside0.mk (below_at hq_ HB.out); clear hq_ HO1 BK187 BK188 BK189 HB; have HO1 := n0_; have BK187 := n1_; have BK188 := n2_; have BK189 := n3_; have HB := n4_; clear n0_ n1_ n2_ n3_ n4_))) | ((with_reducible refine gate_callee (f := 31) rfl ?_); refine goesL_ (some 18) rfl rfl Tryd.func31 (by kernel_rfl) rfl #[.int .i64 6] rfl am_ ?_; (with_reducible refine (spec_fail.calls 6 t195 t196 t197 t198 t201 _ A19.out).mono ?_); rintro e w29 ⟨v199, v202, rfl, ho0, ho1, hb⟩; refine ⟨_, rfl, ?_⟩; have n0_ := Aside0.mk (Kd.V_mono (Kd.V_told (Kd.V_told (Kd.V_old (vV_ HO1) hb) (Kd.R_base ho0)) (Kd.R_base ho1)) (fun _ h_ => h_.1)); have n1_ := Aside0.mk (Kd.R_lower (Kd.R_newM (M := fun k_ => (w.heap.size ≤ k_)) ho0 (below_size (hB_ HB)) (fun k_ h_ => h_)) (below_size (hB_ HB))); have n2_ := Aside0.mk (Kd.R_lower (Kd.R_newM (M := fun k_ => (w.heap.size ≤ k_)) ho1 (below_size (hB_ HB)) (fun k_ h_ => h_)) (below_size (hB_ HB))); have n4_ := bB_ BK188 hb; have n6_ := Aside0.mk (below_step (hB_ HB) hb); clear HO1; clear BK188; clear HB; have HO1 := n0_; have HO200 := n1_; have HO203 := n2_; have BK188 := n4_; have HB := n6_; replace BK187 := bB_ BK187 hb; replace BK189 := bB_ BK189 hb; clear n0_ n1_ n2_ n4_ n6_; (try clear hb); (try clear hb2); (try clear hk); (try clear hi); (try clear ho0); (try clear ho1); obtain ⟨hcz30_0, hcz30_1, hcz30_2, hcz30_3, hcz30_4, hfz30_0, hfz30_1, hfz30_2, hfz30_3, hfz30_4⟩ := cz5_ (w := w29) BK189; obtain ⟨Ao31, co31, eo31⟩ := Kd.R_slice HO200.out; subst eo31; obtain ⟨Ao32, co32, eo32⟩ := Kd.R_slice HO203.out; subst eo32))
  refine bodyPost_ret (results_tc rfl _ _ gb189 34 #[.int .i64 t195, .int .u32 t196, .bool t197, .slice Ao31 t198.length co31, .slice Ao32 t201.length co32] (0, 0) _ rfl (by (with_reducible repeat (first | refine blk_drewN ?_ _ | refine blk_drew ?_ | refine blk_alloc ?_ _)); refine blk_put (cs := #[.int .i64 t195, .int .u32 t196, .bool t197, .slice Ao31 t198.length co31, .slice none 0 0]) ?_ 4 _ rfl; refine blk_put (cs := #[.int .i64 t195, .int .u32 t196, .bool t197, .slice none 0 0, .slice none 0 0]) ?_ 3 _ rfl; refine blk_put (cs := #[.int .i64 t195, .int .u32 t196, .bool false, .slice none 0 0, .slice none 0 0]) ?_ 2 _ rfl; refine blk_put (cs := #[.int .i64 t195, .int .u32 0, .bool false, .slice none 0 0, .slice none 0 0]) ?_ 1 _ rfl; refine blk_put (cs := #[.int .i64 0, .int .u32 0, .bool false, .slice none 0 0, .slice none 0 0]) ?_ 0 _ rfl; (with_reducible repeat (first | refine blk_drewN ?_ _ | refine blk_drew ?_ | refine blk_alloc ?_ _)); exact BK189.out) Tryd.underlying34 rfl (by kernel_rfl)) rfl ?_
  exact ⟨_, _, _, er_, by (with_reducible repeat (first | apply Kd.V_alloc | apply Kd.V_drewN | apply Kd.V_drew)); exact Kd.V_mono (vF5_ (g := gb189) (Kd.V_mono HO1.out (fun k_ hk => (⟨hk, hk.1.1.2⟩ : _ ∧ k_ ≠ gb189))) (fun _ hk => hk.2)) (fun _ hk => ⟨hk.1.1.1.1.1.1, ⟨hk.1.1.2, hk.1.2⟩⟩), by (with_reducible repeat (first | apply Kd.R_alloc | apply Kd.R_drewN | apply Kd.R_drew)); exact Kd.R_mono (rF5_ (g := gb189) (Kd.R_types HO200.out BK189.out (by decide)) (fun _ hk => hk.2)) (fun _ hk => hk.1.1), by (with_reducible repeat (first | apply Kd.R_alloc | apply Kd.R_drewN | apply Kd.R_drew)); exact Kd.R_mono (rF5_ (g := gb189) (Kd.R_types HO203.out BK189.out (by decide)) (fun _ hk => hk.2)) (fun _ hk => hk.1.1), hB_ HB⟩

/-! ### spec_batch: function 77 -/
def spec_batch.l0 : Nat → List Int → List Int → Int → Int → Int → Int → List Int → Int → Int → Int → Int → Int → Int → Bool → List Int → Option (List Int × Int × Int × Bool × List Int × List Int)
 | 0, _, _, _, _, _, _, _, _, _, _, _, _, _, _, _ => none
 | k + 1, x1, x14, x15, x16, x205000, x205001, x205002, x205003, x205004, x205005, x205006, x208000, x208001, x208002, x208004 => if x16 < x15 then (if 0 ≤ x16 then (if x16 < (x14.length : Int) then ((spec_release.f k x205000 x205001 x205002 x205003 x205004 x205005 x205006 x1 0 (rd x14 x16) ([] : List Int)).bind fun bt209 => (if x208004.length < 17592186044416 then (spec_batch.l0 k bt209.1 x14 x15 (wrap64 (x16 + 1)) x205000 x205001 x205002 x205003 x205004 x205005 x205006 x208000 x208001 x208002 (x208004 ++ [bt209.2.1])) else (none))) else (none)) else (none)) else (some (x1, x208000, x208001, x208002, ([] : List Int), x208004))
def spec_batch.f (k : Nat) (a0_0 : Int) (a0_1 : Int) (l0_2 : List Int) (a0_3 : Int) (a0_4 : Int) (a0_5 : Int) (a0_6 : Int) (l1 : List Int) (a2_0 : Int) (a2_1 : Int) (l2_2 : List Int) : Option (List Int × Int × Int × Bool × List Int × List Int) := spec_batch.l0 k l1 l2_2 (l2_2.length : Int) 0 a0_0 a0_1 l0_2 a0_3 a0_4 a0_5 a0_6 0 0 false ([] : List Int)
theorem spec_batch.mono_l : ∀ k, (∀ y0 y1 y2 y3 y4 y5 y6 y7 y8 y9 y10 y11 y12 y13 y14, LeO (spec_batch.l0 k y0 y1 y2 y3 y4 y5 y6 y7 y8 y9 y10 y11 y12 y13 y14) (spec_batch.l0 (k + 1) y0 y1 y2 y3 y4 y5 y6 y7 y8 y9 y10 y11 y12 y13 y14))
 | 0 => fun _ _ _ _ _ _ _ _ _ _ _ _ _ _ _ r h => by simp [spec_batch.l0] at h
 | k + 1 => by
  have ih0 := spec_batch.mono_l k
  ·intro y0 y1 y2 y3 y4 y5 y6 y7 y8 y9 y10 y11 y12 y13 y14
   unfold spec_batch.l0
   repeat' first
   | (with_reducible exact ih0 _ _ _ _ _ _ _ _ _ _ _ _ _ _ _)
   | (with_reducible exact spec_release.mono _ _ _ _ _ _ _ _ _ _ _ _)
   | (with_reducible exact LeO.refl _)
   | (with_reducible exact LeO.none _)
   | (with_reducible refine LeO.ite ?_ ?_)
   | (with_reducible refine LeO.bind ?_ (fun _ => ?_))
   | exact ih0 _ _ _ _ _ _ _ _ _ _ _ _ _ _ _
   | exact spec_release.mono _ _ _ _ _ _ _ _ _ _ _ _
   | exact LeO.none _
   | refine LeO.ite ?_ ?_
   | refine LeO.bind ?_ (fun _ => ?_)
theorem spec_batch.mono : ∀ a0 a1 a2 a3 a4 a5 a6 a7 a8 a9 a10 k, LeO (spec_batch.f k a0 a1 a2 a3 a4 a5 a6 a7 a8 a9 a10) (spec_batch.f (k + 1) a0 a1 a2 a3 a4 a5 a6 a7 a8 a9 a10) := by
 intro a0 a1 a2 a3 a4 a5 a6 a7 a8 a9 a10 k
 have ih0 := spec_batch.mono_l k
 unfold spec_batch.f
 repeat' first
   | (with_reducible exact ih0 _ _ _ _ _ _ _ _ _ _ _ _ _ _ _)
   | (with_reducible exact spec_release.mono _ _ _ _ _ _ _ _ _ _ _ _)
   | (with_reducible exact LeO.refl _)
   | (with_reducible exact LeO.none _)
   | (with_reducible refine LeO.ite ?_ ?_)
   | (with_reducible refine LeO.bind ?_ (fun _ => ?_))
   | exact ih0 _ _ _ _ _ _ _ _ _ _ _ _ _ _ _
   | exact spec_release.mono _ _ _ _ _ _ _ _ _ _ _ _
   | exact LeO.none _
   | refine LeO.ite ?_ ?_
   | refine LeO.bind ?_ (fun _ => ?_)
set_option maxHeartbeats 8000000 in
set_option maxRecDepth 100000 in
theorem spec_batch.calls (k : Nat) (a0_0 : Int) (a0_1 : Int) (A0_2 : Option Addr) (c0_2 : Nat) (l0_2 : List Int) (a0_3 : Int) (a0_4 : Int) (a0_5 : Int) (a0_6 : Int) (P1_ : Nat → Prop) (A1 : Option Addr) (c1 : Nat) (l1 : List Int) (a2_0 : Int) (a2_1 : Int) (A2_2 : Option Addr) (c2_2 : Nat) (l2_2 : List Int) (r1 : List Int) (r2 : Int) (r3 : Int) (r4 : Bool) (r5 : List Int) (r6 : List Int) (w : World) (hr0_2 : Kd.C (Kd.int .i64) w A0_2 l0_2.length l0_2) (hc0_2 : l0_2.length ≤ c0_2) (hs1 : Kd.V (Kd.int .i64) 3 w w.heap.size (fun k_ => P1_ k_) (.slice A1 l1.length c1) l1) (hr2_2 : Kd.C (Kd.int .u32) w A2_2 l2_2.length l2_2) (hc2_2 : l2_2.length ≤ c2_2) (h : spec_batch.f k a0_0 a0_1 l0_2 a0_3 a0_4 a0_5 a0_6 l1 a2_0 a2_1 l2_2 = some (r1, r2, r3, r4, r5, r6)) :
  Calls Tryd.prog 77 #[.agg #[.int .u32 a0_0, .int .i64 a0_1, .slice A0_2 l0_2.length c0_2, .int .i64 a0_3, .int .i64 a0_4, .int .i64 a0_5, .int .i64 a0_6], .slice A1 l1.length c1, .agg #[.int .i64 a2_0, .int .u32 a2_1, .slice A2_2 l2_2.length c2_2]] w fun e w' => ∃ v0_ v4_ v5_ : Value, e = .returned (.tuple #[v0_, .agg #[.int .i64 r2, .int .u32 r3, .bool r4, v4_, v5_]]) ∧ Kd.V (Kd.int .i64) 3 w' w.heap.size (fun k_ => (P1_ k_ ∨ w.heap.size ≤ k_) ∧ some k_ ≠ (v4_ : Value).ownBlock ∧ some k_ ≠ (v5_ : Value).ownBlock) v0_ r1 ∧ Kd.R (Kd.int .u32) 22 w' w.heap.size (fun k_ => (w.heap.size ≤ k_)) v4_ r5 ∧ Kd.R (Kd.int .i64) 31 w' w.heap.size (fun k_ => (w.heap.size ≤ k_)) v5_ r6 ∧ Below w.heap.size w w' := by
 have hu27 := Tryd.underlying27
 have hu30 := Tryd.underlying30
 have hu34 := Tryd.underlying34
 have HR0_2 := Aside0.mk hr0_2
 have HC0_2 := Aside0.mk hc0_2
 clear hr0_2 hc0_2
 have HO1 := Aside0.mk (show Kd.V (Kd.int .i64) 3 w w.heap.size (fun k_ => (P1_ k_ ∨ w.heap.size ≤ k_)) (.slice A1 l1.length c1) l1 from Kd.V_mono hs1 (fun k_ hk => .inl hk))
 have HR2_2 := Aside0.mk hr2_2
 have HC2_2 := Aside0.mk hc2_2
 clear hr2_2 hc2_2
 have HB := Aside0.mk (Below.refl w.heap.size w)
 have H : (spec_batch.l0 k l1 l2_2 (l2_2.length : Int) 0 a0_0 a0_1 l0_2 a0_3 a0_4 a0_5 a0_6 0 0 false ([] : List Int)) = some (r1, r2, r3, r4, r5, r6) := h
 clear h
 have H' := Aside0.mk H
 clear H
 go_enter Tryd.func77, Tryd.ntmps77
 go_wp2_with (first | ((with_reducible refine gate_dst (N := 3) rfl ?_); refine box_event ?hg (N := 3) ?hd (cs := #[.int .u32 a0_0, .int .i64 a0_1, .slice A0_2 l0_2.length c0_2, .int .i64 a0_3, .int .i64 a0_4, .int .i64 a0_5, .int .i64 a0_6]) (t := 27) ?hr ?_; (case hd => rfl); (case hg => rfl); (case hr => first | (go_simp; done) | (go_simp; rfl)); intro gb204 hg w4 hbox hb; have n0_ := Aside0.mk (Kd.V_below (Kd.V_elderB (vV_ HO1) gb204 (Nat.le_of_eq hg.symm)) hb); have n2_ := Aside0.mk (hbox); have n3_ := gG_ (w := w) hg HB; have n4_ := gG_ (w := w) hg HB; clear HO1; have HO1 := n0_; have BK204 := n2_; have GW204 := n3_; have GE204 := n4_; replace HB := hS_ HB hb; clear n0_ n2_ n3_ n4_; clear hb hbox hg) | ((with_reducible refine gate_dst (N := 5) rfl ?_); refine box_event ?hg (N := 5) ?hd (cs := #[.int .i64 a2_0, .int .u32 a2_1, .slice A2_2 l2_2.length c2_2]) (t := 30) ?hr ?_; (case hd => rfl); (case hg => rfl); (case hr => first | (go_simp; done) | (go_simp; rfl)); intro gb205 hg w5 hbox hb; have n0_ := Aside0.mk (Kd.V_below (Kd.V_elderB (vV_ HO1) gb205 (Nat.le_of_eq hg.symm)) hb); have n2_ := Aside0.mk (below_step (hB_ HB) hb); have n3_ := Aside0.mk (hbox); have n4_ := gG_ (w := w) hg HB; have n5_ := gG_ (w := w) hg HB; have n6_ := nL_ hg BK204; have n7_ := nG_ hg BK204; clear HO1; clear HB; have HO1 := n0_; have HB := n2_; have BK205 := n3_; have GW205 := n4_; have GE205 := n5_; have NB204_205 := n6_; have NB205_204 := n7_; replace BK204 := bB_ BK204 hb; clear n0_ n2_ n3_ n4_ n5_ n6_ n7_; clear hb hbox hg) | ((with_reducible refine gate_dst (N := 7) rfl ?_); refine box_event ?hg (N := 7) ?hd (cs := #[.int .i64 0, .int .u32 0, .bool false, .slice none 0 0, .slice none 0 0]) (t := 34) ?hr ?_; (case hd => rfl); (case hg => rfl); (case hr => first | (go_simp; done) | (go_simp; rfl)); intro gb206 hg w6 hbox hb; have n0_ := Aside0.mk (Kd.V_below (Kd.V_elderB (vV_ HO1) gb206 (Nat.le_of_eq hg.symm)) hb); have n2_ := bB_ BK205 hb; have n4_ := Aside0.mk (hbox); have n5_ := gG_ (w := w) hg HB; have n6_ := gG_ (w := w) hg HB; have n7_ := nL_ hg BK204; have n8_ := nG_ hg BK204; have n9_ := nL_ hg BK205; have n10_ := nG_ hg BK205; clear HO1; clear BK205; have HO1 := n0_; have BK205 := n2_; have BK206 := n4_; have GW206 := n5_; have GE206 := n6_; have NB204_206 := n7_; have NB206_204 := n8_; have NB205_206 := n9_; have NB206_205 := n10_; replace BK204 := bB_ BK204 hb; replace HB := hS_ HB hb; clear n0_ n2_ n4_ n5_ n6_ n7_ n8_ n9_ n10_; clear hb hbox hg) | ((with_reducible refine gate_dst (N := 8) rfl ?_); refine box_event ?hg (N := 8) ?hd (cs := #[.int .i64 0, .int .u32 0, .bool false, .slice none 0 0, .slice none 0 0]) (t := 34) ?hr ?_; (case hd => rfl); (case hg => rfl); (case hr => first | (go_simp; done) | (go_simp; rfl)); intro gb207 hg w7 hbox hb; have n0_ := Aside0.mk (Kd.V_below (Kd.V_elderB (vV_ HO1) gb207 (Nat.le_of_eq hg.symm)) hb); have n2_ := bB_ BK205 hb; have n4_ := Aside0.mk (below_step (hB_ HB) hb); have n5_ := Aside0.mk (hbox); have n6_ := gG_ (w := w) hg HB; have n7_ := gG_ (w := w) hg HB; have n8_ := nL_ hg BK204; have n9_ := nG_ hg BK204; have n10_ := nL_ hg BK205; have n11_ := nG_ hg BK205; have n12_ := nL_ hg BK206; have n13_ := nG_ hg BK206; clear HO1; clear BK205; clear HB; have HO1 := n0_; have BK205 := n2_; have HB := n4_; have BK207 := n5_; have GW207 := n6_; have GE207 := n7_; have NB204_207 := n8_; have NB207_204 := n9_; have NB205_207 := n10_; have NB207_205 := n11_; have NB206_207 := n12_; have NB207_206 := n13_; replace BK204 := bB_ BK204 hb; replace BK206 := bB_ BK206 hb; clear n0_ n2_ n4_ n5_ n6_ n7_ n8_ n9_ n10_ n11_ n12_ n13_; clear hb hbox hg; have hnb8 := NB205_204.out; have hnc8 := NB204_205.out; have hnb9 := NB205_206.out; have hnc9 := NB206_205.out; have hnb10 := NB205_207.out; have hnc10 := NB207_205.out; obtain ⟨hcz11_0, hcz11_1, hcz11_2, hfz11_0, hfz11_1, hfz11_2⟩ := cz3_ (w := w7) BK205))
 go_loopg [1, 16] k (fun kq v1 v16 w' => ∃ (x1_1 : List Int) (x16_1 : Int) (x208004_1 : List Int) (u208004 : Value), v16 = .int .i64 x16_1 ∧ Aside0 (spec_batch.l0 kq x1_1 l2_2 (l2_2.length : Int) x16_1 a0_0 a0_1 l0_2 a0_3 a0_4 a0_5 a0_6 0 0 false x208004_1 = some (r1, r2, r3, r4, r5, r6)) ∧ Aside0 (kq ≤ k) ∧ Aside0 (Kd.V (Kd.int .i64) 3 w' w.heap.size (fun k_ => (P1_ k_ ∨ w.heap.size ≤ k_) ∧ some k_ ≠ (u208004 : Value).ownBlock ∧ k_ ≠ gb204 ∧ k_ ≠ gb205 ∧ k_ ≠ gb206 ∧ k_ ≠ gb207) v1 x1_1) ∧ Aside0 (Kd.R (Kd.int .i64) 31 w' w.heap.size (fun k_ => (w.heap.size ≤ k_)) u208004 x208004_1) ∧ Aside0 (w'.heap[gb204]? = some (.cells #[.int .u32 a0_0, .int .i64 a0_1, (.slice A0_2 l0_2.length c0_2), .int .i64 a0_3, .int .i64 a0_4, .int .i64 a0_5, .int .i64 a0_6] 27 (0, 0))) ∧ Aside0 (w'.heap[gb205]? = some (.cells #[.int .i64 a2_0, .int .u32 a2_1, (.slice A2_2 l2_2.length c2_2)] 30 (0, 0))) ∧ Aside0 (w'.heap[gb206]? = some (.cells #[.int .i64 0, .int .u32 0, .bool false, (.slice none 0 0), (.slice none 0 0)] 34 (0, 0))) ∧ Aside0 (w'.heap[gb207]? = some (.cells #[.int .i64 0, .int .u32 0, .bool false, (.slice none 0 0), u208004] 34 (0, 0))) ∧ Aside0 (Below w.heap.size w w'))
 case atStart => exact ⟨(l1), (0), (([] : List Int)), (.slice none 0 0), rs_, H', ⟨Nat.le_refl _⟩, ⟨by (with_reducible repeat (first | apply Kd.V_alloc | apply Kd.V_drewN | apply Kd.V_drew)); exact Kd.V_mono HO1.out (fun _ hk => ⟨hk.1.1.1.1, ⟨(by simp [Value.ownBlock]), ⟨hk.1.1.1.2, ⟨hk.1.1.2, ⟨hk.1.2, hk.2⟩⟩⟩⟩⟩)⟩, ⟨by first | exact Kd.R_nil _ _ _ _ _ | exact Kd.N_nil _ _ _ _ _ | exact Kd.V_nil _ _ _ _ _ | exact Kd.Q_nil _ _ _ _ _ | exact Kd.S_nil _ _ _ _ _⟩, ⟨bk_ BK204⟩, ⟨bk_ BK205⟩, ⟨bk_ BK206⟩, ⟨bk_ BK207⟩, ⟨hB_ HB⟩⟩
 case round =>
  clear H'
  try clear c1
  try clear c2
  try clear p2
  try clear c7
  try clear c8
  try clear c9
  try clear c10
  try clear hcz11_0 hcz11_1 hcz11_2
  try clear hfz11_0 hfz11_1 hfz11_2
  obtain ⟨x1_1, x16_1, x208004_1, u208004, rfl, HA, HK1, HO_1, HO_208004, BK204, BK205, BK206, BK207, HB⟩ := hrel
  cases gk with
  | zero => exact absurd HA.out (by simp [spec_batch.l0])
  | succ k1 =>
   have H := HA.out
   clear HA
   simp only [spec_batch.l0] at H
   by_cases c12 : x16_1 < (l2_2.length : Int)
   ·rw [if_pos c12] at H
    have c12b0 : decide (x16_1 < (l2_2.length : Int)) = true := decide_eq_true c12
    clear c12
    by_cases c13 : 0 ≤ x16_1
    ·rw [if_pos c13] at H
     have c13b0 : decide (0 ≤ x16_1) = true := decide_eq_true c13
     clear c13
     by_cases c14 : x16_1 < (l2_2.length : Int)
     ·rw [if_pos c14] at H
      have c14b0 : decide (x16_1 < (l2_2.length : Int)) = true := decide_eq_true c14
      clear c14
      replace H := Option.bind_eq_some_iff.mp H
      obtain ⟨⟨t209, t212, t213, t214, t215, t218⟩, A150, H⟩ := H
      replace H : (if x208004_1.length < 17592186044416 then (spec_batch.l0 k1 t209 l2_2 (l2_2.length : Int) (wrap64 (x16_1 + 1)) a0_0 a0_1 l0_2 a0_3 a0_4 a0_5 a0_6 0 0 false (x208004_1 ++ [t212])) else (none)) = some (r1, r2, r3, r4, r5, r6) := H
      have A15 := Aside0.mk A150
      clear A150
      by_cases c16 : x208004_1.length < 17592186044416
      ·rw [if_pos c16] at H
       have LMc16 := Aside0.mk c16
       clear c16
       obtain ⟨y222, hy222⟩ : ∃ y_ : List Int, y_ = (x208004_1 ++ [t212]) := ⟨_, rfl⟩
       replace H : (spec_batch.l0 k1 t209 l2_2 (l2_2.length : Int) (wrap64 (x16_1 + 1)) a0_0 a0_1 l0_2 a0_3 a0_4 a0_5 a0_6 0 0 false y222) = some (r1, r2, r3, r4, r5, r6) := by first | (rw [hy222]; with_reducible exact H) | (have H2_ := (Option.bind_some _ _).symm.trans H; rw [hy222]; with_reducible exact H2_) | (have H2_ := (Option.bind_some _ _).symm.trans H; with_reducible exact H2_) | with_reducible exact H | (rw [hy222]; exact H) | exact H
       have Ny222 := Aside0.mk hy222
       clear hy222
       have H' := Aside0.mk H
       clear H
       have p208 : 0 ≤ (x16_1 : Int) := od_
       have q208 : x16_1 < (l2_2.length : Int) := od_
       obtain ⟨ad208, e208, hx208_0⟩ := Kd.at_int HR2_2.out x16_1 p208 q208
       cases e208
       replace hx208_0 := (HB.out.cell (World.block_lt_of_cell? w _ hx208_0)).trans hx208_0
       replace p208 := eq_true p208
       replace q208 := eq_true q208
       have hnb17 := NB204_205.out
       have hnc17 := NB205_204.out
       have hnb18 := NB204_206.out
       have hnc18 := NB206_204.out
       have hnb19 := NB204_207.out
       have hnc19 := NB207_204.out
       obtain ⟨hcz20_0, hcz20_1, hcz20_2, hcz20_3, hcz20_4, hcz20_5, hcz20_6, hfz20_0, hfz20_1, hfz20_2, hfz20_3, hfz20_4, hfz20_5, hfz20_6⟩ := cz7_ (w := wr) BK204
       obtain ⟨Ao21, co21, eo21⟩ := Kd.V_slice HO_1.out
       subst eo21
       go_wp2_with (first | ((with_reducible refine gate_callee (f := 76) rfl ?_); refine goesL_ (some 25) rfl rfl Tryd.func76 (by kernel_rfl) rfl #[.agg #[.int .u32 a0_0, .int .i64 a0_1, .slice A0_2 l0_2.length c0_2, .int .i64 a0_3, .int .i64 a0_4, .int .i64 a0_5, .int .i64 a0_6], .slice Ao21 x1_1.length co21, .agg #[.int .i64 0, .int .u32 (rd l2_2 x16_1), .slice none 0 0]] rfl am_ ?_; (refine (spec_release.calls k1 a0_0 a0_1 _ _ l0_2 a0_3 a0_4 a0_5 a0_6 (fun k_ => ((P1_ k_ ∨ w.heap.size ≤ k_) ∧ (some k_ ≠ (u208004 : Value).ownBlock ∧ (k_ ≠ gb204 ∧ (k_ ≠ gb205 ∧ (k_ ≠ gb206 ∧ k_ ≠ gb207)))))) _ _ x1_1 0 (rd l2_2 x16_1) _ _ ([] : List Int) t209 t212 t213 t214 t215 t218 _ ?side1 ?side2 ?side3 ?side4 ?side5 A15.out).mono ?_); (case side1 => exact cC_ HR0_2 HB); (case side2 => exact HC0_2.out); (case side3 => exact HO_1.out); (case side4 => exact Kd.C_nil _ _); (case side5 => exact Nat.le_refl _); rintro e w22 ⟨v210, v216, v219, rfl, ho0, ho1, ho2, hb⟩; refine ⟨_, rfl, ?_⟩; have n0_ := Aside0.mk (Kd.V_mono (Kd.V_told (Kd.V_told (Kd.V_old (vV_ HO_1) hb) (Kd.R_base ho1)) (Kd.R_base ho2)) (fun _ h_ => h_.1)); have n1_ := Aside0.mk (Kd.R_elder' (rR_ HO_208004) (Kd.R_base ho2) hb); have n2_ := Aside0.mk (Kd.V_lower (Kd.V_mono (ok' := fun k_ => (P1_ k_ ∨ w.heap.size ≤ k_) ∧ some k_ ≠ (v216 : Value).ownBlock ∧ some k_ ≠ (v219 : Value).ownBlock ∧ some k_ ≠ (u208004 : Value).ownBlock ∧ k_ ≠ gb204 ∧ k_ ≠ gb205 ∧ k_ ≠ gb206 ∧ k_ ≠ gb207) ho0 (fun k_ hk_ => ⟨Or.elim hk_.1 (fun hs_ => hs_.1) (fun hn_ => (.inr (Nat.le_trans (below_size (hB_ HB)) hn_))), hk_.2.1, hk_.2.2, Or.elim hk_.1 (fun hs_ => hs_.2.1) (fun hn_ => (Kd.fresh' (Kd.R_lt (rR_ HO_208004)) k_ hn_)), Or.elim hk_.1 (fun hs_ => hs_.2.2.1) (fun hn_ => (fB_ BK204 k_ hn_)), Or.elim hk_.1 (fun hs_ => hs_.2.2.2.1) (fun hn_ => (fB_ BK205 k_ hn_)), Or.elim hk_.1 (fun hs_ => hs_.2.2.2.2.1) (fun hn_ => (fB_ BK206 k_ hn_)), Or.elim hk_.1 (fun hs_ => hs_.2.2.2.2.2) (fun hn_ => (fB_ BK207 k_ hn_))⟩)) (below_size (hB_ HB))); have n3_ := Aside0.mk (Kd.R_lower (Kd.R_newM (M := fun k_ => (w.heap.size ≤ k_)) (Kd.R_mono (ok' := fun k_ => True) ho1 (fun _ hk_ => trivial)) (below_size (hB_ HB)) (fun k_ h_ => h_)) (below_size (hB_ HB))); have n4_ := Aside0.mk (Kd.R_lower (Kd.R_new' (Kd.R_newM (M := fun k_ => (w.heap.size ≤ k_)) (Kd.R_mono (ok' := fun k_ => True) ho2 (fun _ hk_ => trivial)) (below_size (hB_ HB)) (fun k_ h_ => h_)) (Kd.R_lt (rR_ HO_208004))) (below_size (hB_ HB))); have n6_ := bB_ BK205 hb; have n8_ := bB_ BK207 hb; clear HO_1; clear HO_208004; clear BK205; clear BK207; have HO_1 := n0_; have HO_208004 := n1_; have HO211 := n2_; have HO217 := n3_; have HO220 := n4_; have BK205 := n6_; have BK207 := n8_; replace BK204 := bB_ BK204 hb; replace BK206 := bB_ BK206 hb; replace HB := hS_ HB hb; clear n0_ n1_ n2_ n3_ n4_ n6_ n8_; (try clear hb); (try clear hb2); (try clear hk); (try clear hi); (try clear ho0); (try clear ho1); (try clear ho2)) | ((with_reducible refine gate_dst (N := 12) rfl ?_); refine box_event ?hg (N := 12) ?hd (cs := #[.int .i64 0, .int .u32 0, .bool false, .slice none 0 0, .slice none 0 0]) (t := 34) ?hr ?_; (case hd => rfl); (case hg => rfl); (case hr => first | (go_simp; done) | (go_simp; rfl)); intro gb221 hg w23 hbox hb; have n0_ := Aside0.mk (Kd.V_below (Kd.V_elderB (vV_ HO_1) gb221 (Nat.le_of_eq hg.symm)) hb); have n1_ := Aside0.mk (Kd.R_below (rR_ HO_208004) hb); have n2_ := Aside0.mk (Kd.V_below (Kd.V_elderB (vV_ HO211) gb221 (Nat.le_of_eq hg.symm)) hb); have n3_ := Aside0.mk (Kd.R_below (rR_ HO217) hb); have n4_ := Aside0.mk (Kd.R_below (rR_ HO220) hb); have n6_ := bB_ BK205 hb; have n8_ := bB_ BK207 hb; have n10_ := Aside0.mk (hbox); have n11_ := gG_ (w := w) hg HB; have n12_ := gG_ (w := w) hg HB; have n13_ := nL_ hg BK204; have n14_ := nG_ hg BK204; have n15_ := nL_ hg BK205; have n16_ := nG_ hg BK205; have n17_ := nL_ hg BK206; have n18_ := nG_ hg BK206; have n19_ := nL_ hg BK207; have n20_ := nG_ hg BK207; clear HO_1; clear HO_208004; clear HO211; clear HO217; clear HO220; clear BK205; clear BK207; have HO_1 := n0_; have HO_208004 := n1_; have HO211 := n2_; have HO217 := n3_; have HO220 := n4_; have BK205 := n6_; have BK207 := n8_; have BK221 := n10_; have GW221 := n11_; have GE221 := n12_; have NB204_221 := n13_; have NB221_204 := n14_; have NB205_221 := n15_; have NB221_205 := n16_; have NB206_221 := n17_; have NB221_206 := n18_; have NB207_221 := n19_; have NB221_207 := n20_; replace BK204 := bB_ BK204 hb; replace BK206 := bB_ BK206 hb; replace HB := hS_ HB hb; clear n0_ n1_ n2_ n3_ n4_ n6_ n8_ n10_ n11_ n12_ n13_ n14_ n15_ n16_ n17_ n18_ n19_ n20_; clear hb hbox hg; have hnb24 := NB221_204.out; have hnc24 := NB204_221.out; have hnb25 := NB221_205.out; have hnc25 := NB205_221.out; have hnb26 := NB221_206.out; have hnc26 := NB206_221.out; have hnb27 := NB221_207.out; have hnc27 := NB207_221.out; obtain ⟨hcz28_0, hcz28_1, hcz28_2, hcz28_3, hcz28_4, hfz28_0, hfz28_1, hfz28_2, hfz28_3, hfz28_4⟩ := cz5_ (w := w23) BK221; obtain ⟨Ao29, co29, eo29⟩ := Kd.R_slice HO217.out; subst eo29; obtain ⟨Ao30, co30, eo30⟩ := Kd.R_slice HO220.out; subst eo30; have hnb31 := NB207_205.out; have hnc31 := NB205_207.out; have hnb32 := NB207_206.out; have hnc32 := NB206_207.out; obtain ⟨hcz33_0, hcz33_1, hcz33_2, hcz33_3, hcz33_4, hfz33_0, hfz33_1, hfz33_2, hfz33_3, hfz33_4⟩ := cz5_ (w := w23) BK207) | ((with_reducible refine gate_builtin (b := .append) (xs := #[.tmp 30, .tmp 33]) rfl ?_); at_builtin; refine Kd.R_append (Kd.int .i64) (w0 := w) w.heap.size rfl (.tmp 30) (.tmp 33) 32 31 (.int .i64 0) 8 rfl Tryd.underlying32 info31 rfl (by decide) (by omega) u208004 x208004_1 t212 [.int .i64 t212] (fun k_ => (w.heap.size ≤ k_) ∧ some k_ ≠ (.slice Ao30 t218.length co30 : Value).ownBlock) (fun _ => False) rfl (by first | (go_simp; done) | (go_simp; rfl)) ?aP (fun _ hk => hk.elim) ?aF ?aO ?aB ?aS ?aL ?_; (case aP => exact rfl); (case aB => exact (hB_ HB)); (case aF => exact (fun k_ hk => ⟨(Nat.le_trans (below_size (hB_ HB)) hk), Kd.fresh' (Kd.R_lt (by (with_reducible repeat (first | apply Kd.R_alloc | apply Kd.R_drewN | apply Kd.R_drew)); exact (Kd.R_mono (rF5_ (g := gb221) (Kd.R_types HO220.out BK221.out (by decide)) (fun _ hk => hk.2)) (fun _ h_ => h_.1)))) k_ hk⟩)); (case aO => exact (by (with_reducible repeat (first | apply Kd.R_alloc | apply Kd.R_drewN | apply Kd.R_drew)); exact Kd.R_mono (rF5_ (g := gb221) (Kd.R_types HO_208004.out BK221.out (by decide)) (fun _ hk => hk.2)) (fun _ hk => ⟨hk.1.1, hk.1.2⟩))); (case aS => exact (below_size (hB_ HB))); (case aL => have := LMc16.out; omega); intro v223 w34 ho hb hg hat; rw [← Ny222.out] at ho; have n0_ := Aside0.mk (Kd.V_afterv (ok := (fun k_ => (P1_ k_ ∨ w.heap.size ≤ k_) ∧ some k_ ≠ (.slice Ao29 t215.length co29 : Value).ownBlock ∧ some k_ ≠ (.slice Ao30 t218.length co30 : Value).ownBlock ∧ k_ ≠ gb204 ∧ k_ ≠ gb205 ∧ k_ ≠ gb206 ∧ k_ ≠ gb207 ∧ k_ ≠ gb221)) (by (with_reducible repeat (first | apply Kd.V_alloc | apply Kd.V_drewN | apply Kd.V_drew)); exact Kd.V_mono (vF5_ (g := gb221) (Kd.V_mono HO_1.out (fun k_ hk => (⟨hk, hk.2⟩ : _ ∧ k_ ≠ gb221))) (fun _ hk => hk.2)) (fun _ hk => ⟨⟨hk.1.1.1.1.1, ⟨hk.1.1.1.2, ⟨hk.1.1.2, ⟨hk.1.1.1.1.2.2.1, ⟨hk.1.1.1.1.2.2.2.1, ⟨hk.1.1.1.1.2.2.2.2.1, ⟨hk.1.1.1.1.2.2.2.2.2, hk.1.2⟩⟩⟩⟩⟩⟩⟩, hk.1.1.1.1.2.1⟩)) hg hat); have n1_ := Aside0.mk (blk_grown (g := gb204) (o := .cells #[.int .u32 a0_0, .int .i64 a0_1, .slice A0_2 l0_2.length c0_2, .int .i64 a0_3, .int .i64 a0_4, .int .i64 a0_5, .int .i64 a0_6] 27 (0, 0)) (by (with_reducible repeat (first | refine blk_drewN ?_ _ | refine blk_drew ?_ | refine blk_alloc ?_ _)); refine blk_far ?_ NB204_221.out _; refine blk_far ?_ NB204_221.out _; refine blk_far ?_ NB204_221.out _; refine blk_far ?_ NB204_221.out _; refine blk_far ?_ NB204_221.out _; (with_reducible repeat (first | refine blk_drewN ?_ _ | refine blk_drew ?_ | refine blk_alloc ?_ _)); exact BK204.out) hg (Kd.R_ne HO_208004.out BK204.out (by decide))); have n2_ := Aside0.mk (blk_grown (g := gb205) (o := .cells #[.int .i64 a2_0, .int .u32 a2_1, .slice (some ad208) l2_2.length c2_2] 30 (0, 0)) (by (with_reducible repeat (first | refine blk_drewN ?_ _ | refine blk_drew ?_ | refine blk_alloc ?_ _)); refine blk_far ?_ NB205_221.out _; refine blk_far ?_ NB205_221.out _; refine blk_far ?_ NB205_221.out _; refine blk_far ?_ NB205_221.out _; refine blk_far ?_ NB205_221.out _; (with_reducible repeat (first | refine blk_drewN ?_ _ | refine blk_drew ?_ | refine blk_alloc ?_ _)); exact BK205.out) hg (Kd.R_ne HO_208004.out BK205.out (by decide))); have n3_ := Aside0.mk (blk_grown (g := gb206) (o := .cells #[.int .i64 0, .int .u32 0, .bool false, .slice none 0 0, .slice none 0 0] 34 (0, 0)) (by (with_reducible repeat (first | refine blk_drewN ?_ _ | refine blk_drew ?_ | refine blk_alloc ?_ _)); refine blk_far ?_ NB206_221.out _; refine blk_far ?_ NB206_221.out _; refine blk_far ?_ NB206_221.out _; refine blk_far ?_ NB206_221.out _; refine blk_far ?_ NB206_221.out _; (with_reducible repeat (first | refine blk_drewN ?_ _ | refine blk_drew ?_ | refine blk_alloc ?_ _)); exact BK206.out) hg (Kd.R_ne HO_208004.out BK206.out (by decide))); have n4_ := Aside0.mk (blk_grown (g := gb207) (o := .cells #[.int .i64 0, .int .u32 0, .bool false, .slice none 0 0, u208004] 34 (0, 0)) (by (with_reducible repeat (first | refine blk_drewN ?_ _ | refine blk_drew ?_ | refine blk_alloc ?_ _)); refine blk_far ?_ NB207_221.out _; refine blk_far ?_ NB207_221.out _; refine blk_far ?_ NB207_221.out _; refine blk_far ?_ NB207_221.out _; refine blk_far ?_ NB207_221.out _; (with_reducible repeat (first | refine blk_drewN ?_ _ | refine blk_drew ?_ | refine blk_alloc ?_ _)); exact BK207.out) hg (Kd.R_ne HO_208004.out BK207.out (by decide))); have n5_ := Aside0.mk (Kd.V_afterv (ok := (fun k_ => (P1_ k_ ∨ w.heap.size ≤ k_) ∧ some k_ ≠ (.slice Ao29 t215.length co29 : Value).ownBlock ∧ some k_ ≠ (.slice Ao30 t218.length co30 : Value).ownBlock ∧ k_ ≠ gb204 ∧ k_ ≠ gb205 ∧ k_ ≠ gb206 ∧ k_ ≠ gb207 ∧ k_ ≠ gb221)) (by (with_reducible repeat (first | apply Kd.V_alloc | apply Kd.V_drewN | apply Kd.V_drew)); exact Kd.V_mono (vF5_ (g := gb221) (Kd.V_mono HO211.out (fun k_ hk => (⟨hk, hk.2⟩ : _ ∧ k_ ≠ gb221))) (fun _ hk => hk.2)) (fun _ hk => ⟨⟨hk.1.1.1, ⟨hk.1.1.2.1, ⟨hk.1.1.2.2.1, ⟨hk.1.1.2.2.2.2.1, ⟨hk.1.1.2.2.2.2.2.1, ⟨hk.1.1.2.2.2.2.2.2.1, ⟨hk.1.1.2.2.2.2.2.2.2, hk.1.2⟩⟩⟩⟩⟩⟩⟩, hk.1.1.2.2.2.1⟩)) hg hat); have n6_ := Aside0.mk (Kd.R_over' (by (with_reducible repeat (first | apply Kd.R_alloc | apply Kd.R_drewN | apply Kd.R_drew)); exact (Kd.R_mono (rF5_ (g := gb221) (Kd.R_types HO217.out BK221.out (by decide)) (fun _ hk => hk.2)) (fun _ h_ => h_.1))) (Kd.R_typed (by (with_reducible repeat (first | apply Kd.R_alloc | apply Kd.R_drewN | apply Kd.R_drew)); exact (Kd.R_mono (rF5_ (g := gb221) (Kd.R_types HO_208004.out BK221.out (by decide)) (fun _ hk => hk.2)) (fun _ h_ => h_.1)))) (by decide) hg); have n7_ := Aside0.mk (Kd.R_after (ok := (fun k_ => (w.heap.size ≤ k_))) (by (with_reducible repeat (first | apply Kd.R_alloc | apply Kd.R_drewN | apply Kd.R_drew)); exact Kd.R_mono (rF5_ (g := gb221) (Kd.R_types HO220.out BK221.out (by decide)) (fun _ hk => hk.2)) (fun _ hk => ⟨hk.1.1.1, hk.1.2⟩)) hg hat); have n8_ := Aside0.mk (blk_grown (g := gb221) (o := .cells #[.int .i64 t212, .int .u32 t213, .bool t214, .slice Ao29 t215.length co29, .slice Ao30 t218.length co30] 34 (0, 0)) (by (with_reducible repeat (first | refine blk_drewN ?_ _ | refine blk_drew ?_ | refine blk_alloc ?_ _)); refine blk_put (cs := #[.int .i64 t212, .int .u32 t213, .bool t214, .slice Ao29 t215.length co29, .slice none 0 0]) ?_ 4 _ rfl; refine blk_put (cs := #[.int .i64 t212, .int .u32 t213, .bool t214, .slice none 0 0, .slice none 0 0]) ?_ 3 _ rfl; refine blk_put (cs := #[.int .i64 t212, .int .u32 t213, .bool false, .slice none 0 0, .slice none 0 0]) ?_ 2 _ rfl; refine blk_put (cs := #[.int .i64 t212, .int .u32 0, .bool false, .slice none 0 0, .slice none 0 0]) ?_ 1 _ rfl; refine blk_put (cs := #[.int .i64 0, .int .u32 0, .bool false, .slice none 0 0, .slice none 0 0]) ?_ 0 _ rfl; (with_reducible repeat (first | refine blk_drewN ?_ _ | refine blk_drew ?_ | refine blk_alloc ?_ _)); exact BK221.out) hg (Kd.R_ne HO_208004.out BK221.out (by decide))); have n9_ := Aside0.mk (hb); have n10_ := Aside0.mk (ho); clear HO_1; clear BK204; clear BK205; clear BK206; clear BK207; clear HO211; clear HO217; clear HO220; clear BK221; clear HB; clear HO_208004; have HO_1 := n0_; have BK204 := n1_; have BK205 := n2_; have BK206 := n3_; have BK207 := n4_; have HO211 := n5_; have HO217 := n6_; have HO220 := n7_; have BK221 := n8_; have HB := n9_; have HO224 := n10_; clear n0_ n1_ n2_ n3_ n4_ n5_ n6_ n7_ n8_ n9_ n10_; clear ho hb hg hat; obtain ⟨Ao35, co35, eo35⟩ := Kd.R_slice HO224.out; subst eo35; obtain ⟨hcz36_0, hcz36_1, hcz36_2, hcz36_3, hcz36_4, hfz36_0, hfz36_1, hfz36_2, hfz36_3, hfz36_4⟩ := cz5_ (w := w34) BK207))
       go_roundg k1
       case measure => have := HK1.out; omega
       case rel => exact ⟨(t209), (wrap64 (x16_1 + 1)), (y222), (.slice Ao35 y222.length co35), rs_, H', ⟨by have := HK1.out; omega⟩, ⟨by (with_reducible repeat (first | apply Kd.V_alloc | apply Kd.V_drewN | apply Kd.V_drew)); exact Kd.V_mono (Kd.V_far (p := ⟨gb207, 4, none⟩) (Kd.V_mono HO211.out (fun k_ hk => (⟨hk, hk.1.2.2.2.2.2.2.1⟩ : _ ∧ k_ ≠ gb207))) (fun _ hk => hk.2) (.slice Ao35 y222.length co35)) (fun _ hk => ⟨hk.1.1.1, ⟨hk.1.2, ⟨hk.1.1.2.2.2.1, ⟨hk.1.1.2.2.2.2.1, ⟨hk.1.1.2.2.2.2.2.1, hk.1.1.2.2.2.2.2.2.1⟩⟩⟩⟩⟩)⟩, ⟨by (with_reducible repeat (first | apply Kd.R_alloc | apply Kd.R_drewN | apply Kd.R_drew)); exact Kd.R_mono (Kd.R_far (p := ⟨gb207, 4, none⟩) (Kd.R_types HO224.out BK207.out (by decide)) (fun _ hk => hk.2) (.slice Ao35 y222.length co35)) (fun _ hk => hk.1.1)⟩, ⟨by (with_reducible repeat (first | refine blk_drewN ?_ _ | refine blk_drew ?_ | refine blk_alloc ?_ _)); refine blk_far ?_ NB204_207.out _; (with_reducible repeat (first | refine blk_drewN ?_ _ | refine blk_drew ?_ | refine blk_alloc ?_ _)); exact BK204.out⟩, ⟨by (with_reducible repeat (first | refine blk_drewN ?_ _ | refine blk_drew ?_ | refine blk_alloc ?_ _)); refine blk_far ?_ NB205_207.out _; (with_reducible repeat (first | refine blk_drewN ?_ _ | refine blk_drew ?_ | refine blk_alloc ?_ _)); exact BK205.out⟩, ⟨by (with_reducible repeat (first | refine blk_drewN ?_ _ | refine blk_drew ?_ | refine blk_alloc ?_ _)); refine blk_far ?_ NB206_207.out _; (with_reducible repeat (first | refine blk_drewN ?_ _ | refine blk_drew ?_ | refine blk_alloc ?_ _)); exact BK206.out⟩, ⟨by (with_reducible repeat (first | refine blk_drewN ?_ _ | refine blk_drew ?_ | refine blk_alloc ?_ _)); refine blk_put (cs := #[.int .i64 0, .int .u32 0, .bool false, .slice none 0 0, u208004]) ?_ 4 _ rfl; (with_reducible repeat (first | refine blk_drewN ?_ _ | refine blk_drew ?_ | refine blk_alloc ?_ _)); exact BK207.out⟩, ⟨hB_ HB⟩⟩
      ·rw [if_neg c16] at H
       exact absurd H (by simp)
     ·rw [if_neg c14] at H
      exact absurd H (by simp)
    ·rw [if_neg c13] at H
     exact absurd H (by simp)
   ·rw [if_neg c12] at H
    have c12b0 : decide (x16_1 < (l2_2.length : Int)) = false := decide_eq_false c12
    clear c12
    simp only [Option.some.injEq, Prod.mk.injEq] at H
    obtain ⟨rfl, rfl, rfl, rfl, rfl, rfl⟩ := H
    try go_wp2
    have n0_ := Aside0.mk (Kd.V_drew HO_1.out)
    have n1_ := Aside0.mk (Kd.R_drew HO_208004.out)
    have n2_ := Aside0.mk (blk_drew BK204.out)
    have n3_ := Aside0.mk (blk_drew BK205.out)
    have n4_ := Aside0.mk (blk_drew BK206.out)
    have n5_ := Aside0.mk (blk_drew BK207.out)
    have n6_ := Aside0.mk (below_drew1 HB.out)
    clear HO_1
    clear HO_208004
    clear BK204
    clear BK205
    clear BK206
    clear BK207
    clear HB
    have HO_1 := n0_
    have HO_208004 := n1_
    have BK204 := n2_
    have BK205 := n3_
    have BK206 := n4_
    have BK207 := n5_
    have HB := n6_
    clear n0_ n1_ n2_ n3_ n4_ n5_ n6_
    obtain ⟨Ao42, co42, eo42⟩ := Kd.R_slice HO_208004.out
    (first | subst eo42 | (injection eo42 with f1_ f2_ f3_; have f4_ := f1_.symm; have f5_ := f3_.symm; clear f1_ f2_ f3_; subst f4_; subst f5_))
    refine start_ (n := 4) (S := fun w' => w'.cell? ⟨gb207, 0, none⟩ = some (.int .i64 0) ∧ w'.cell? ⟨gb207, 1, none⟩ = some (.int .u32 0) ∧ w'.cell? ⟨gb207, 2, none⟩ = some (.bool false) ∧ w'.cell? ⟨gb207, 3, none⟩ = some (.slice none 0 0) ∧ w'.cell? ⟨gb207, 4, none⟩ = some (.slice Ao42 x208004_1.length co42)) (ds := []) (tf 4 0) (by kernel_rfl) rfl rfl ⟨(blk_cell BK207.out 0).trans rfl, (blk_cell BK207.out 1).trans rfl, (blk_cell BK207.out 2).trans rfl, (blk_cell BK207.out 3).trans rfl, (blk_cell BK207.out 4).trans rfl⟩ (fun hHeld => ?_)
    generalize wr.drew = w37 at HO_1 HO_208004 BK204 BK205 BK206 BK207 HB hHeld ⊢
    refine pure_ (i := 0) (N := some 37) (v := ?_) (a' := ?_) (tf 4 1) rfl rfl (by kernel_rfl) (fun _ _ _ h => h) (Or.inl ⟨by rfl, ?_⟩) ?_ ?_
    rotate_left
    ·intro w'
     go_simp
     with_reducible rfl
    rotate_left
    ·simp only [Act.put, List.setIfInBounds_toArray, List.set_cons_zero, List.set_cons_succ, i64_w, i32_w]
     rfl
    refine pure_ (i := 2) (N := some 6) (v := ?_) (a' := ?_) (tf 4 5) rfl rfl (by kernel_rfl) (fun _ _ _ h => h) (Or.inl ⟨by rfl, ?_⟩) ?_ ?_
    rotate_left
    ·intro w'
     go_simp
     with_reducible rfl
    rotate_left
    ·simp only [Act.put, List.setIfInBounds_toArray, List.set_cons_zero, List.set_cons_succ, i64_w, i32_w]
     rfl
    refine take_ (i := 1) (N := some 38) (v := ?_) (a' := ?_) (tf 4 7) rfl rfl (by kernel_rfl) (fun _ _ _ h => h) (Or.inl ⟨by rfl, ?_⟩) hHeld ?_ ?_
    rotate_left
    ·rintro w' ⟨s0, s1, s2, s3, s4⟩
     go_simp
     with_reducible rfl
    rotate_left
    ·simp only [Act.put, List.setIfInBounds_toArray, List.set_cons_zero, List.set_cons_succ, i64_w, i32_w]
     rfl
    refine one_ (i := 3) (N := none) (tf 4 15) rfl rfl (by kernel_rfl) (by decide) (fun K hK => ?_)
    have hs38 : w37.cell? ⟨gb206, 0, none⟩ = some (.int .i64 0) := (blk_cell BK206.out 0).trans rfl
    have hfs38 := blk_frozen BK206.out 0
    have hns38_0 := NB204_206.out
    have hns38_1 := NB205_206.out
    have hns38_3 := NB207_206.out
    have hms38_0 := NB206_204.out
    have hms38_1 := NB206_205.out
    have hms38_3 := NB206_207.out
    have hs39 : w37.cell? ⟨gb206, 1, none⟩ = some (.int .u32 0) := (blk_cell BK206.out 1).trans rfl
    have hfs39 := blk_frozen BK206.out 1
    have hns39_0 := NB204_206.out
    have hns39_1 := NB205_206.out
    have hns39_3 := NB207_206.out
    have hms39_0 := NB206_204.out
    have hms39_1 := NB206_205.out
    have hms39_3 := NB206_207.out
    have hs40 : w37.cell? ⟨gb206, 2, none⟩ = some (.bool false) := (blk_cell BK206.out 2).trans rfl
    have hfs40 := blk_frozen BK206.out 2
    have hns40_0 := NB204_206.out
    have hns40_1 := NB205_206.out
    have hns40_3 := NB207_206.out
    have hms40_0 := NB206_204.out
    have hms40_1 := NB206_205.out
    have hms40_3 := NB206_207.out
    have hs41 : w37.cell? ⟨gb206, 3, none⟩ = some (.slice none 0 0) := (blk_cell BK206.out 3).trans rfl
    have hfs41 := blk_frozen BK206.out 3
    have hns41_0 := NB204_206.out
    have hns41_1 := NB205_206.out
    have hns41_3 := NB207_206.out
    have hms41_0 := NB206_204.out
    have hms41_1 := NB206_205.out
    have hms41_3 := NB206_207.out
    have hs43 : w37.cell? ⟨gb206, 4, none⟩ = some (.slice none 0 0) := (blk_cell BK206.out 4).trans rfl
    have hfs43 := blk_frozen BK206.out 4
    have hns43_0 := NB204_206.out
    have hns43_1 := NB205_206.out
    have hns43_3 := NB207_206.out
    have hms43_0 := NB206_204.out
    have hms43_1 := NB206_205.out
    have hms43_3 := NB206_207.out
    refine skip_ (w1 := ?_) (by rfl) rfl ?_ ?_
    rotate_left
    ·go_simp
     rfl
    refine hK.out _ _ ⟨((cell_far (p := ⟨gb206, _, none⟩) NB207_206.out _).trans (((cell_far (p := ⟨gb206, _, none⟩) NB207_206.out _).trans (((cell_far (p := ⟨gb206, _, none⟩) NB207_206.out _).trans (((cell_far (p := ⟨gb206, _, none⟩) NB207_206.out _).trans (((cell_far (p := ⟨gb206, _, none⟩) NB207_206.out _).trans (hHeld.1)))))))))), ((cell_far (p := ⟨gb206, _, none⟩) NB207_206.out _).trans (((cell_far (p := ⟨gb206, _, none⟩) NB207_206.out _).trans (((cell_far (p := ⟨gb206, _, none⟩) NB207_206.out _).trans (((cell_far (p := ⟨gb206, _, none⟩) NB207_206.out _).trans (((cell_far (p := ⟨gb206, _, none⟩) NB207_206.out _).trans (hHeld.2.1)))))))))), ((cell_far (p := ⟨gb206, _, none⟩) NB207_206.out _).trans (((cell_far (p := ⟨gb206, _, none⟩) NB207_206.out _).trans (((cell_far (p := ⟨gb206, _, none⟩) NB207_206.out _).trans (((cell_far (p := ⟨gb206, _, none⟩) NB207_206.out _).trans (((cell_far (p := ⟨gb206, _, none⟩) NB207_206.out _).trans (hHeld.2.2.1)))))))))), ((cell_far (p := ⟨gb206, _, none⟩) NB207_206.out _).trans (((cell_far (p := ⟨gb206, _, none⟩) NB207_206.out _).trans (((cell_far (p := ⟨gb206, _, none⟩) NB207_206.out _).trans (((cell_far (p := ⟨gb206, _, none⟩) NB207_206.out _).trans (((cell_far (p := ⟨gb206, _, none⟩) NB207_206.out _).trans (hHeld.2.2.2.1)))))))))), ((cell_far (p := ⟨gb206, _, none⟩) NB207_206.out _).trans (((cell_far (p := ⟨gb206, _, none⟩) NB207_206.out _).trans (((cell_far (p := ⟨gb206, _, none⟩) NB207_206.out _).trans (((cell_far (p := ⟨gb206, _, none⟩) NB207_206.out _).trans (((cell_far (p := ⟨gb206, _, none⟩) NB207_206.out _).trans (hHeld.2.2.2.2))))))))))⟩ (fun hHeld => ?_)
    clear hK K
    refine done_ (by kernel_rfl) ?_
    try go_wp2
    refine bodyPost_ret (results_tc rfl _ _ gb206 34 #[.int .i64 0, .int .u32 0, .bool false, .slice none 0 0, .slice Ao42 x208004_1.length co42] (0, 0) _ rfl (by (with_reducible repeat (first | refine blk_drewN ?_ _ | refine blk_drew ?_ | refine blk_alloc ?_ _)); refine blk_put (cs := #[.int .i64 0, .int .u32 0, .bool false, .slice none 0 0, .slice none 0 0]) ?_ 4 _ rfl; refine blk_put (cs := #[.int .i64 0, .int .u32 0, .bool false, .slice none 0 0, .slice none 0 0]) ?_ 3 _ rfl; refine blk_put (cs := #[.int .i64 0, .int .u32 0, .bool false, .slice none 0 0, .slice none 0 0]) ?_ 2 _ rfl; refine blk_put (cs := #[.int .i64 0, .int .u32 0, .bool false, .slice none 0 0, .slice none 0 0]) ?_ 1 _ rfl; refine blk_put (cs := #[.int .i64 0, .int .u32 0, .bool false, .slice none 0 0, .slice none 0 0]) ?_ 0 _ rfl; (with_reducible repeat (first | refine blk_drewN ?_ _ | refine blk_drew ?_ | refine blk_alloc ?_ _)); exact BK206.out) Tryd.underlying34 rfl (by kernel_rfl)) rfl ?_
    exact ⟨_, _, _, er_, by (with_reducible repeat (first | apply Kd.V_alloc | apply Kd.V_drewN | apply Kd.V_drew)); exact Kd.V_mono (vF5_ (g := gb206) (Kd.V_mono HO_1.out (fun k_ hk => (⟨hk, hk.2.2.2.2.1⟩ : _ ∧ k_ ≠ gb206))) (fun _ hk => hk.2)) (fun _ hk => ⟨hk.1.1, ⟨(by simp [Value.ownBlock]), hk.1.2.1⟩⟩), by first | exact Kd.R_nil _ _ _ _ _ | exact Kd.N_nil _ _ _ _ _ | exact Kd.V_nil _ _ _ _ _ | exact Kd.Q_nil _ _ _ _ _ | exact Kd.S_nil _ _ _ _ _, by (with_reducible repeat (first | apply Kd.R_alloc | apply Kd.R_drewN | apply Kd.R_drew)); exact Kd.R_mono (rF5_ (g := gb206) (Kd.R_types HO_208004.out BK206.out (by decide)) (fun _ hk => hk.2)) (fun _ hk => hk.1), hB_ HB⟩

/-! ### spec_query: function 78 -/
def spec_query.f (k : Nat) (a0_0 : Int) (a0_1 : Int) (l0_2 : List Int) (a0_3 : Int) (a0_4 : Int) (a0_5 : Int) (a0_6 : Int) (l1 : List Int) (a2_0 : Int) (a2_1 : Int) (l2_2 : List Int) : Option (List Int × Int × Int × Bool × List Int × List Int) := (spec_offset.f k a0_0 a0_1 l0_2 a0_3 a0_4 a0_5 a0_6 a2_1).bind fun t228 => ((model_Has.f k l1 t228).bind fun t229 => (some (l1, 0, 0, t229, ([] : List Int), ([] : List Int))))
theorem spec_query.mono : ∀ a0 a1 a2 a3 a4 a5 a6 a7 a8 a9 a10 k, LeO (spec_query.f k a0 a1 a2 a3 a4 a5 a6 a7 a8 a9 a10) (spec_query.f (k + 1) a0 a1 a2 a3 a4 a5 a6 a7 a8 a9 a10) := by
 intro a0 a1 a2 a3 a4 a5 a6 a7 a8 a9 a10 k
 unfold spec_query.f
 repeat' first
   | (with_reducible exact model_Has.mono _ _ _)
   | (with_reducible exact spec_offset.mono _ _ _ _ _ _ _ _ _)
   | (with_reducible exact LeO.refl _)
   | (with_reducible exact LeO.none _)
   | (with_reducible refine LeO.ite ?_ ?_)
   | (with_reducible refine LeO.bind ?_ (fun _ => ?_))
   | exact model_Has.mono _ _ _
   | exact spec_offset.mono _ _ _ _ _ _ _ _ _
   | exact LeO.none _
   | refine LeO.ite ?_ ?_
   | refine LeO.bind ?_ (fun _ => ?_)
set_option maxHeartbeats 8000000 in
set_option maxRecDepth 100000 in
theorem spec_query.calls (k : Nat) (a0_0 : Int) (a0_1 : Int) (A0_2 : Option Addr) (c0_2 : Nat) (l0_2 : List Int) (a0_3 : Int) (a0_4 : Int) (a0_5 : Int) (a0_6 : Int) (P1_ : Nat → Prop) (A1 : Option Addr) (c1 : Nat) (l1 : List Int) (a2_0 : Int) (a2_1 : Int) (A2_2 : Option Addr) (c2_2 : Nat) (l2_2 : List Int) (r1 : List Int) (r2 : Int) (r3 : Int) (r4 : Bool) (r5 : List Int) (r6 : List Int) (w : World) (hr0_2 : Kd.C (Kd.int .i64) w A0_2 l0_2.length l0_2) (hc0_2 : l0_2.length ≤ c0_2) (hs1 : Kd.V (Kd.int .i64) 3 w w.heap.size (fun k_ => P1_ k_) (.slice A1 l1.length c1) l1) (hr2_2 : Kd.C (Kd.int .u32) w A2_2 l2_2.length l2_2) (hc2_2 : l2_2.length ≤ c2_2) (h : spec_query.f k a0_0 a0_1 l0_2 a0_3 a0_4 a0_5 a0_6 l1 a2_0 a2_1 l2_2 = some (r1, r2, r3, r4, r5, r6)) :
  Calls Tryd.prog 78 #[.agg #[.int .u32 a0_0, .int .i64 a0_1, .slice A0_2 l0_2.length c0_2, .int .i64 a0_3, .int .i64 a0_4, .int .i64 a0_5, .int .i64 a0_6], .slice A1 l1.length c1, .agg #[.int .i64 a2_0, .int .u32 a2_1, .slice A2_2 l2_2.length c2_2]] w fun e w' => ∃ v0_ v4_ v5_ : Value, e = .returned (.tuple #[v0_, .agg #[.int .i64 r2, .int .u32 r3, .bool r4, v4_, v5_]]) ∧ Kd.V (Kd.int .i64) 3 w' w.heap.size (fun k_ => (P1_ k_ ∨ w.heap.size ≤ k_) ∧ some k_ ≠ (v4_ : Value).ownBlock ∧ some k_ ≠ (v5_ : Value).ownBlock) v0_ r1 ∧ Kd.R (Kd.int .u32) 22 w' w.heap.size (fun k_ => (w.heap.size ≤ k_)) v4_ r5 ∧ Kd.R (Kd.int .i64) 31 w' w.heap.size (fun k_ => (w.heap.size ≤ k_)) v5_ r6 ∧ Below w.heap.size w w' := by
 have hu27 := Tryd.underlying27
 have hu30 := Tryd.underlying30
 have hu34 := Tryd.underlying34
 have HR0_2 := Aside0.mk hr0_2
 have HC0_2 := Aside0.mk hc0_2
 clear hr0_2 hc0_2
 have HO1 := Aside0.mk (show Kd.V (Kd.int .i64) 3 w w.heap.size (fun k_ => (P1_ k_ ∨ w.heap.size ≤ k_)) (.slice A1 l1.length c1) l1 from Kd.V_mono hs1 (fun k_ hk => .inl hk))
 have HR2_2 := Aside0.mk hr2_2
 have HC2_2 := Aside0.mk hc2_2
 clear hr2_2 hc2_2
 have HB := Aside0.mk (Below.refl w.heap.size w)
 have H : ((spec_offset.f k a0_0 a0_1 l0_2 a0_3 a0_4 a0_5 a0_6 a2_1).bind fun t228 => ((model_Has.f k l1 t228).bind fun t229 => (some (l1, 0, 0, t229, ([] : List Int), ([] : List Int))))) = some (r1, r2, r3, r4, r5, r6) := h
 clear h
 replace H := Option.bind_eq_some_iff.mp H
 obtain ⟨t228, A40, H⟩ := H
 replace H : ((model_Has.f k l1 t228).bind fun t229 => (some (l1, 0, 0, t229, ([] : List Int), ([] : List Int)))) = some (r1, r2, r3, r4, r5, r6) := H
 have A4 := Aside0.mk A40
 clear A40
 replace H := Option.bind_eq_some_iff.mp H
 obtain ⟨t229, A50, H⟩ := H
 replace H : (some (l1, 0, 0, t229, ([] : List Int), ([] : List Int))) = some (r1, r2, r3, r4, r5, r6) := H
 have A5 := Aside0.mk A50
 clear A50
 simp only [Option.some.injEq, Prod.mk.injEq] at H
 obtain ⟨rfl, rfl, rfl, rfl, rfl, rfl⟩ := H
 go_enter Tryd.func78, Tryd.ntmps78
 go_wp2_with (first | ((with_reducible refine gate_dst (N := 3) rfl ?_); refine box_event ?hg (N := 3) ?hd (cs := #[.int .u32 a0_0, .int .i64 a0_1, .slice A0_2 l0_2.length c0_2, .int .i64 a0_3, .int .i64 a0_4, .int .i64 a0_5, .int .i64 a0_6]) (t := 27) ?hr ?_; (case hd => rfl); (case hg => rfl); (case hr => first | (go_simp; done) | (go_simp; rfl)); intro gb225 hg w6 hbox hb; have n0_ := Aside0.mk (Kd.V_below (Kd.V_elderB (vV_ HO1) gb225 (Nat.le_of_eq hg.symm)) hb); have n2_ := Aside0.mk (hbox); have n3_ := gG_ (w := w) hg HB; have n4_ := gG_ (w := w) hg HB; clear HO1; have HO1 := n0_; have BK225 := n2_; have GW225 := n3_; have GE225 := n4_; replace HB := hS_ HB hb; clear n0_ n2_ n3_ n4_; clear hb hbox hg) | ((with_reducible refine gate_dst (N := 5) rfl ?_); refine box_event ?hg (N := 5) ?hd (cs := #[.int .i64 a2_0, .int .u32 a2_1, .slice A2_2 l2_2.length c2_2]) (t := 30) ?hr ?_; (case hd => rfl); (case hg => rfl); (case hr => first | (go_simp; done) | (go_simp; rfl)); intro gb226 hg w7 hbox hb; have n0_ := Aside0.mk (Kd.V_below (Kd.V_elderB (vV_ HO1) gb226 (Nat.le_of_eq hg.symm)) hb); have n2_ := Aside0.mk (below_step (hB_ HB) hb); have n3_ := Aside0.mk (hbox); have n4_ := gG_ (w := w) hg HB; have n5_ := gG_ (w := w) hg HB; have n6_ := nL_ hg BK225; have n7_ := nG_ hg BK225; clear HO1; clear HB; have HO1 := n0_; have HB := n2_; have BK226 := n3_; have GW226 := n4_; have GE226 := n5_; have NB225_226 := n6_; have NB226_225 := n7_; replace BK225 := bB_ BK225 hb; clear n0_ n2_ n3_ n4_ n5_ n6_ n7_; clear hb hbox hg) | ((with_reducible refine gate_dst (N := 7) rfl ?_); refine box_event ?hg (N := 7) ?hd (cs := #[.int .i64 0, .int .u32 0, .bool false, .slice none 0 0, .slice none 0 0]) (t := 34) ?hr ?_; (case hd => rfl); (case hg => rfl); (case hr => first | (go_simp; done) | (go_simp; rfl)); intro gb227 hg w8 hbox hb; have n0_ := Aside0.mk (Kd.V_below (Kd.V_elderB (vV_ HO1) gb227 (Nat.le_of_eq hg.symm)) hb); have n2_ := bB_ BK226 hb; have n4_ := Aside0.mk (hbox); have n5_ := gG_ (w := w) hg HB; have n6_ := gG_ (w := w) hg HB; have n7_ := nL_ hg BK225; have n8_ := nG_ hg BK225; have n9_ := nL_ hg BK226; have n10_ := nG_ hg BK226; clear HO1; clear BK226; have HO1 := n0_; have BK226 := n2_; have BK227 := n4_; have GW227 := n5_; have GE227 := n6_; have NB225_227 := n7_; have NB227_225 := n8_; have NB226_227 := n9_; have NB227_226 := n10_; replace BK225 := bB_ BK225 hb; replace HB := hS_ HB hb; clear n0_ n2_ n4_ n5_ n6_ n7_ n8_ n9_ n10_; clear hb hbox hg; have hnb9 := NB225_226.out; have hnc9 := NB226_225.out; have hnb10 := NB225_227.out; have hnc10 := NB227_225.out; obtain ⟨hcz11_0, hcz11_1, hcz11_2, hcz11_3, hcz11_4, hcz11_5, hcz11_6, hfz11_0, hfz11_1, hfz11_2, hfz11_3, hfz11_4, hfz11_5, hfz11_6⟩ := cz7_ (w := w8) BK225; have hnb12 := NB226_227.out; have hnc12 := NB227_226.out; obtain ⟨hcz13_0, hcz13_1, hcz13_2, hfz13_0, hfz13_1, hfz13_2⟩ := cz3_ (w := w8) BK226) | ((with_reducible refine gate_callee (f := 82) rfl ?_); refine goesL_ (some 13) rfl rfl Tryd.func82 (by kernel_rfl) rfl #[.agg #[.int .u32 a0_0, .int .i64 a0_1, .slice A0_2 l0_2.length c0_2, .int .i64 a0_3, .int .i64 a0_4, .int .i64 a0_5, .int .i64 a0_6], .int .u32 a2_1] rfl am_ ?_; (with_reducible refine (spec_offset.calls k a0_0 a0_1 _ _ l0_2 a0_3 a0_4 a0_5 a0_6 a2_1 t228 _ ?side1 ?side2 A4.out).mono ?_); (case side1 => exact cC_ HR0_2 HB); (case side2 => exact HC0_2.out); rintro e w14 ⟨rfl, hb⟩; refine ⟨_, rfl, ?_⟩; have n0_ := Aside0.mk (Kd.V_below (vV_ HO1) hb); have n2_ := bB_ BK226 hb; have n4_ := Aside0.mk (below_step (hB_ HB) hb); clear HO1; clear BK226; clear HB; have HO1 := n0_; have BK226 := n2_; have HB := n4_; replace BK225 := bB_ BK225 hb; replace BK227 := bB_ BK227 hb; clear n0_ n2_ n4_; (try clear hb); (try clear hb2); (try clear hk); (try clear hi)) | ((with_reducible refine gate_callee (f := 34) rfl ?_); refine goesL_ (some 14) rfl rfl Tryd.func34 (by kernel_rfl) rfl #[.slice A1 l1.length c1, .int .i64 t228] rfl am_ ?_; (with_reducible refine (model_Has.calls k _ _ l1 t228 t229 _ ?side1 ?side2 A5.out).mono ?_); (case side1 => repeat (first | exact (Kd.V_reads' HO1.out).2.2 | (with_reducible refine Kd.C_alloc ?_ _) | (with_reducible refine Kd.C_drewN ?_ _) | (with_reducible refine Kd.C_drew ?_))); (case side2 => exact (Kd.V_reads' HO1.out).2.1); rintro e w' ⟨rfl, ⟨nd, rfl⟩⟩; refine ⟨_, rfl, ?_⟩; (try (rw [drewN_self w14]; generalize hq_ : World.drewN w14 _ = w14; have n0_ := Aside0.mk (V_atq hq_ HO1.out); have n1_ := Aside0.mk (blk_at hq_ BK225.out); have n2_ := Aside0.mk (blk_at hq_ BK226.out); have n3_ := Aside0.mk (blk_at hq_ BK227.out); have n4_ := Aside0.mk (below_at hq_ HB.out); clear hq_ HO1 BK225 BK226 BK227 HB; have HO1 := n0_; have BK225 := n1_; have BK226 := n2_; have BK227 := n3_; have HB := n4_; clear n0_ n1_ n2_ n3_ n4_)); obtain ⟨hcz15_0, hcz15_1, hcz15_2, hcz15_3, hcz15_4, hfz15_0, hfz15_1, hfz15_2, hfz15_3, hfz15_4⟩ := cz5_ (w := w14) BK227))
 refine bodyPost_ret (results_tc rfl _ _ gb227 34 #[.int .i64 0, .int .u32 0, .bool t229, .slice none 0 0, .slice none 0 0] (0, 0) _ rfl (by (with_reducible repeat (first | refine blk_drewN ?_ _ | refine blk_drew ?_ | refine blk_alloc ?_ _)); refine blk_put (cs := #[.int .i64 0, .int .u32 0, .bool t229, .slice none 0 0, .slice none 0 0]) ?_ 4 _ rfl; refine blk_put (cs := #[.int .i64 0, .int .u32 0, .bool t229, .slice none 0 0, .slice none 0 0]) ?_ 3 _ rfl; refine blk_put (cs := #[.int .i64 0, .int .u32 0, .bool false, .slice none 0 0, .slice none 0 0]) ?_ 2 _ rfl; refine blk_put (cs := #[.int .i64 0, .int .u32 0, .bool false, .slice none 0 0, .slice none 0 0]) ?_ 1 _ rfl; refine blk_put (cs := #[.int .i64 0, .int .u32 0, .bool false, .slice none 0 0, .slice none 0 0]) ?_ 0 _ rfl; (with_reducible repeat (first | refine blk_drewN ?_ _ | refine blk_drew ?_ | refine blk_alloc ?_ _)); exact BK227.out) Tryd.underlying34 rfl (by kernel_rfl)) rfl ?_
 exact ⟨_, _, _, er_, by (with_reducible repeat (first | apply Kd.V_alloc | apply Kd.V_drewN | apply Kd.V_drew)); exact Kd.V_mono (vF5_ (g := gb227) (Kd.V_mono HO1.out (fun k_ hk => (⟨hk, hk.2⟩ : _ ∧ k_ ≠ gb227))) (fun _ hk => hk.2)) (fun _ hk => ⟨hk.1.1.1.1, ⟨(by simp [Value.ownBlock]), (by simp [Value.ownBlock])⟩⟩), by first | exact Kd.R_nil _ _ _ _ _ | exact Kd.N_nil _ _ _ _ _ | exact Kd.V_nil _ _ _ _ _ | exact Kd.Q_nil _ _ _ _ _ | exact Kd.S_nil _ _ _ _ _, by first | exact Kd.R_nil _ _ _ _ _ | exact Kd.N_nil _ _ _ _ _ | exact Kd.V_nil _ _ _ _ _ | exact Kd.Q_nil _ _ _ _ _ | exact Kd.S_nil _ _ _ _ _, hB_ HB⟩

end Go.Proofs.YtkiimboedgnoiaaDoor.PSpecFull
