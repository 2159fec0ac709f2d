/- The walk of SpecLegal, part of it: what the Go functions answer; no condition. -/
import Derived.Test.YtkiimboedgnoiaaDoorQSpecLegalx0
import Derived.Test.YtkiimboedgnoiaaDoorQSpecLegalx1
import Derived.Test.YtkiimboedgnoiaaDoorQSpecLegalx2
import Derived.Test.YtkiimboedgnoiaaDoorQSpecLegalx3
import Derived.Test.YtkiimboedgnoiaaDoorQSpecLegalx4
namespace Go.Proofs.YtkiimboedgnoiaaDoor.PSpecLegal
open Go.RowKit Go.Proofs.YtkiimboedgnoiaaDoorW.PrintWords Go.Proofs.YtkiimboedgnoiaaDoorW.PrintLast Go.Proofs.YtkiimboedgnoiaaDoorW.PrintMore
attribute [local go_sem] max2_int min2_int max_two min_two max_three min_three max_four min_four   -- for this text's walks alone
set_option linter.unusedVariables false
set_option linter.unusedSimpArgs false

/-! ### model_Addrs: function 84 -/
def model_Addrs.l0 : Nat → List Int → List Int → Int → Int → Int → Int → List Int → Int → Int → Int → Int → Option (List Int)
 | 0, _, _, _, _, _, _, _, _, _, _, _ => none
 | k + 1, x5, x8, x9, x10, x231000, x231001, x231002, x231003, x231004, x231005, x231006 => if x10 < x9 then (if 0 ≤ x10 then (if x10 < (x8.length : Int) then ((block_Address.f x231000 x231001 (rd x8 x10)).bind fun t232 => (if x5.length < 35184372088832 then (model_Addrs.l0 k (x5 ++ [t232]) x8 x9 (wrap64 (x10 + 1)) x231000 x231001 x231002 x231003 x231004 x231005 x231006) else (none))) else (none)) else (none)) else (some x5)
def model_Addrs.f (k : Nat) (a0_0 : Int) (a0_1 : Int) (l0_2 : List Int) (a0_3 : Int) (a0_4 : Int) (a0_5 : Int) (a0_6 : Int) (l1 : List Int) : Option (List Int) := model_Addrs.l0 k ([] : List Int) l1 (l1.length : Int) 0 a0_0 a0_1 l0_2 a0_3 a0_4 a0_5 a0_6
theorem model_Addrs.mono_l : ∀ k, (∀ y0 y1 y2 y3 y4 y5 y6 y7 y8 y9 y10, LeO (model_Addrs.l0 k y0 y1 y2 y3 y4 y5 y6 y7 y8 y9 y10) (model_Addrs.l0 (k + 1) y0 y1 y2 y3 y4 y5 y6 y7 y8 y9 y10))
 | 0 => fun _ _ _ _ _ _ _ _ _ _ _ r h => by simp [model_Addrs.l0] at h
 | k + 1 => by
  have ih0 := model_Addrs.mono_l k
  ·intro y0 y1 y2 y3 y4 y5 y6 y7 y8 y9 y10
   unfold model_Addrs.l0
   repeat' first
   | (with_reducible exact ih0 _ _ _ _ _ _ _ _ _ _ _)
   | (with_reducible exact LeO.refl _)
   | (with_reducible exact LeO.none _)
   | (with_reducible refine LeO.ite ?_ ?_)
   | (with_reducible refine LeO.bind ?_ (fun _ => ?_))
   | exact ih0 _ _ _ _ _ _ _ _ _ _ _
   | exact LeO.none _
   | refine LeO.ite ?_ ?_
   | refine LeO.bind ?_ (fun _ => ?_)
theorem model_Addrs.mono : ∀ a0 a1 a2 a3 a4 a5 a6 a7 k, LeO (model_Addrs.f k a0 a1 a2 a3 a4 a5 a6 a7) (model_Addrs.f (k + 1) a0 a1 a2 a3 a4 a5 a6 a7) := by
 intro a0 a1 a2 a3 a4 a5 a6 a7 k
 have ih0 := model_Addrs.mono_l k
 unfold model_Addrs.f
 repeat' first
   | (with_reducible exact ih0 _ _ _ _ _ _ _ _ _ _ _)
   | (with_reducible exact LeO.refl _)
   | (with_reducible exact LeO.none _)
   | (with_reducible refine LeO.ite ?_ ?_)
   | (with_reducible refine LeO.bind ?_ (fun _ => ?_))
   | exact ih0 _ _ _ _ _ _ _ _ _ _ _
   | exact LeO.none _
   | refine LeO.ite ?_ ?_
   | refine LeO.bind ?_ (fun _ => ?_)
set_option maxHeartbeats 8000000 in
set_option maxRecDepth 100000 in
theorem model_Addrs.calls (k : Nat) (a0_0 : Int) (a0_1 : Int) (A0_2 : Option Addr) (c0_2 : Nat) (l0_2 : List Int) (a0_3 : Int) (a0_4 : Int) (a0_5 : Int) (a0_6 : Int) (A1 : Option Addr) (c1 : Nat) (l1 : List Int) (r : List Int) (w : World) (hr0_2 : Kd.C (Kd.int .i64) w A0_2 l0_2.length l0_2) (hc0_2 : l0_2.length ≤ c0_2) (hr1 : Kd.C (Kd.int .i64) w A1 l1.length l1) (hc1 : l1.length ≤ c1) (h : model_Addrs.f k a0_0 a0_1 l0_2 a0_3 a0_4 a0_5 a0_6 l1 = some r) :
  Calls Tryd.prog 84 #[.agg #[.int .u32 a0_0, .int .i64 a0_1, .slice A0_2 l0_2.length c0_2, .int .i64 a0_3, .int .i64 a0_4, .int .i64 a0_5, .int .i64 a0_6], .slice A1 l1.length c1] w fun e w' => ∃ v0_ : Value, e = .returned (v0_) ∧ Kd.R (Kd.int .u32) 22 w' w.heap.size (fun _ => True) v0_ r ∧ Below w.heap.size w w' := by
 have hu27 := Tryd.underlying27
 have hu24 := Tryd.underlying24
 have HR0_2 := Aside0.mk hr0_2
 have HC0_2 := Aside0.mk hc0_2
 clear hr0_2 hc0_2
 have HR1 := Aside0.mk hr1
 have HC1 := Aside0.mk hc1
 clear hr1 hc1
 have HB := Aside0.mk (Below.refl w.heap.size w)
 have H : (model_Addrs.l0 k ([] : List Int) l1 (l1.length : Int) 0 a0_0 a0_1 l0_2 a0_3 a0_4 a0_5 a0_6) = some r := h
 clear h
 have H' := Aside0.mk H
 clear H
 go_enter Tryd.func84, Tryd.ntmps84
 go_wp2_with (first | ((with_reducible refine gate_dst (N := 2) rfl ?_); refine box_event ?hg (N := 2) ?hd (cs := #[.int .u32 a0_0, .int .i64 a0_1, .slice A0_2 l0_2.length c0_2, .int .i64 a0_3, .int .i64 a0_4, .int .i64 a0_5, .int .i64 a0_6]) (t := 27) ?hr ?_; (case hd => rfl); (case hg => rfl); (case hr => first | (go_simp; done) | (go_simp; rfl)); intro gb230 hg w3 hbox hb; have n1_ := Aside0.mk (hbox); have n2_ := gG_ (w := w) hg HB; have n3_ := gG_ (w := w) hg HB; have BK230 := n1_; have GW230 := n2_; have GE230 := n3_; replace HB := hS_ HB hb; clear n1_ n2_ n3_; clear hb hbox hg))
 go_loopg [5, 10] k (fun kq v5 v10 w' => ∃ (x5_1 : List Int) (x10_1 : Int), v10 = .int .i64 x10_1 ∧ Aside0 (model_Addrs.l0 kq x5_1 l1 (l1.length : Int) x10_1 a0_0 a0_1 l0_2 a0_3 a0_4 a0_5 a0_6 = some r) ∧ Aside0 (kq ≤ k) ∧ Aside0 (Kd.R (Kd.int .u32) 22 w' w.heap.size (fun _ => True) v5 x5_1) ∧ Aside0 (w'.heap[gb230]? = some (.cells #[.int .u32 a0_0, .int .i64 a0_1, (.slice A0_2 l0_2.length c0_2), .int .i64 a0_3, .int .i64 a0_4, .int .i64 a0_5, .int .i64 a0_6] 27 (0, 0))) ∧ Aside0 (Below w.heap.size w w'))
 case atStart => exact ⟨(([] : List Int)), (0), rs_, H', ⟨Nat.le_refl _⟩, ⟨by first | exact Kd.R_nil _ _ _ _ _ | exact Kd.N_nil _ _ _ _ _ | exact Kd.V_nil _ _ _ _ _ | exact Kd.Q_nil _ _ _ _ _ | exact Kd.S_nil _ _ _ _ _⟩, ⟨bk_ BK230⟩, ⟨hB_ HB⟩⟩
 case round =>
  clear H'
  try clear c1
  try clear p2
  obtain ⟨x5_1, x10_1, rfl, HA, HK1, HO_5, BK230, HB⟩ := hrel
  cases gk with
  | zero => exact absurd HA.out (by simp [model_Addrs.l0])
  | succ k1 =>
   have H := HA.out; clear HA; simp only [model_Addrs.l0] at H
   by_cases c4 : x10_1 < (l1.length : Int)
   ·rw [if_pos c4] at H
    have c4b0 : decide (x10_1 < (l1.length : Int)) = true := decide_eq_true c4
    clear c4
    by_cases c5 : 0 ≤ x10_1
    ·rw [if_pos c5] at H
     have c5b0 : decide (0 ≤ x10_1) = true := decide_eq_true c5
     clear c5
     by_cases c6 : x10_1 < (l1.length : Int)
     ·rw [if_pos c6] at H
      have c6b0 : decide (x10_1 < (l1.length : Int)) = true := decide_eq_true c6
      clear c6; replace H := Option.bind_eq_some_iff.mp H; obtain ⟨t232, A70, H⟩ := H
      replace H : (if x5_1.length < 35184372088832 then (model_Addrs.l0 k1 (x5_1 ++ [t232]) l1 (l1.length : Int) (wrap64 (x10_1 + 1)) a0_0 a0_1 l0_2 a0_3 a0_4 a0_5 a0_6) else (none)) = some r := H
      have A7 := Aside0.mk A70; clear A70
      by_cases c8 : x5_1.length < 35184372088832
      ·rw [if_pos c8] at H
       have LMc8 := Aside0.mk c8; clear c8; obtain ⟨y233, hy233⟩ : ∃ y_ : List Int, y_ = (x5_1 ++ [t232]) := ⟨_, rfl⟩
       replace H : (model_Addrs.l0 k1 y233 l1 (l1.length : Int) (wrap64 (x10_1 + 1)) a0_0 a0_1 l0_2 a0_3 a0_4 a0_5 a0_6) = some r := by first | (rw [hy233]; with_reducible exact H) | (have H2_ := (Option.bind_some _ _).symm.trans H; rw [hy233]; with_reducible exact H2_) | (have H2_ := (Option.bind_some _ _).symm.trans H; with_reducible exact H2_) | with_reducible exact H | (rw [hy233]; exact H) | exact H
       have Ny233 := Aside0.mk hy233; clear hy233
       have H' := Aside0.mk H
       clear H
       have p231 : 0 ≤ (x10_1 : Int) := od_
       have q231 : x10_1 < (l1.length : Int) := od_
       obtain ⟨ad231, e231, hx231_0⟩ := Kd.at_int HR1.out x10_1 p231 q231
       cases e231
       replace hx231_0 := (HB.out.cell (World.block_lt_of_cell? w _ hx231_0)).trans hx231_0; replace p231 := eq_true p231; replace q231 := eq_true q231; obtain ⟨hcz9_0, hcz9_1, hcz9_2, hcz9_3, hcz9_4, hcz9_5, hcz9_6, hfz9_0, hfz9_1, hfz9_2, hfz9_3, hfz9_4, hfz9_5, hfz9_6⟩ := cz7_ (w := wr) BK230
       go_wp2_with (first | ((with_reducible refine gate_callee (f := 81) rfl ?_); refine goesL_ (some 18) rfl rfl Tryd.func81 (by kernel_rfl) rfl #[.agg #[.int .u32 a0_0, .int .i64 a0_1], .int .i64 (rd l1 x10_1)] rfl am_ ?_; (with_reducible refine (block_Address.calls a0_0 a0_1 (rd l1 x10_1) t232 _ A7.out).mono ?_); rintro e w10 ⟨rfl, hb⟩; refine ⟨_, rfl, ?_⟩; have n0_ := Aside0.mk (Kd.R_below (rR_ HO_5) hb); have n2_ := Aside0.mk (below_step (hB_ HB) hb); clear HO_5; clear HB; have HO_5 := n0_; have HB := n2_; replace BK230 := bB_ BK230 hb; clear n0_ n2_; (try clear hb); (try clear hb2); (try clear hk); (try clear hi)) | ((with_reducible refine gate_builtin (b := .append) (xs := #[.tmp 14, .tmp 19]) rfl ?_); at_builtin; refine Kd.R_append (Kd.int .u32) (w0 := w) w.heap.size rfl (.tmp 14) (.tmp 19) 28 22 (.int .u32 0) 4 rfl Tryd.underlying28 info22 rfl (by decide) (by omega) u5 x5_1 t232 [.int .u32 t232] (fun _ => True) (fun _ => False) rfl rfl ?aP (fun _ hk => hk.elim) ?aF ?aO ?aB ?aS ?aL ?_; (case aP => exact rfl); (case aB => exact (hB_ HB)); (case aF => exact (fun _ _ => trivial)); (case aO => exact (rR_ HO_5)); (case aS => exact (below_size (hB_ HB))); (case aL => have := LMc8.out; omega); intro v234 w11 ho hb hg hat; rw [← Ny233.out] at ho; have n0_ := Aside0.mk (blk_grown (g := gb230) (o := .cells #[.int .u32 a0_0, .int .i64 a0_1, .slice A0_2 l0_2.length c0_2, .int .i64 a0_3, .int .i64 a0_4, .int .i64 a0_5, .int .i64 a0_6] 27 (0, 0)) (bk_ BK230) hg (Kd.R_ne HO_5.out BK230.out (by decide))); have n1_ := Aside0.mk (hb); have n2_ := Aside0.mk (ho); clear BK230; clear HB; clear HO_5; have BK230 := n0_; have HB := n1_; have HO235 := n2_; clear n0_ n1_ n2_; clear ho hb hg hat))
       go_roundg k1
       case measure => have := HK1.out; omega
       case rel => exact ⟨(y233), (wrap64 (x10_1 + 1)), rs_, H', ⟨by have := HK1.out; omega⟩, ⟨by (with_reducible repeat (first | apply Kd.R_alloc | apply Kd.R_drewN | apply Kd.R_drew)); exact HO235.out⟩, ⟨bk_ BK230⟩, ⟨hB_ HB⟩⟩
      ·rw [if_neg c8] at H
       exact absurd H (by simp)
     ·rw [if_neg c6] at H
      exact absurd H (by simp)
    ·rw [if_neg c5] at H
     exact absurd H (by simp)
   ·rw [if_neg c4] at H
    have c4b0 : decide (x10_1 < (l1.length : Int)) = false := decide_eq_false c4
    clear c4
    obtain rfl := Option.some.inj H
    go_wp2
    go_ret
    exact ⟨_, er_, by (with_reducible repeat (first | apply Kd.R_alloc | apply Kd.R_drewN | apply Kd.R_drew)); exact HO_5.out, hB_ HB⟩

/-! ### spec_snapshot: function 79 -/
def spec_snapshot.f (k : Nat) (a0_0 : Int) (a0_1 : Int) (l0_2 : List Int) (a0_3 : Int) (a0_4 : Int) (a0_5 : Int) (a0_6 : Int) (l1 : List Int) (a2_0 : Int) (a2_1 : Int) (l2_2 : List Int) : Option (List Int × Int × Int × Bool × List Int × List Int) := (model_Addrs.f k a0_0 a0_1 l0_2 a0_3 a0_4 a0_5 a0_6 l1).bind fun t239 => (some (l1, 0, 0, false, t239, ([] : List Int)))
theorem spec_snapshot.mono : ∀ a0 a1 a2 a3 a4 a5 a6 a7 a8 a9 a10 k, LeO (spec_snapshot.f k a0 a1 a2 a3 a4 a5 a6 a7 a8 a9 a10) (spec_snapshot.f (k + 1) a0 a1 a2 a3 a4 a5 a6 a7 a8 a9 a10) := by
 intro a0 a1 a2 a3 a4 a5 a6 a7 a8 a9 a10 k
 unfold spec_snapshot.f
 repeat' first
   | (with_reducible exact model_Addrs.mono _ _ _ _ _ _ _ _ _)
   | (with_reducible exact LeO.refl _)
   | (with_reducible exact LeO.none _)
   | (with_reducible refine LeO.ite ?_ ?_)
   | (with_reducible refine LeO.bind ?_ (fun _ => ?_))
   | exact model_Addrs.mono _ _ _ _ _ _ _ _ _
   | exact LeO.none _
   | refine LeO.ite ?_ ?_
   | refine LeO.bind ?_ (fun _ => ?_)
set_option maxHeartbeats 8000000 in
set_option maxRecDepth 100000 in
theorem spec_snapshot.calls (k : Nat) (a0_0 : Int) (a0_1 : Int) (A0_2 : Option Addr) (c0_2 : Nat) (l0_2 : List Int) (a0_3 : Int) (a0_4 : Int) (a0_5 : Int) (a0_6 : Int) (P1_ : Nat → Prop) (A1 : Option Addr) (c1 : Nat) (l1 : List Int) (a2_0 : Int) (a2_1 : Int) (A2_2 : Option Addr) (c2_2 : Nat) (l2_2 : List Int) (r1 : List Int) (r2 : Int) (r3 : Int) (r4 : Bool) (r5 : List Int) (r6 : List Int) (w : World) (hr0_2 : Kd.C (Kd.int .i64) w A0_2 l0_2.length l0_2) (hc0_2 : l0_2.length ≤ c0_2) (hs1 : Kd.V (Kd.int .i64) 3 w w.heap.size (fun k_ => P1_ k_) (.slice A1 l1.length c1) l1) (hr2_2 : Kd.C (Kd.int .u32) w A2_2 l2_2.length l2_2) (hc2_2 : l2_2.length ≤ c2_2) (h : spec_snapshot.f k a0_0 a0_1 l0_2 a0_3 a0_4 a0_5 a0_6 l1 a2_0 a2_1 l2_2 = some (r1, r2, r3, r4, r5, r6)) :
  Calls Tryd.prog 79 #[.agg #[.int .u32 a0_0, .int .i64 a0_1, .slice A0_2 l0_2.length c0_2, .int .i64 a0_3, .int .i64 a0_4, .int .i64 a0_5, .int .i64 a0_6], .slice A1 l1.length c1, .agg #[.int .i64 a2_0, .int .u32 a2_1, .slice A2_2 l2_2.length c2_2]] w fun e w' => ∃ v0_ v4_ v5_ : Value, e = .returned (.tuple #[v0_, .agg #[.int .i64 r2, .int .u32 r3, .bool r4, v4_, v5_]]) ∧ Kd.V (Kd.int .i64) 3 w' w.heap.size (fun k_ => (P1_ k_ ∨ w.heap.size ≤ k_) ∧ some k_ ≠ (v4_ : Value).ownBlock ∧ some k_ ≠ (v5_ : Value).ownBlock) v0_ r1 ∧ Kd.R (Kd.int .u32) 22 w' w.heap.size (fun k_ => (w.heap.size ≤ k_)) v4_ r5 ∧ Kd.R (Kd.int .i64) 31 w' w.heap.size (fun k_ => (w.heap.size ≤ k_)) v5_ r6 ∧ Below w.heap.size w w' := by
 have hu27 := Tryd.underlying27
 have hu30 := Tryd.underlying30
 have hu34 := Tryd.underlying34
 have HR0_2 := Aside0.mk hr0_2
 have HC0_2 := Aside0.mk hc0_2
 clear hr0_2 hc0_2
 have HO1 := Aside0.mk (show Kd.V (Kd.int .i64) 3 w w.heap.size (fun k_ => (P1_ k_ ∨ w.heap.size ≤ k_)) (.slice A1 l1.length c1) l1 from Kd.V_mono hs1 (fun k_ hk => .inl hk))
 have HR2_2 := Aside0.mk hr2_2
 have HC2_2 := Aside0.mk hc2_2
 clear hr2_2 hc2_2
 have HB := Aside0.mk (Below.refl w.heap.size w)
 have H : ((model_Addrs.f k a0_0 a0_1 l0_2 a0_3 a0_4 a0_5 a0_6 l1).bind fun t239 => (some (l1, 0, 0, false, t239, ([] : List Int)))) = some (r1, r2, r3, r4, r5, r6) := h
 clear h
 replace H := Option.bind_eq_some_iff.mp H
 obtain ⟨t239, A40, H⟩ := H
 replace H : (some (l1, 0, 0, false, t239, ([] : List Int))) = some (r1, r2, r3, r4, r5, r6) := H
 have A4 := Aside0.mk A40
 clear A40
 simp only [Option.some.injEq, Prod.mk.injEq] at H
 obtain ⟨rfl, rfl, rfl, rfl, rfl, rfl⟩ := H
 go_enter Tryd.func79, Tryd.ntmps79
 go_wp2_with (first | ((with_reducible refine gate_dst (N := 3) rfl ?_); refine box_event ?hg (N := 3) ?hd (cs := #[.int .u32 a0_0, .int .i64 a0_1, .slice A0_2 l0_2.length c0_2, .int .i64 a0_3, .int .i64 a0_4, .int .i64 a0_5, .int .i64 a0_6]) (t := 27) ?hr ?_; (case hd => rfl); (case hg => rfl); (case hr => first | (go_simp; done) | (go_simp; rfl)); intro gb236 hg w5 hbox hb; have n0_ := Aside0.mk (Kd.V_below (Kd.V_elderB (vV_ HO1) gb236 (Nat.le_of_eq hg.symm)) hb); have n2_ := Aside0.mk (hbox); have n3_ := gG_ (w := w) hg HB; have n4_ := gG_ (w := w) hg HB; clear HO1; have HO1 := n0_; have BK236 := n2_; have GW236 := n3_; have GE236 := n4_; replace HB := hS_ HB hb; clear n0_ n2_ n3_ n4_; clear hb hbox hg) | ((with_reducible refine gate_dst (N := 5) rfl ?_); refine box_event ?hg (N := 5) ?hd (cs := #[.int .i64 a2_0, .int .u32 a2_1, .slice A2_2 l2_2.length c2_2]) (t := 30) ?hr ?_; (case hd => rfl); (case hg => rfl); (case hr => first | (go_simp; done) | (go_simp; rfl)); intro gb237 hg w6 hbox hb; have n0_ := Aside0.mk (Kd.V_below (Kd.V_elderB (vV_ HO1) gb237 (Nat.le_of_eq hg.symm)) hb); have n2_ := Aside0.mk (below_step (hB_ HB) hb); have n3_ := Aside0.mk (hbox); have n4_ := gG_ (w := w) hg HB; have n5_ := gG_ (w := w) hg HB; have n6_ := nL_ hg BK236; have n7_ := nG_ hg BK236; clear HO1; clear HB; have HO1 := n0_; have HB := n2_; have BK237 := n3_; have GW237 := n4_; have GE237 := n5_; have NB236_237 := n6_; have NB237_236 := n7_; replace BK236 := bB_ BK236 hb; clear n0_ n2_ n3_ n4_ n5_ n6_ n7_; clear hb hbox hg) | ((with_reducible refine gate_dst (N := 7) rfl ?_); refine box_event ?hg (N := 7) ?hd (cs := #[.int .i64 0, .int .u32 0, .bool false, .slice none 0 0, .slice none 0 0]) (t := 34) ?hr ?_; (case hd => rfl); (case hg => rfl); (case hr => first | (go_simp; done) | (go_simp; rfl)); intro gb238 hg w7 hbox hb; have n0_ := Aside0.mk (Kd.V_below (Kd.V_elderB (vV_ HO1) gb238 (Nat.le_of_eq hg.symm)) hb); have n2_ := bB_ BK237 hb; have n4_ := Aside0.mk (hbox); have n5_ := gG_ (w := w) hg HB; have n6_ := gG_ (w := w) hg HB; have n7_ := nL_ hg BK236; have n8_ := nG_ hg BK236; have n9_ := nL_ hg BK237; have n10_ := nG_ hg BK237; clear HO1; clear BK237; have HO1 := n0_; have BK237 := n2_; have BK238 := n4_; have GW238 := n5_; have GE238 := n6_; have NB236_238 := n7_; have NB238_236 := n8_; have NB237_238 := n9_; have NB238_237 := n10_; replace BK236 := bB_ BK236 hb; replace HB := hS_ HB hb; clear n0_ n2_ n4_ n5_ n6_ n7_ n8_ n9_ n10_; clear hb hbox hg; have hnb8 := NB236_237.out; have hnc8 := NB237_236.out; have hnb9 := NB236_238.out; have hnc9 := NB238_236.out; obtain ⟨hcz10_0, hcz10_1, hcz10_2, hcz10_3, hcz10_4, hcz10_5, hcz10_6, hfz10_0, hfz10_1, hfz10_2, hfz10_3, hfz10_4, hfz10_5, hfz10_6⟩ := cz7_ (w := w7) BK236) | ((with_reducible refine gate_callee (f := 84) rfl ?_); refine goesL_ (some 11) rfl rfl Tryd.func84 (by kernel_rfl) rfl #[.agg #[.int .u32 a0_0, .int .i64 a0_1, .slice A0_2 l0_2.length c0_2, .int .i64 a0_3, .int .i64 a0_4, .int .i64 a0_5, .int .i64 a0_6], .slice A1 l1.length c1] rfl am_ ?_; (with_reducible refine (model_Addrs.calls k a0_0 a0_1 _ _ l0_2 a0_3 a0_4 a0_5 a0_6 _ _ l1 t239 _ ?side1 ?side2 ?side3 ?side4 A4.out).mono ?_); (case side1 => exact cC_ HR0_2 HB); (case side2 => exact HC0_2.out); (case side3 => repeat (first | exact (Kd.V_reads' HO1.out).2.2 | (with_reducible refine Kd.C_alloc ?_ _) | (with_reducible refine Kd.C_drewN ?_ _) | (with_reducible refine Kd.C_drew ?_))); (case side4 => exact (Kd.V_reads' HO1.out).2.1); rintro e w11 ⟨v240, rfl, ho0, hb⟩; refine ⟨_, rfl, ?_⟩; have n0_ := Aside0.mk (Kd.V_elder' (vV_ HO1) (Kd.R_base ho0) hb); have n1_ := Aside0.mk (Kd.R_lower (Kd.R_newM (M := fun k_ => (w.heap.size ≤ k_)) ho0 (below_size (hB_ HB)) (fun k_ h_ => h_)) (below_size (hB_ HB))); have n3_ := bB_ BK237 hb; have n5_ := Aside0.mk (below_step (hB_ HB) hb); clear HO1; clear BK237; clear HB; have HO1 := n0_; have HO241 := n1_; have BK237 := n3_; have HB := n5_; replace BK236 := bB_ BK236 hb; replace BK238 := bB_ BK238 hb; clear n0_ n1_ n3_ n5_; (try clear hb); (try clear hb2); (try clear hk); (try clear hi); (try clear ho0); obtain ⟨Ao12, co12, eo12⟩ := Kd.R_slice HO241.out; subst eo12; have hnb13 := NB238_237.out; have hnc13 := NB237_238.out; obtain ⟨hcz14_0, hcz14_1, hcz14_2, hcz14_3, hcz14_4, hfz14_0, hfz14_1, hfz14_2, hfz14_3, hfz14_4⟩ := cz5_ (w := w11) BK238))
 refine bodyPost_ret (results_tc rfl _ _ gb238 34 #[.int .i64 0, .int .u32 0, .bool false, .slice Ao12 t239.length co12, .slice none 0 0] (0, 0) _ rfl (by (with_reducible repeat (first | refine blk_drewN ?_ _ | refine blk_drew ?_ | refine blk_alloc ?_ _)); refine blk_put (cs := #[.int .i64 0, .int .u32 0, .bool false, .slice Ao12 t239.length co12, .slice none 0 0]) ?_ 4 _ rfl; refine blk_put (cs := #[.int .i64 0, .int .u32 0, .bool false, .slice none 0 0, .slice none 0 0]) ?_ 3 _ rfl; refine blk_put (cs := #[.int .i64 0, .int .u32 0, .bool false, .slice none 0 0, .slice none 0 0]) ?_ 2 _ rfl; refine blk_put (cs := #[.int .i64 0, .int .u32 0, .bool false, .slice none 0 0, .slice none 0 0]) ?_ 1 _ rfl; refine blk_put (cs := #[.int .i64 0, .int .u32 0, .bool false, .slice none 0 0, .slice none 0 0]) ?_ 0 _ rfl; (with_reducible repeat (first | refine blk_drewN ?_ _ | refine blk_drew ?_ | refine blk_alloc ?_ _)); exact BK238.out) Tryd.underlying34 rfl (by kernel_rfl)) rfl ?_
 exact ⟨_, _, _, er_, by (with_reducible repeat (first | apply Kd.V_alloc | apply Kd.V_drewN | apply Kd.V_drew)); exact Kd.V_mono (vF5_ (g := gb238) (Kd.V_mono HO1.out (fun k_ hk => (⟨hk, hk.1.2⟩ : _ ∧ k_ ≠ gb238))) (fun _ hk => hk.2)) (fun _ hk => ⟨hk.1.1.1.1.1, ⟨hk.1.2, (by simp [Value.ownBlock])⟩⟩), by (with_reducible repeat (first | apply Kd.R_alloc | apply Kd.R_drewN | apply Kd.R_drew)); exact Kd.R_mono (rF5_ (g := gb238) (Kd.R_types HO241.out BK238.out (by decide)) (fun _ hk => hk.2)) (fun _ hk => hk.1.1), by first | exact Kd.R_nil _ _ _ _ _ | exact Kd.N_nil _ _ _ _ _ | exact Kd.V_nil _ _ _ _ _ | exact Kd.Q_nil _ _ _ _ _ | exact Kd.S_nil _ _ _ _ _, hB_ HB⟩

/-! ### spec_closing: function 80 -/
def spec_closing.f (a0_0 : Int) (a0_1 : Int) (l0_2 : List Int) (a0_3 : Int) (a0_4 : Int) (a0_5 : Int) (a0_6 : Int) (l1 : List Int) (a2_0 : Int) (a2_1 : Int) (l2_2 : List Int) : Option (List Int × Int × Int × Bool × List Int × List Int) := some (l1, 0, 0, false, ([] : List Int), ([] : List Int))
set_option maxHeartbeats 8000000 in
set_option maxRecDepth 100000 in
theorem spec_closing.calls (a0_0 : Int) (a0_1 : Int) (A0_2 : Option Addr) (c0_2 : Nat) (l0_2 : List Int) (a0_3 : Int) (a0_4 : Int) (a0_5 : Int) (a0_6 : Int) (P1_ : Nat → Prop) (A1 : Option Addr) (c1 : Nat) (l1 : List Int) (a2_0 : Int) (a2_1 : Int) (A2_2 : Option Addr) (c2_2 : Nat) (l2_2 : List Int) (r1 : List Int) (r2 : Int) (r3 : Int) (r4 : Bool) (r5 : List Int) (r6 : List Int) (w : World) (hr0_2 : Kd.C (Kd.int .i64) w A0_2 l0_2.length l0_2) (hc0_2 : l0_2.length ≤ c0_2) (hs1 : Kd.V (Kd.int .i64) 3 w w.heap.size (fun k_ => P1_ k_) (.slice A1 l1.length c1) l1) (hr2_2 : Kd.C (Kd.int .u32) w A2_2 l2_2.length l2_2) (hc2_2 : l2_2.length ≤ c2_2) (h : spec_closing.f a0_0 a0_1 l0_2 a0_3 a0_4 a0_5 a0_6 l1 a2_0 a2_1 l2_2 = some (r1, r2, r3, r4, r5, r6)) :
  Calls Tryd.prog 80 #[.agg #[.int .u32 a0_0, .int .i64 a0_1, .slice A0_2 l0_2.length c0_2, .int .i64 a0_3, .int .i64 a0_4, .int .i64 a0_5, .int .i64 a0_6], .slice A1 l1.length c1, .agg #[.int .i64 a2_0, .int .u32 a2_1, .slice A2_2 l2_2.length c2_2]] w fun e w' => ∃ v0_ v4_ v5_ : Value, e = .returned (.tuple #[v0_, .agg #[.int .i64 r2, .int .u32 r3, .bool r4, v4_, v5_]]) ∧ Kd.V (Kd.int .i64) 3 w' w.heap.size (fun k_ => (P1_ k_ ∨ w.heap.size ≤ k_) ∧ some k_ ≠ (v4_ : Value).ownBlock ∧ some k_ ≠ (v5_ : Value).ownBlock) v0_ r1 ∧ Kd.R (Kd.int .u32) 22 w' w.heap.size (fun k_ => (w.heap.size ≤ k_)) v4_ r5 ∧ Kd.R (Kd.int .i64) 31 w' w.heap.size (fun k_ => (w.heap.size ≤ k_)) v5_ r6 ∧ Below w.heap.size w w' := by
 have hu27 := Tryd.underlying27
 have hu30 := Tryd.underlying30
 have hu34 := Tryd.underlying34
 have HR0_2 := Aside0.mk hr0_2
 have HC0_2 := Aside0.mk hc0_2
 clear hr0_2 hc0_2
 have HO1 := Aside0.mk (show Kd.V (Kd.int .i64) 3 w w.heap.size (fun k_ => (P1_ k_ ∨ w.heap.size ≤ k_)) (.slice A1 l1.length c1) l1 from Kd.V_mono hs1 (fun k_ hk => .inl hk))
 have HR2_2 := Aside0.mk hr2_2
 have HC2_2 := Aside0.mk hc2_2
 clear hr2_2 hc2_2
 have HB := Aside0.mk (Below.refl w.heap.size w)
 have H : (some (l1, 0, 0, false, ([] : List Int), ([] : List Int))) = some (r1, r2, r3, r4, r5, r6) := h
 clear h
 simp only [Option.some.injEq, Prod.mk.injEq] at H
 obtain ⟨rfl, rfl, rfl, rfl, rfl, rfl⟩ := H
 go_enter Tryd.func80, Tryd.ntmps80
 go_wp2_with (first | ((with_reducible refine gate_dst (N := 3) rfl ?_); refine box_event ?hg (N := 3) ?hd (cs := #[.int .u32 a0_0, .int .i64 a0_1, .slice A0_2 l0_2.length c0_2, .int .i64 a0_3, .int .i64 a0_4, .int .i64 a0_5, .int .i64 a0_6]) (t := 27) ?hr ?_; (case hd => rfl); (case hg => rfl); (case hr => first | (go_simp; done) | (go_simp; rfl)); intro gb242 hg w4 hbox hb; have n0_ := Aside0.mk (Kd.V_below (Kd.V_elderB (vV_ HO1) gb242 (Nat.le_of_eq hg.symm)) hb); have n2_ := Aside0.mk (hbox); have n3_ := gG_ (w := w) hg HB; have n4_ := gG_ (w := w) hg HB; clear HO1; have HO1 := n0_; have BK242 := n2_; have GW242 := n3_; have GE242 := n4_; replace HB := hS_ HB hb; clear n0_ n2_ n3_ n4_; clear hb hbox hg) | ((with_reducible refine gate_dst (N := 5) rfl ?_); refine box_event ?hg (N := 5) ?hd (cs := #[.int .i64 a2_0, .int .u32 a2_1, .slice A2_2 l2_2.length c2_2]) (t := 30) ?hr ?_; (case hd => rfl); (case hg => rfl); (case hr => first | (go_simp; done) | (go_simp; rfl)); intro gb243 hg w5 hbox hb; have n0_ := Aside0.mk (Kd.V_below (Kd.V_elderB (vV_ HO1) gb243 (Nat.le_of_eq hg.symm)) hb); have n2_ := Aside0.mk (below_step (hB_ HB) hb); have n3_ := Aside0.mk (hbox); have n4_ := gG_ (w := w) hg HB; have n5_ := gG_ (w := w) hg HB; have n6_ := nL_ hg BK242; have n7_ := nG_ hg BK242; clear HO1; clear HB; have HO1 := n0_; have HB := n2_; have BK243 := n3_; have GW243 := n4_; have GE243 := n5_; have NB242_243 := n6_; have NB243_242 := n7_; replace BK242 := bB_ BK242 hb; clear n0_ n2_ n3_ n4_ n5_ n6_ n7_; clear hb hbox hg) | ((with_reducible refine gate_dst (N := 7) rfl ?_); refine box_event ?hg (N := 7) ?hd (cs := #[.int .i64 0, .int .u32 0, .bool false, .slice none 0 0, .slice none 0 0]) (t := 34) ?hr ?_; (case hd => rfl); (case hg => rfl); (case hr => first | (go_simp; done) | (go_simp; rfl)); intro gb244 hg w6 hbox hb; have n0_ := Aside0.mk (Kd.V_below (Kd.V_elderB (vV_ HO1) gb244 (Nat.le_of_eq hg.symm)) hb); have n2_ := bB_ BK243 hb; have n4_ := Aside0.mk (hbox); have n5_ := gG_ (w := w) hg HB; have n6_ := gG_ (w := w) hg HB; have n7_ := nL_ hg BK242; have n8_ := nG_ hg BK242; have n9_ := nL_ hg BK243; have n10_ := nG_ hg BK243; clear HO1; clear BK243; have HO1 := n0_; have BK243 := n2_; have BK244 := n4_; have GW244 := n5_; have GE244 := n6_; have NB242_244 := n7_; have NB244_242 := n8_; have NB243_244 := n9_; have NB244_243 := n10_; replace BK242 := bB_ BK242 hb; replace HB := hS_ HB hb; clear n0_ n2_ n4_ n5_ n6_ n7_ n8_ n9_ n10_; clear hb hbox hg; have hnb7 := NB244_242.out; have hnc7 := NB242_244.out; have hnb8 := NB244_243.out; have hnc8 := NB243_244.out; obtain ⟨hcz9_0, hcz9_1, hcz9_2, hcz9_3, hcz9_4, hfz9_0, hfz9_1, hfz9_2, hfz9_3, hfz9_4⟩ := cz5_ (w := w6) BK244))
 refine bodyPost_ret (results_tc rfl _ _ gb244 34 #[.int .i64 0, .int .u32 0, .bool false, .slice none 0 0, .slice none 0 0] (0, 0) _ rfl (by (with_reducible repeat (first | refine blk_drewN ?_ _ | refine blk_drew ?_ | refine blk_alloc ?_ _)); refine blk_put (cs := #[.int .i64 0, .int .u32 0, .bool false, .slice none 0 0, .slice none 0 0]) ?_ 4 _ rfl; refine blk_put (cs := #[.int .i64 0, .int .u32 0, .bool false, .slice none 0 0, .slice none 0 0]) ?_ 3 _ rfl; refine blk_put (cs := #[.int .i64 0, .int .u32 0, .bool false, .slice none 0 0, .slice none 0 0]) ?_ 2 _ rfl; refine blk_put (cs := #[.int .i64 0, .int .u32 0, .bool false, .slice none 0 0, .slice none 0 0]) ?_ 1 _ rfl; refine blk_put (cs := #[.int .i64 0, .int .u32 0, .bool false, .slice none 0 0, .slice none 0 0]) ?_ 0 _ rfl; (with_reducible repeat (first | refine blk_drewN ?_ _ | refine blk_drew ?_ | refine blk_alloc ?_ _)); exact BK244.out) Tryd.underlying34 rfl (by kernel_rfl)) rfl ?_
 exact ⟨_, _, _, er_, by (with_reducible repeat (first | apply Kd.V_alloc | apply Kd.V_drewN | apply Kd.V_drew)); exact Kd.V_mono (vF5_ (g := gb244) (Kd.V_mono HO1.out (fun k_ hk => (⟨hk, hk.2⟩ : _ ∧ k_ ≠ gb244))) (fun _ hk => hk.2)) (fun _ hk => ⟨hk.1.1.1.1, ⟨(by simp [Value.ownBlock]), (by simp [Value.ownBlock])⟩⟩), by first | exact Kd.R_nil _ _ _ _ _ | exact Kd.N_nil _ _ _ _ _ | exact Kd.V_nil _ _ _ _ _ | exact Kd.Q_nil _ _ _ _ _ | exact Kd.S_nil _ _ _ _ _, by first | exact Kd.R_nil _ _ _ _ _ | exact Kd.N_nil _ _ _ _ _ | exact Kd.V_nil _ _ _ _ _ | exact Kd.Q_nil _ _ _ _ _ | exact Kd.S_nil _ _ _ _ _, hB_ HB⟩

/-! ### spec_Some: function 15 -/
def spec_Some.f (k : Nat) (a0_0 : Int) (a0_1 : Int) (l0_2 : List Int) (a0_3 : Int) (a0_4 : Int) (a0_5 : Int) (a0_6 : Int) (l1 : List Int) (a2_0 : Int) (a2_1 : Int) (l2_2 : List Int) : Option (List Int × Int × Int × Bool × List Int × List Int) := (ask_Check.f k a0_0 a0_1 l0_2 a0_3 a0_4 a0_5 a0_6 a2_0 a2_1 l2_2).bind fun t248 => (if t248 = 0 then (if a2_0 = 1 then ((spec_least.f k a0_0 a0_1 l0_2 a0_3 a0_4 a0_5 a0_6 l1 a2_0 a2_1 l2_2).bind fun bt258 => (some (bt258.1, bt258.2.1, bt258.2.2.1, bt258.2.2.2.1, bt258.2.2.2.2.1, bt258.2.2.2.2.2))) else (if a2_0 = 2 then ((spec_exact.f k a0_0 a0_1 l0_2 a0_3 a0_4 a0_5 a0_6 l1 a2_0 a2_1 l2_2).bind fun bt270 => (some (bt270.1, bt270.2.1, bt270.2.2.1, bt270.2.2.2.1, bt270.2.2.2.2.1, bt270.2.2.2.2.2))) else (if a2_0 = 3 then ((spec_release.f k a0_0 a0_1 l0_2 a0_3 a0_4 a0_5 a0_6 l1 a2_0 a2_1 l2_2).bind fun bt282 => (some (bt282.1, bt282.2.1, bt282.2.2.1, bt282.2.2.2.1, bt282.2.2.2.2.1, bt282.2.2.2.2.2))) else (if a2_0 = 4 then ((spec_batch.f k a0_0 a0_1 l0_2 a0_3 a0_4 a0_5 a0_6 l1 a2_0 a2_1 l2_2).bind fun bt294 => (some (bt294.1, bt294.2.1, bt294.2.2.1, bt294.2.2.2.1, bt294.2.2.2.2.1, bt294.2.2.2.2.2))) else (if a2_0 = 5 then ((spec_query.f k a0_0 a0_1 l0_2 a0_3 a0_4 a0_5 a0_6 l1 a2_0 a2_1 l2_2).bind fun bt306 => (some (bt306.1, bt306.2.1, bt306.2.2.1, bt306.2.2.2.1, bt306.2.2.2.2.1, bt306.2.2.2.2.2))) else (if a2_0 = 6 then ((spec_snapshot.f k a0_0 a0_1 l0_2 a0_3 a0_4 a0_5 a0_6 l1 a2_0 a2_1 l2_2).bind fun bt318 => (some (bt318.1, bt318.2.1, bt318.2.2.1, bt318.2.2.2.1, bt318.2.2.2.2.1, bt318.2.2.2.2.2))) else (if a2_0 = 7 then ((spec_closing.f a0_0 a0_1 l0_2 a0_3 a0_4 a0_5 a0_6 l1 a2_0 a2_1 l2_2).bind fun bt330 => (some (bt330.1, bt330.2.1, bt330.2.2.1, bt330.2.2.2.1, bt330.2.2.2.2.1, bt330.2.2.2.2.2))) else (none)))))))) else ((spec_fail.f t248).bind fun bt249 => (some (l1, bt249.1, bt249.2.1, bt249.2.2.1, bt249.2.2.2.1, bt249.2.2.2.2))))
theorem spec_Some.mono : ∀ a0 a1 a2 a3 a4 a5 a6 a7 a8 a9 a10 k, LeO (spec_Some.f k a0 a1 a2 a3 a4 a5 a6 a7 a8 a9 a10) (spec_Some.f (k + 1) a0 a1 a2 a3 a4 a5 a6 a7 a8 a9 a10) := by
 intro a0 a1 a2 a3 a4 a5 a6 a7 a8 a9 a10 k
 unfold spec_Some.f
 repeat' first
   | (with_reducible exact ask_Check.mono _ _ _ _ _ _ _ _ _ _ _)
   | (with_reducible exact spec_batch.mono _ _ _ _ _ _ _ _ _ _ _ _)
   | (with_reducible exact spec_exact.mono _ _ _ _ _ _ _ _ _ _ _ _)
   | (with_reducible exact spec_least.mono _ _ _ _ _ _ _ _ _ _ _ _)
   | (with_reducible exact spec_query.mono _ _ _ _ _ _ _ _ _ _ _ _)
   | (with_reducible exact spec_release.mono _ _ _ _ _ _ _ _ _ _ _ _)
   | (with_reducible exact spec_snapshot.mono _ _ _ _ _ _ _ _ _ _ _ _)
   | (with_reducible exact LeO.refl _)
   | (with_reducible exact LeO.none _)
   | (with_reducible refine LeO.ite ?_ ?_)
   | (with_reducible refine LeO.bind ?_ (fun _ => ?_))
   | exact ask_Check.mono _ _ _ _ _ _ _ _ _ _ _
   | exact spec_batch.mono _ _ _ _ _ _ _ _ _ _ _ _
   | exact spec_exact.mono _ _ _ _ _ _ _ _ _ _ _ _
   | exact spec_least.mono _ _ _ _ _ _ _ _ _ _ _ _
   | exact spec_query.mono _ _ _ _ _ _ _ _ _ _ _ _
   | exact spec_release.mono _ _ _ _ _ _ _ _ _ _ _ _
   | exact spec_snapshot.mono _ _ _ _ _ _ _ _ _ _ _ _
   | exact LeO.none _
   | refine LeO.ite ?_ ?_
   | refine LeO.bind ?_ (fun _ => ?_)
set_option maxHeartbeats 8000000 in
set_option maxRecDepth 100000 in
theorem spec_Some.calls (k : Nat) (a0_0 : Int) (a0_1 : Int) (A0_2 : Option Addr) (c0_2 : Nat) (l0_2 : List Int) (a0_3 : Int) (a0_4 : Int) (a0_5 : Int) (a0_6 : Int) (P1_ : Nat → Prop) (A1 : Option Addr) (c1 : Nat) (l1 : List Int) (a2_0 : Int) (a2_1 : Int) (A2_2 : Option Addr) (c2_2 : Nat) (l2_2 : List Int) (r1 : List Int) (r2 : Int) (r3 : Int) (r4 : Bool) (r5 : List Int) (r6 : List Int) (w : World) (hr0_2 : Kd.C (Kd.int .i64) w A0_2 l0_2.length l0_2) (hc0_2 : l0_2.length ≤ c0_2) (hs1 : Kd.V (Kd.int .i64) 3 w w.heap.size (fun k_ => P1_ k_) (.slice A1 l1.length c1) l1) (hr2_2 : Kd.C (Kd.int .u32) w A2_2 l2_2.length l2_2) (hc2_2 : l2_2.length ≤ c2_2) (hG : Lg w) (h : spec_Some.f k a0_0 a0_1 l0_2 a0_3 a0_4 a0_5 a0_6 l1 a2_0 a2_1 l2_2 = some (r1, r2, r3, r4, r5, r6)) :
  Calls Tryd.prog 15 #[.agg #[.int .u32 a0_0, .int .i64 a0_1, .slice A0_2 l0_2.length c0_2, .int .i64 a0_3, .int .i64 a0_4, .int .i64 a0_5, .int .i64 a0_6], .slice A1 l1.length c1, .agg #[.int .i64 a2_0, .int .u32 a2_1, .slice A2_2 l2_2.length c2_2]] w fun e w' => ∃ v0_ v4_ v5_ : Value, e = .returned (.tuple #[v0_, .agg #[.int .i64 r2, .int .u32 r3, .bool r4, v4_, v5_]]) ∧ Kd.V (Kd.int .i64) 3 w' w.heap.size (fun k_ => (P1_ k_ ∨ w.heap.size ≤ k_) ∧ some k_ ≠ (v4_ : Value).ownBlock ∧ some k_ ≠ (v5_ : Value).ownBlock) v0_ r1 ∧ Kd.R (Kd.int .u32) 22 w' w.heap.size (fun k_ => (w.heap.size ≤ k_)) v4_ r5 ∧ Kd.R (Kd.int .i64) 31 w' w.heap.size (fun k_ => (w.heap.size ≤ k_)) v5_ r6 ∧ Below w.heap.size w w' := by
 have hu27 := Tryd.underlying27
 have hu30 := Tryd.underlying30
 have hu34 := Tryd.underlying34
 have HR0_2 := Aside0.mk hr0_2
 have HC0_2 := Aside0.mk hc0_2
 clear hr0_2 hc0_2
 have HO1 := Aside0.mk (show Kd.V (Kd.int .i64) 3 w w.heap.size (fun k_ => (P1_ k_ ∨ w.heap.size ≤ k_)) (.slice A1 l1.length c1) l1 from Kd.V_mono hs1 (fun k_ hk => .inl hk))
 have HR2_2 := Aside0.mk hr2_2
 have HC2_2 := Aside0.mk hc2_2
 clear hr2_2 hc2_2
 have HB := Aside0.mk (Below.refl w.heap.size w)
 have HG := Aside0.mk hG
 clear hG
 have H : ((ask_Check.f k a0_0 a0_1 l0_2 a0_3 a0_4 a0_5 a0_6 a2_0 a2_1 l2_2).bind fun t248 => (if t248 = 0 then (if a2_0 = 1 then ((spec_least.f k a0_0 a0_1 l0_2 a0_3 a0_4 a0_5 a0_6 l1 a2_0 a2_1 l2_2).bind fun bt258 => (some (bt258.1, bt258.2.1, bt258.2.2.1, bt258.2.2.2.1, bt258.2.2.2.2.1, bt258.2.2.2.2.2))) else (if a2_0 = 2 then ((spec_exact.f k a0_0 a0_1 l0_2 a0_3 a0_4 a0_5 a0_6 l1 a2_0 a2_1 l2_2).bind fun bt270 => (some (bt270.1, bt270.2.1, bt270.2.2.1, bt270.2.2.2.1, bt270.2.2.2.2.1, bt270.2.2.2.2.2))) else (if a2_0 = 3 then ((spec_release.f k a0_0 a0_1 l0_2 a0_3 a0_4 a0_5 a0_6 l1 a2_0 a2_1 l2_2).bind fun bt282 => (some (bt282.1, bt282.2.1, bt282.2.2.1, bt282.2.2.2.1, bt282.2.2.2.2.1, bt282.2.2.2.2.2))) else (if a2_0 = 4 then ((spec_batch.f k a0_0 a0_1 l0_2 a0_3 a0_4 a0_5 a0_6 l1 a2_0 a2_1 l2_2).bind fun bt294 => (some (bt294.1, bt294.2.1, bt294.2.2.1, bt294.2.2.2.1, bt294.2.2.2.2.1, bt294.2.2.2.2.2))) else (if a2_0 = 5 then ((spec_query.f k a0_0 a0_1 l0_2 a0_3 a0_4 a0_5 a0_6 l1 a2_0 a2_1 l2_2).bind fun bt306 => (some (bt306.1, bt306.2.1, bt306.2.2.1, bt306.2.2.2.1, bt306.2.2.2.2.1, bt306.2.2.2.2.2))) else (if a2_0 = 6 then ((spec_snapshot.f k a0_0 a0_1 l0_2 a0_3 a0_4 a0_5 a0_6 l1 a2_0 a2_1 l2_2).bind fun bt318 => (some (bt318.1, bt318.2.1, bt318.2.2.1, bt318.2.2.2.1, bt318.2.2.2.2.1, bt318.2.2.2.2.2))) else (if a2_0 = 7 then ((spec_closing.f a0_0 a0_1 l0_2 a0_3 a0_4 a0_5 a0_6 l1 a2_0 a2_1 l2_2).bind fun bt330 => (some (bt330.1, bt330.2.1, bt330.2.2.1, bt330.2.2.2.1, bt330.2.2.2.2.1, bt330.2.2.2.2.2))) else (none)))))))) else ((spec_fail.f t248).bind fun bt249 => (some (l1, bt249.1, bt249.2.1, bt249.2.2.1, bt249.2.2.2.1, bt249.2.2.2.2))))) = some (r1, r2, r3, r4, r5, r6) := h
 clear h
 replace H := Option.bind_eq_some_iff.mp H
 obtain ⟨t248, A40, H⟩ := H
 replace H : (if t248 = 0 then (if a2_0 = 1 then ((spec_least.f k a0_0 a0_1 l0_2 a0_3 a0_4 a0_5 a0_6 l1 a2_0 a2_1 l2_2).bind fun bt258 => (some (bt258.1, bt258.2.1, bt258.2.2.1, bt258.2.2.2.1, bt258.2.2.2.2.1, bt258.2.2.2.2.2))) else (if a2_0 = 2 then ((spec_exact.f k a0_0 a0_1 l0_2 a0_3 a0_4 a0_5 a0_6 l1 a2_0 a2_1 l2_2).bind fun bt270 => (some (bt270.1, bt270.2.1, bt270.2.2.1, bt270.2.2.2.1, bt270.2.2.2.2.1, bt270.2.2.2.2.2))) else (if a2_0 = 3 then ((spec_release.f k a0_0 a0_1 l0_2 a0_3 a0_4 a0_5 a0_6 l1 a2_0 a2_1 l2_2).bind fun bt282 => (some (bt282.1, bt282.2.1, bt282.2.2.1, bt282.2.2.2.1, bt282.2.2.2.2.1, bt282.2.2.2.2.2))) else (if a2_0 = 4 then ((spec_batch.f k a0_0 a0_1 l0_2 a0_3 a0_4 a0_5 a0_6 l1 a2_0 a2_1 l2_2).bind fun bt294 => (some (bt294.1, bt294.2.1, bt294.2.2.1, bt294.2.2.2.1, bt294.2.2.2.2.1, bt294.2.2.2.2.2))) else (if a2_0 = 5 then ((spec_query.f k a0_0 a0_1 l0_2 a0_3 a0_4 a0_5 a0_6 l1 a2_0 a2_1 l2_2).bind fun bt306 => (some (bt306.1, bt306.2.1, bt306.2.2.1, bt306.2.2.2.1, bt306.2.2.2.2.1, bt306.2.2.2.2.2))) else (if a2_0 = 6 then ((spec_snapshot.f k a0_0 a0_1 l0_2 a0_3 a0_4 a0_5 a0_6 l1 a2_0 a2_1 l2_2).bind fun bt318 => (some (bt318.1, bt318.2.1, bt318.2.2.1, bt318.2.2.2.1, bt318.2.2.2.2.1, bt318.2.2.2.2.2))) else (if a2_0 = 7 then ((spec_closing.f a0_0 a0_1 l0_2 a0_3 a0_4 a0_5 a0_6 l1 a2_0 a2_1 l2_2).bind fun bt330 => (some (bt330.1, bt330.2.1, bt330.2.2.1, bt330.2.2.2.1, bt330.2.2.2.2.1, bt330.2.2.2.2.2))) else (none)))))))) else ((spec_fail.f t248).bind fun bt249 => (some (l1, bt249.1, bt249.2.1, bt249.2.2.1, bt249.2.2.2.1, bt249.2.2.2.2)))) = some (r1, r2, r3, r4, r5, r6) := H
 have A4 := Aside0.mk A40
 clear A40
 by_cases c5 : t248 = 0
 ·rw [if_pos c5] at H
  have c5b0 : (t248 == 0) = true := beq_iff_eq.mpr c5
  have c5b1 : (t248 != 0) = false := bne_eq_false_iff_eq.mpr c5
  clear c5
  by_cases c6 : a2_0 = 1
  ·rw [if_pos c6] at H
   have c6b0 : (a2_0 == 1) = true := beq_iff_eq.mpr c6
   have c6b1 : (a2_0 != 1) = false := bne_eq_false_iff_eq.mpr c6
   clear c6; replace H := Option.bind_eq_some_iff.mp H; obtain ⟨⟨t258, t261, t262, t263, t264, t267⟩, A70, H⟩ := H
   replace H : (some (t258, t261, t262, t263, t264, t267)) = some (r1, r2, r3, r4, r5, r6) := H
   have A7 := Aside0.mk A70; clear A70; simp only [Option.some.injEq, Prod.mk.injEq] at H; obtain ⟨rfl, rfl, rfl, rfl, rfl, rfl⟩ := H
   go_enter Tryd.func15, Tryd.ntmps15
   go_wp2_with (first | ((with_reducible refine gate_dst (N := 3) rfl ?_); refine box_event ?hg (N := 3) ?hd (cs := #[.int .u32 a0_0, .int .i64 a0_1, .slice A0_2 l0_2.length c0_2, .int .i64 a0_3, .int .i64 a0_4, .int .i64 a0_5, .int .i64 a0_6]) (t := 27) ?hr ?_; (case hd => rfl); (case hg => rfl); (case hr => first | (go_simp; done) | (go_simp; rfl)); intro gb245 hg w8 hbox hb; have n0_ := Aside0.mk (Kd.V_below (Kd.V_elderB (vV_ HO1) gb245 (Nat.le_of_eq hg.symm)) hb); have n2_ := Aside0.mk (hbox); have n3_ := gG_ (w := w) hg HB; have n4_ := gG_ (w := w) hg HB; clear HO1; have HO1 := n0_; have BK245 := n2_; have GW245 := n3_; have GE245 := n4_; replace HB := hS_ HB hb; clear n0_ n2_ n3_ n4_; clear hb hbox hg) | ((with_reducible refine gate_dst (N := 5) rfl ?_); refine box_event ?hg (N := 5) ?hd (cs := #[.int .i64 a2_0, .int .u32 a2_1, .slice A2_2 l2_2.length c2_2]) (t := 30) ?hr ?_; (case hd => rfl); (case hg => rfl); (case hr => first | (go_simp; done) | (go_simp; rfl)); intro gb246 hg w9 hbox hb; have n0_ := Aside0.mk (Kd.V_below (Kd.V_elderB (vV_ HO1) gb246 (Nat.le_of_eq hg.symm)) hb); have n2_ := Aside0.mk (below_step (hB_ HB) hb); have n3_ := Aside0.mk (hbox); have n4_ := gG_ (w := w) hg HB; have n5_ := gG_ (w := w) hg HB; have n6_ := nL_ hg BK245; have n7_ := nG_ hg BK245; clear HO1; clear HB; have HO1 := n0_; have HB := n2_; have BK246 := n3_; have GW246 := n4_; have GE246 := n5_; have NB245_246 := n6_; have NB246_245 := n7_; replace BK245 := bB_ BK245 hb; clear n0_ n2_ n3_ n4_ n5_ n6_ n7_; clear hb hbox hg) | ((with_reducible refine gate_dst (N := 7) rfl ?_); refine box_event ?hg (N := 7) ?hd (cs := #[.int .i64 0, .int .u32 0, .bool false, .slice none 0 0, .slice none 0 0]) (t := 34) ?hr ?_; (case hd => rfl); (case hg => rfl); (case hr => first | (go_simp; done) | (go_simp; rfl)); intro gb247 hg w10 hbox hb; have n0_ := Aside0.mk (Kd.V_below (Kd.V_elderB (vV_ HO1) gb247 (Nat.le_of_eq hg.symm)) hb); have n2_ := bB_ BK246 hb; have n4_ := Aside0.mk (hbox); have n5_ := gG_ (w := w) hg HB; have n6_ := gG_ (w := w) hg HB; have n7_ := nL_ hg BK245; have n8_ := nG_ hg BK245; have n9_ := nL_ hg BK246; have n10_ := nG_ hg BK246; clear HO1; clear BK246; have HO1 := n0_; have BK246 := n2_; have BK247 := n4_; have GW247 := n5_; have GE247 := n6_; have NB245_247 := n7_; have NB247_245 := n8_; have NB246_247 := n9_; have NB247_246 := n10_; replace BK245 := bB_ BK245 hb; replace HB := hS_ HB hb; clear n0_ n2_ n4_ n5_ n6_ n7_ n8_ n9_ n10_; clear hb hbox hg; have hnb11 := NB245_246.out; have hnc11 := NB246_245.out; have hnb12 := NB245_247.out; have hnc12 := NB247_245.out; obtain ⟨hcz13_0, hcz13_1, hcz13_2, hcz13_3, hcz13_4, hcz13_5, hcz13_6, hfz13_0, hfz13_1, hfz13_2, hfz13_3, hfz13_4, hfz13_5, hfz13_6⟩ := cz7_ (w := w10) BK245; have hnb14 := NB246_247.out; have hnc14 := NB247_246.out; obtain ⟨hcz15_0, hcz15_1, hcz15_2, hfz15_0, hfz15_1, hfz15_2⟩ := cz3_ (w := w10) BK246) | ((with_reducible refine gate_callee (f := 32) rfl ?_); refine goesL_ (some 11) rfl rfl Tryd.func32 (by kernel_rfl) rfl #[.agg #[.int .u32 a0_0, .int .i64 a0_1, .slice A0_2 l0_2.length c0_2, .int .i64 a0_3, .int .i64 a0_4, .int .i64 a0_5, .int .i64 a0_6], .agg #[.int .i64 a2_0, .int .u32 a2_1, .slice A2_2 l2_2.length c2_2]] rfl am_ ?_; (with_reducible refine (ask_Check.calls k a0_0 a0_1 _ _ l0_2 a0_3 a0_4 a0_5 a0_6 a2_0 a2_1 _ _ l2_2 t248 _ ?side1 ?side2 ?side3 ?side4 ?side5 A4.out).mono ?_); (case side1 => exact cC_ HR0_2 HB); (case side2 => exact HC0_2.out); (case side3 => exact cC_ HR2_2 HB); (case side4 => exact HC2_2.out); (case side5 => exact Lg_below HG.out (hB_ HB)); rintro e w16 ⟨rfl, hb⟩; refine ⟨_, rfl, ?_⟩; have n0_ := Aside0.mk (Kd.V_below (vV_ HO1) hb); have n2_ := bB_ BK246 hb; have n4_ := Aside0.mk (below_step (hB_ HB) hb); clear HO1; clear BK246; clear HB; have HO1 := n0_; have BK246 := n2_; have HB := n4_; replace BK245 := bB_ BK245 hb; replace BK247 := bB_ BK247 hb; clear n0_ n2_ n4_; (try clear hb); (try clear hb2); (try clear hk); (try clear hi); obtain ⟨hcz17_0, hcz17_1, hcz17_2, hfz17_0, hfz17_1, hfz17_2⟩ := cz3_ (w := w16) BK246; obtain ⟨hcz18_0, hcz18_1, hcz18_2, hcz18_3, hcz18_4, hcz18_5, hcz18_6, hfz18_0, hfz18_1, hfz18_2, hfz18_3, hfz18_4, hfz18_5, hfz18_6⟩ := cz7_ (w := w16) BK245; obtain ⟨bm_, hgm_, hlm_⟩ := Ld_at (Lg_below HG.out HB.out).2 (j := a2_0) (f := 74) (by have e_ := beq_iff_eq.mp c6b0; rw [e_]; simp [deeds])) | ((with_reducible refine gate_dst (N := 24) rfl ?_); refine goesV_ (some 24) rfl rfl Tryd.func74 (by kernel_rfl) rfl #[.agg #[.int .u32 a0_0, .int .i64 a0_1, .slice A0_2 l0_2.length c0_2, .int .i64 a0_3, .int .i64 a0_4, .int .i64 a0_5, .int .i64 a0_6], .slice A1 l1.length c1, .agg #[.int .i64 a2_0, .int .u32 a2_1, .slice A2_2 l2_2.length c2_2]] rfl (by first | rfl | (go_simp; done) | (go_simp; rfl)) am_ ?_; (with_reducible refine (spec_least.calls k a0_0 a0_1 _ _ l0_2 a0_3 a0_4 a0_5 a0_6 (fun k_ => ((((P1_ k_ ∨ w.heap.size ≤ k_) ∧ k_ ≠ gb245) ∧ k_ ≠ gb246) ∧ k_ ≠ gb247)) _ _ l1 a2_0 a2_1 _ _ l2_2 t258 t261 t262 t263 t264 t267 _ ?side1 ?side2 ?side3 ?side4 ?side5 A7.out).mono ?_); (case side1 => exact cC_ HR0_2 HB); (case side2 => exact HC0_2.out); (case side3 => exact HO1.out); (case side4 => exact cC_ HR2_2 HB); (case side5 => exact HC2_2.out); rintro e w19 ⟨v259, v265, v268, rfl, ho0, ho1, ho2, hb⟩; refine ⟨_, rfl, ?_⟩; have n0_ := Aside0.mk (Kd.V_mono (Kd.V_told (Kd.V_told (Kd.V_old (vV_ HO1) hb) (Kd.R_base ho1)) (Kd.R_base ho2)) (fun _ h_ => h_.1)); have n1_ := Aside0.mk (Kd.V_lower (Kd.V_mono (ok' := fun k_ => (P1_ k_ ∨ w.heap.size ≤ k_) ∧ some k_ ≠ (v265 : Value).ownBlock ∧ some k_ ≠ (v268 : Value).ownBlock ∧ k_ ≠ gb245 ∧ k_ ≠ gb246 ∧ k_ ≠ gb247) ho0 (fun k_ hk_ => ⟨Or.elim hk_.1 (fun hs_ => hs_.1.1.1) (fun hn_ => (.inr (Nat.le_trans (below_size (hB_ HB)) hn_))), hk_.2.1, hk_.2.2, Or.elim hk_.1 (fun hs_ => hs_.1.1.2) (fun hn_ => (fB_ BK245 k_ hn_)), Or.elim hk_.1 (fun hs_ => hs_.1.2) (fun hn_ => (fB_ BK246 k_ hn_)), Or.elim hk_.1 (fun hs_ => hs_.2) (fun hn_ => (fB_ BK247 k_ hn_))⟩)) (below_size (hB_ HB))); have n2_ := Aside0.mk (Kd.R_lower (Kd.R_newM (M := fun k_ => (w.heap.size ≤ k_)) (Kd.R_mono (ok' := fun k_ => True) ho1 (fun _ hk_ => trivial)) (below_size (hB_ HB)) (fun k_ h_ => h_)) (below_size (hB_ HB))); have n3_ := Aside0.mk (Kd.R_lower (Kd.R_newM (M := fun k_ => (w.heap.size ≤ k_)) (Kd.R_mono (ok' := fun k_ => True) ho2 (fun _ hk_ => trivial)) (below_size (hB_ HB)) (fun k_ h_ => h_)) (below_size (hB_ HB))); have n5_ := bB_ BK246 hb; have n7_ := Aside0.mk (below_step (hB_ HB) hb); clear HO1; clear BK246; clear HB; have HO1 := n0_; have HO260 := n1_; have HO266 := n2_; have HO269 := n3_; have BK246 := n5_; have HB := n7_; replace BK245 := bB_ BK245 hb; replace BK247 := bB_ BK247 hb; clear n0_ n1_ n2_ n3_ n5_ n7_; (try clear hb); (try clear hb2); (try clear hk); (try clear hi); (try clear ho0); (try clear ho1); (try clear ho2); obtain ⟨hcz20_0, hcz20_1, hcz20_2, hcz20_3, hcz20_4, hfz20_0, hfz20_1, hfz20_2, hfz20_3, hfz20_4⟩ := cz5_ (w := w19) BK247; obtain ⟨Ao21, co21, eo21⟩ := Kd.R_slice HO266.out; subst eo21; obtain ⟨Ao22, co22, eo22⟩ := Kd.R_slice HO269.out; subst eo22))
   refine bodyPost_ret (results_tc rfl _ _ gb247 34 #[.int .i64 t261, .int .u32 t262, .bool t263, .slice Ao21 t264.length co21, .slice Ao22 t267.length co22] (0, 0) _ rfl (by (with_reducible repeat (first | refine blk_drewN ?_ _ | refine blk_drew ?_ | refine blk_alloc ?_ _)); refine blk_put (cs := #[.int .i64 t261, .int .u32 t262, .bool t263, .slice Ao21 t264.length co21, .slice none 0 0]) ?_ 4 _ rfl; refine blk_put (cs := #[.int .i64 t261, .int .u32 t262, .bool t263, .slice none 0 0, .slice none 0 0]) ?_ 3 _ rfl; refine blk_put (cs := #[.int .i64 t261, .int .u32 t262, .bool false, .slice none 0 0, .slice none 0 0]) ?_ 2 _ rfl; refine blk_put (cs := #[.int .i64 t261, .int .u32 0, .bool false, .slice none 0 0, .slice none 0 0]) ?_ 1 _ rfl; refine blk_put (cs := #[.int .i64 0, .int .u32 0, .bool false, .slice none 0 0, .slice none 0 0]) ?_ 0 _ rfl; (with_reducible repeat (first | refine blk_drewN ?_ _ | refine blk_drew ?_ | refine blk_alloc ?_ _)); exact BK247.out) Tryd.underlying34 rfl (by kernel_rfl)) rfl ?_
   exact ⟨_, _, _, er_, by (with_reducible repeat (first | apply Kd.V_alloc | apply Kd.V_drewN | apply Kd.V_drew)); exact Kd.V_mono (vF5_ (g := gb247) (Kd.V_mono HO260.out (fun k_ hk => (⟨hk, hk.2.2.2.2.2⟩ : _ ∧ k_ ≠ gb247))) (fun _ hk => hk.2)) (fun _ hk => ⟨hk.1.1, ⟨hk.1.2.1, hk.1.2.2.1⟩⟩), by (with_reducible repeat (first | apply Kd.R_alloc | apply Kd.R_drewN | apply Kd.R_drew)); exact Kd.R_mono (rF5_ (g := gb247) (Kd.R_types HO266.out BK247.out (by decide)) (fun _ hk => hk.2)) (fun _ hk => hk.1.1), by (with_reducible repeat (first | apply Kd.R_alloc | apply Kd.R_drewN | apply Kd.R_drew)); exact Kd.R_mono (rF5_ (g := gb247) (Kd.R_types HO269.out BK247.out (by decide)) (fun _ hk => hk.2)) (fun _ hk => hk.1.1), hB_ HB⟩
  ·rw [if_neg c6] at H
   have c6b0 : (a2_0 == 1) = false := beq_eq_false_iff_ne.mpr c6
   have c6b1 : (a2_0 != 1) = true := bne_iff_ne.mpr c6
   by_cases c23 : a2_0 = 2
   ·rw [if_pos c23] at H
    have c23b0 : (a2_0 == 2) = true := beq_iff_eq.mpr c23
    have c23b1 : (a2_0 != 2) = false := bne_eq_false_iff_eq.mpr c23
    clear c23; replace H := Option.bind_eq_some_iff.mp H; obtain ⟨⟨t270, t273, t274, t275, t276, t279⟩, A240, H⟩ := H
    replace H : (some (t270, t273, t274, t275, t276, t279)) = some (r1, r2, r3, r4, r5, r6) := H
    have A24 := Aside0.mk A240; clear A240; simp only [Option.some.injEq, Prod.mk.injEq] at H; obtain ⟨rfl, rfl, rfl, rfl, rfl, rfl⟩ := H
    go_enter Tryd.func15, Tryd.ntmps15
    go_wp2_with (first | ((with_reducible refine gate_dst (N := 3) rfl ?_); refine box_event ?hg (N := 3) ?hd (cs := #[.int .u32 a0_0, .int .i64 a0_1, .slice A0_2 l0_2.length c0_2, .int .i64 a0_3, .int .i64 a0_4, .int .i64 a0_5, .int .i64 a0_6]) (t := 27) ?hr ?_; (case hd => rfl); (case hg => rfl); (case hr => first | (go_simp; done) | (go_simp; rfl)); intro gb245 hg w25 hbox hb; have n0_ := Aside0.mk (Kd.V_below (Kd.V_elderB (vV_ HO1) gb245 (Nat.le_of_eq hg.symm)) hb); have n2_ := Aside0.mk (hbox); have n3_ := gG_ (w := w) hg HB; have n4_ := gG_ (w := w) hg HB; clear HO1; have HO1 := n0_; have BK245 := n2_; have GW245 := n3_; have GE245 := n4_; replace HB := hS_ HB hb; clear n0_ n2_ n3_ n4_; clear hb hbox hg) | ((with_reducible refine gate_dst (N := 5) rfl ?_); refine box_event ?hg (N := 5) ?hd (cs := #[.int .i64 a2_0, .int .u32 a2_1, .slice A2_2 l2_2.length c2_2]) (t := 30) ?hr ?_; (case hd => rfl); (case hg => rfl); (case hr => first | (go_simp; done) | (go_simp; rfl)); intro gb246 hg w26 hbox hb; have n0_ := Aside0.mk (Kd.V_below (Kd.V_elderB (vV_ HO1) gb246 (Nat.le_of_eq hg.symm)) hb); have n2_ := Aside0.mk (below_step (hB_ HB) hb); have n3_ := Aside0.mk (hbox); have n4_ := gG_ (w := w) hg HB; have n5_ := gG_ (w := w) hg HB; have n6_ := nL_ hg BK245; have n7_ := nG_ hg BK245; clear HO1; clear HB; have HO1 := n0_; have HB := n2_; have BK246 := n3_; have GW246 := n4_; have GE246 := n5_; have NB245_246 := n6_; have NB246_245 := n7_; replace BK245 := bB_ BK245 hb; clear n0_ n2_ n3_ n4_ n5_ n6_ n7_; clear hb hbox hg) | ((with_reducible refine gate_dst (N := 7) rfl ?_); refine box_event ?hg (N := 7) ?hd (cs := #[.int .i64 0, .int .u32 0, .bool false, .slice none 0 0, .slice none 0 0]) (t := 34) ?hr ?_; (case hd => rfl); (case hg => rfl); (case hr => first | (go_simp; done) | (go_simp; rfl)); intro gb247 hg w27 hbox hb; have n0_ := Aside0.mk (Kd.V_below (Kd.V_elderB (vV_ HO1) gb247 (Nat.le_of_eq hg.symm)) hb); have n2_ := bB_ BK246 hb; have n4_ := Aside0.mk (hbox); have n5_ := gG_ (w := w) hg HB; have n6_ := gG_ (w := w) hg HB; have n7_ := nL_ hg BK245; have n8_ := nG_ hg BK245; have n9_ := nL_ hg BK246; have n10_ := nG_ hg BK246; clear HO1; clear BK246; have HO1 := n0_; have BK246 := n2_; have BK247 := n4_; have GW247 := n5_; have GE247 := n6_; have NB245_247 := n7_; have NB247_245 := n8_; have NB246_247 := n9_; have NB247_246 := n10_; replace BK245 := bB_ BK245 hb; replace HB := hS_ HB hb; clear n0_ n2_ n4_ n5_ n6_ n7_ n8_ n9_ n10_; clear hb hbox hg; have hnb28 := NB245_246.out; have hnc28 := NB246_245.out; have hnb29 := NB245_247.out; have hnc29 := NB247_245.out; obtain ⟨hcz30_0, hcz30_1, hcz30_2, hcz30_3, hcz30_4, hcz30_5, hcz30_6, hfz30_0, hfz30_1, hfz30_2, hfz30_3, hfz30_4, hfz30_5, hfz30_6⟩ := cz7_ (w := w27) BK245; have hnb31 := NB246_247.out; have hnc31 := NB247_246.out; obtain ⟨hcz32_0, hcz32_1, hcz32_2, hfz32_0, hfz32_1, hfz32_2⟩ := cz3_ (w := w27) BK246) | ((with_reducible refine gate_callee (f := 32) rfl ?_); refine goesL_ (some 11) rfl rfl Tryd.func32 (by kernel_rfl) rfl #[.agg #[.int .u32 a0_0, .int .i64 a0_1, .slice A0_2 l0_2.length c0_2, .int .i64 a0_3, .int .i64 a0_4, .int .i64 a0_5, .int .i64 a0_6], .agg #[.int .i64 a2_0, .int .u32 a2_1, .slice A2_2 l2_2.length c2_2]] rfl am_ ?_; (with_reducible refine (ask_Check.calls k a0_0 a0_1 _ _ l0_2 a0_3 a0_4 a0_5 a0_6 a2_0 a2_1 _ _ l2_2 t248 _ ?side1 ?side2 ?side3 ?side4 ?side5 A4.out).mono ?_); (case side1 => exact cC_ HR0_2 HB); (case side2 => exact HC0_2.out); (case side3 => exact cC_ HR2_2 HB); (case side4 => exact HC2_2.out); (case side5 => exact Lg_below HG.out (hB_ HB)); rintro e w33 ⟨rfl, hb⟩; refine ⟨_, rfl, ?_⟩; have n0_ := Aside0.mk (Kd.V_below (vV_ HO1) hb); have n2_ := bB_ BK246 hb; have n4_ := Aside0.mk (below_step (hB_ HB) hb); clear HO1; clear BK246; clear HB; have HO1 := n0_; have BK246 := n2_; have HB := n4_; replace BK245 := bB_ BK245 hb; replace BK247 := bB_ BK247 hb; clear n0_ n2_ n4_; (try clear hb); (try clear hb2); (try clear hk); (try clear hi); obtain ⟨hcz34_0, hcz34_1, hcz34_2, hfz34_0, hfz34_1, hfz34_2⟩ := cz3_ (w := w33) BK246; obtain ⟨hcz35_0, hcz35_1, hcz35_2, hcz35_3, hcz35_4, hcz35_5, hcz35_6, hfz35_0, hfz35_1, hfz35_2, hfz35_3, hfz35_4, hfz35_5, hfz35_6⟩ := cz7_ (w := w33) BK245; obtain ⟨bm_, hgm_, hlm_⟩ := Ld_at (Lg_below HG.out HB.out).2 (j := a2_0) (f := 75) (by have e_ := beq_iff_eq.mp c23b0; rw [e_]; simp [deeds])) | ((with_reducible refine gate_dst (N := 24) rfl ?_); refine goesV_ (some 24) rfl rfl Tryd.func75 (by kernel_rfl) rfl #[.agg #[.int .u32 a0_0, .int .i64 a0_1, .slice A0_2 l0_2.length c0_2, .int .i64 a0_3, .int .i64 a0_4, .int .i64 a0_5, .int .i64 a0_6], .slice A1 l1.length c1, .agg #[.int .i64 a2_0, .int .u32 a2_1, .slice A2_2 l2_2.length c2_2]] rfl (by first | rfl | (go_simp; done) | (go_simp; rfl)) am_ ?_; (with_reducible refine (spec_exact.calls k a0_0 a0_1 _ _ l0_2 a0_3 a0_4 a0_5 a0_6 (fun k_ => ((((P1_ k_ ∨ w.heap.size ≤ k_) ∧ k_ ≠ gb245) ∧ k_ ≠ gb246) ∧ k_ ≠ gb247)) _ _ l1 a2_0 a2_1 _ _ l2_2 t270 t273 t274 t275 t276 t279 _ ?side1 ?side2 ?side3 ?side4 ?side5 A24.out).mono ?_); (case side1 => exact cC_ HR0_2 HB); (case side2 => exact HC0_2.out); (case side3 => exact HO1.out); (case side4 => exact cC_ HR2_2 HB); (case side5 => exact HC2_2.out); rintro e w36 ⟨v271, v277, v280, rfl, ho0, ho1, ho2, hb⟩; refine ⟨_, rfl, ?_⟩; have n0_ := Aside0.mk (Kd.V_mono (Kd.V_told (Kd.V_told (Kd.V_old (vV_ HO1) hb) (Kd.R_base ho1)) (Kd.R_base ho2)) (fun _ h_ => h_.1)); have n1_ := Aside0.mk (Kd.V_lower (Kd.V_mono (ok' := fun k_ => (P1_ k_ ∨ w.heap.size ≤ k_) ∧ some k_ ≠ (v277 : Value).ownBlock ∧ some k_ ≠ (v280 : Value).ownBlock ∧ k_ ≠ gb245 ∧ k_ ≠ gb246 ∧ k_ ≠ gb247) ho0 (fun k_ hk_ => ⟨Or.elim hk_.1 (fun hs_ => hs_.1.1.1) (fun hn_ => (.inr (Nat.le_trans (below_size (hB_ HB)) hn_))), hk_.2.1, hk_.2.2, Or.elim hk_.1 (fun hs_ => hs_.1.1.2) (fun hn_ => (fB_ BK245 k_ hn_)), Or.elim hk_.1 (fun hs_ => hs_.1.2) (fun hn_ => (fB_ BK246 k_ hn_)), Or.elim hk_.1 (fun hs_ => hs_.2) (fun hn_ => (fB_ BK247 k_ hn_))⟩)) (below_size (hB_ HB))); have n2_ := Aside0.mk (Kd.R_lower (Kd.R_newM (M := fun k_ => (w.heap.size ≤ k_)) (Kd.R_mono (ok' := fun k_ => True) ho1 (fun _ hk_ => trivial)) (below_size (hB_ HB)) (fun k_ h_ => h_)) (below_size (hB_ HB))); have n3_ := Aside0.mk (Kd.R_lower (Kd.R_newM (M := fun k_ => (w.heap.size ≤ k_)) (Kd.R_mono (ok' := fun k_ => True) ho2 (fun _ hk_ => trivial)) (below_size (hB_ HB)) (fun k_ h_ => h_)) (below_size (hB_ HB))); have n5_ := bB_ BK246 hb; have n7_ := Aside0.mk (below_step (hB_ HB) hb); clear HO1; clear BK246; clear HB; have HO1 := n0_; have HO272 := n1_; have HO278 := n2_; have HO281 := n3_; have BK246 := n5_; have HB := n7_; replace BK245 := bB_ BK245 hb; replace BK247 := bB_ BK247 hb; clear n0_ n1_ n2_ n3_ n5_ n7_; (try clear hb); (try clear hb2); (try clear hk); (try clear hi); (try clear ho0); (try clear ho1); (try clear ho2); obtain ⟨hcz37_0, hcz37_1, hcz37_2, hcz37_3, hcz37_4, hfz37_0, hfz37_1, hfz37_2, hfz37_3, hfz37_4⟩ := cz5_ (w := w36) BK247; obtain ⟨Ao38, co38, eo38⟩ := Kd.R_slice HO278.out; subst eo38; obtain ⟨Ao39, co39, eo39⟩ := Kd.R_slice HO281.out; subst eo39))
    refine bodyPost_ret (results_tc rfl _ _ gb247 34 #[.int .i64 t273, .int .u32 t274, .bool t275, .slice Ao38 t276.length co38, .slice Ao39 t279.length co39] (0, 0) _ rfl (by (with_reducible repeat (first | refine blk_drewN ?_ _ | refine blk_drew ?_ | refine blk_alloc ?_ _)); refine blk_put (cs := #[.int .i64 t273, .int .u32 t274, .bool t275, .slice Ao38 t276.length co38, .slice none 0 0]) ?_ 4 _ rfl; refine blk_put (cs := #[.int .i64 t273, .int .u32 t274, .bool t275, .slice none 0 0, .slice none 0 0]) ?_ 3 _ rfl; refine blk_put (cs := #[.int .i64 t273, .int .u32 t274, .bool false, .slice none 0 0, .slice none 0 0]) ?_ 2 _ rfl; refine blk_put (cs := #[.int .i64 t273, .int .u32 0, .bool false, .slice none 0 0, .slice none 0 0]) ?_ 1 _ rfl; refine blk_put (cs := #[.int .i64 0, .int .u32 0, .bool false, .slice none 0 0, .slice none 0 0]) ?_ 0 _ rfl; (with_reducible repeat (first | refine blk_drewN ?_ _ | refine blk_drew ?_ | refine blk_alloc ?_ _)); exact BK247.out) Tryd.underlying34 rfl (by kernel_rfl)) rfl ?_
    exact ⟨_, _, _, er_, by (with_reducible repeat (first | apply Kd.V_alloc | apply Kd.V_drewN | apply Kd.V_drew)); exact Kd.V_mono (vF5_ (g := gb247) (Kd.V_mono HO272.out (fun k_ hk => (⟨hk, hk.2.2.2.2.2⟩ : _ ∧ k_ ≠ gb247))) (fun _ hk => hk.2)) (fun _ hk => ⟨hk.1.1, ⟨hk.1.2.1, hk.1.2.2.1⟩⟩), by (with_reducible repeat (first | apply Kd.R_alloc | apply Kd.R_drewN | apply Kd.R_drew)); exact Kd.R_mono (rF5_ (g := gb247) (Kd.R_types HO278.out BK247.out (by decide)) (fun _ hk => hk.2)) (fun _ hk => hk.1.1), by (with_reducible repeat (first | apply Kd.R_alloc | apply Kd.R_drewN | apply Kd.R_drew)); exact Kd.R_mono (rF5_ (g := gb247) (Kd.R_types HO281.out BK247.out (by decide)) (fun _ hk => hk.2)) (fun _ hk => hk.1.1), hB_ HB⟩
   ·rw [if_neg c23] at H
    have c23b0 : (a2_0 == 2) = false := beq_eq_false_iff_ne.mpr c23
    have c23b1 : (a2_0 != 2) = true := bne_iff_ne.mpr c23
    by_cases c40 : a2_0 = 3
    ·rw [if_pos c40] at H
     have c40b0 : (a2_0 == 3) = true := beq_iff_eq.mpr c40
     have c40b1 : (a2_0 != 3) = false := bne_eq_false_iff_eq.mpr c40
     clear c40; replace H := Option.bind_eq_some_iff.mp H; obtain ⟨⟨t282, t285, t286, t287, t288, t291⟩, A410, H⟩ := H
     replace H : (some (t282, t285, t286, t287, t288, t291)) = some (r1, r2, r3, r4, r5, r6) := H
     have A41 := Aside0.mk A410; clear A410; simp only [Option.some.injEq, Prod.mk.injEq] at H; obtain ⟨rfl, rfl, rfl, rfl, rfl, rfl⟩ := H
     go_enter Tryd.func15, Tryd.ntmps15
     go_wp2_with (first | ((with_reducible refine gate_dst (N := 3) rfl ?_); refine box_event ?hg (N := 3) ?hd (cs := #[.int .u32 a0_0, .int .i64 a0_1, .slice A0_2 l0_2.length c0_2, .int .i64 a0_3, .int .i64 a0_4, .int .i64 a0_5, .int .i64 a0_6]) (t := 27) ?hr ?_; (case hd => rfl); (case hg => rfl); (case hr => first | (go_simp; done) | (go_simp; rfl)); intro gb245 hg w42 hbox hb; have n0_ := Aside0.mk (Kd.V_below (Kd.V_elderB (vV_ HO1) gb245 (Nat.le_of_eq hg.symm)) hb); have n2_ := Aside0.mk (hbox); have n3_ := gG_ (w := w) hg HB; have n4_ := gG_ (w := w) hg HB; clear HO1; have HO1 := n0_; have BK245 := n2_; have GW245 := n3_; have GE245 := n4_; replace HB := hS_ HB hb; clear n0_ n2_ n3_ n4_; clear hb hbox hg) | ((with_reducible refine gate_dst (N := 5) rfl ?_); refine box_event ?hg (N := 5) ?hd (cs := #[.int .i64 a2_0, .int .u32 a2_1, .slice A2_2 l2_2.length c2_2]) (t := 30) ?hr ?_; (case hd => rfl); (case hg => rfl); (case hr => first | (go_simp; done) | (go_simp; rfl)); intro gb246 hg w43 hbox hb; have n0_ := Aside0.mk (Kd.V_below (Kd.V_elderB (vV_ HO1) gb246 (Nat.le_of_eq hg.symm)) hb); have n2_ := Aside0.mk (below_step (hB_ HB) hb); have n3_ := Aside0.mk (hbox); have n4_ := gG_ (w := w) hg HB; have n5_ := gG_ (w := w) hg HB; have n6_ := nL_ hg BK245; have n7_ := nG_ hg BK245; clear HO1; clear HB; have HO1 := n0_; have HB := n2_; have BK246 := n3_; have GW246 := n4_; have GE246 := n5_; have NB245_246 := n6_; have NB246_245 := n7_; replace BK245 := bB_ BK245 hb; clear n0_ n2_ n3_ n4_ n5_ n6_ n7_; clear hb hbox hg) | ((with_reducible refine gate_dst (N := 7) rfl ?_); refine box_event ?hg (N := 7) ?hd (cs := #[.int .i64 0, .int .u32 0, .bool false, .slice none 0 0, .slice none 0 0]) (t := 34) ?hr ?_; (case hd => rfl); (case hg => rfl); (case hr => first | (go_simp; done) | (go_simp; rfl)); intro gb247 hg w44 hbox hb; have n0_ := Aside0.mk (Kd.V_below (Kd.V_elderB (vV_ HO1) gb247 (Nat.le_of_eq hg.symm)) hb); have n2_ := bB_ BK246 hb; have n4_ := Aside0.mk (hbox); have n5_ := gG_ (w := w) hg HB; have n6_ := gG_ (w := w) hg HB; have n7_ := nL_ hg BK245; have n8_ := nG_ hg BK245; have n9_ := nL_ hg BK246; have n10_ := nG_ hg BK246; clear HO1; clear BK246; have HO1 := n0_; have BK246 := n2_; have BK247 := n4_; have GW247 := n5_; have GE247 := n6_; have NB245_247 := n7_; have NB247_245 := n8_; have NB246_247 := n9_; have NB247_246 := n10_; replace BK245 := bB_ BK245 hb; replace HB := hS_ HB hb; clear n0_ n2_ n4_ n5_ n6_ n7_ n8_ n9_ n10_; clear hb hbox hg; have hnb45 := NB245_246.out; have hnc45 := NB246_245.out; have hnb46 := NB245_247.out; have hnc46 := NB247_245.out; obtain ⟨hcz47_0, hcz47_1, hcz47_2, hcz47_3, hcz47_4, hcz47_5, hcz47_6, hfz47_0, hfz47_1, hfz47_2, hfz47_3, hfz47_4, hfz47_5, hfz47_6⟩ := cz7_ (w := w44) BK245; have hnb48 := NB246_247.out; have hnc48 := NB247_246.out; obtain ⟨hcz49_0, hcz49_1, hcz49_2, hfz49_0, hfz49_1, hfz49_2⟩ := cz3_ (w := w44) BK246) | ((with_reducible refine gate_callee (f := 32) rfl ?_); refine goesL_ (some 11) rfl rfl Tryd.func32 (by kernel_rfl) rfl #[.agg #[.int .u32 a0_0, .int .i64 a0_1, .slice A0_2 l0_2.length c0_2, .int .i64 a0_3, .int .i64 a0_4, .int .i64 a0_5, .int .i64 a0_6], .agg #[.int .i64 a2_0, .int .u32 a2_1, .slice A2_2 l2_2.length c2_2]] rfl am_ ?_; (with_reducible refine (ask_Check.calls k a0_0 a0_1 _ _ l0_2 a0_3 a0_4 a0_5 a0_6 a2_0 a2_1 _ _ l2_2 t248 _ ?side1 ?side2 ?side3 ?side4 ?side5 A4.out).mono ?_); (case side1 => exact cC_ HR0_2 HB); (case side2 => exact HC0_2.out); (case side3 => exact cC_ HR2_2 HB); (case side4 => exact HC2_2.out); (case side5 => exact Lg_below HG.out (hB_ HB)); rintro e w50 ⟨rfl, hb⟩; refine ⟨_, rfl, ?_⟩; have n0_ := Aside0.mk (Kd.V_below (vV_ HO1) hb); have n2_ := bB_ BK246 hb; have n4_ := Aside0.mk (below_step (hB_ HB) hb); clear HO1; clear BK246; clear HB; have HO1 := n0_; have BK246 := n2_; have HB := n4_; replace BK245 := bB_ BK245 hb; replace BK247 := bB_ BK247 hb; clear n0_ n2_ n4_; (try clear hb); (try clear hb2); (try clear hk); (try clear hi); obtain ⟨hcz51_0, hcz51_1, hcz51_2, hfz51_0, hfz51_1, hfz51_2⟩ := cz3_ (w := w50) BK246; obtain ⟨hcz52_0, hcz52_1, hcz52_2, hcz52_3, hcz52_4, hcz52_5, hcz52_6, hfz52_0, hfz52_1, hfz52_2, hfz52_3, hfz52_4, hfz52_5, hfz52_6⟩ := cz7_ (w := w50) BK245; obtain ⟨bm_, hgm_, hlm_⟩ := Ld_at (Lg_below HG.out HB.out).2 (j := a2_0) (f := 76) (by have e_ := beq_iff_eq.mp c40b0; rw [e_]; simp [deeds])) | ((with_reducible refine gate_dst (N := 24) rfl ?_); refine goesV_ (some 24) rfl rfl Tryd.func76 (by kernel_rfl) rfl #[.agg #[.int .u32 a0_0, .int .i64 a0_1, .slice A0_2 l0_2.length c0_2, .int .i64 a0_3, .int .i64 a0_4, .int .i64 a0_5, .int .i64 a0_6], .slice A1 l1.length c1, .agg #[.int .i64 a2_0, .int .u32 a2_1, .slice A2_2 l2_2.length c2_2]] rfl (by first | rfl | (go_simp; done) | (go_simp; rfl)) am_ ?_; (with_reducible refine (spec_release.calls k a0_0 a0_1 _ _ l0_2 a0_3 a0_4 a0_5 a0_6 (fun k_ => ((((P1_ k_ ∨ w.heap.size ≤ k_) ∧ k_ ≠ gb245) ∧ k_ ≠ gb246) ∧ k_ ≠ gb247)) _ _ l1 a2_0 a2_1 _ _ l2_2 t282 t285 t286 t287 t288 t291 _ ?side1 ?side2 ?side3 ?side4 ?side5 A41.out).mono ?_); (case side1 => exact cC_ HR0_2 HB); (case side2 => exact HC0_2.out); (case side3 => exact HO1.out); (case side4 => exact cC_ HR2_2 HB); (case side5 => exact HC2_2.out); rintro e w53 ⟨v283, v289, v292, rfl, ho0, ho1, ho2, hb⟩; refine ⟨_, rfl, ?_⟩; have n0_ := Aside0.mk (Kd.V_mono (Kd.V_told (Kd.V_told (Kd.V_old (vV_ HO1) hb) (Kd.R_base ho1)) (Kd.R_base ho2)) (fun _ h_ => h_.1)); have n1_ := Aside0.mk (Kd.V_lower (Kd.V_mono (ok' := fun k_ => (P1_ k_ ∨ w.heap.size ≤ k_) ∧ some k_ ≠ (v289 : Value).ownBlock ∧ some k_ ≠ (v292 : Value).ownBlock ∧ k_ ≠ gb245 ∧ k_ ≠ gb246 ∧ k_ ≠ gb247) ho0 (fun k_ hk_ => ⟨Or.elim hk_.1 (fun hs_ => hs_.1.1.1) (fun hn_ => (.inr (Nat.le_trans (below_size (hB_ HB)) hn_))), hk_.2.1, hk_.2.2, Or.elim hk_.1 (fun hs_ => hs_.1.1.2) (fun hn_ => (fB_ BK245 k_ hn_)), Or.elim hk_.1 (fun hs_ => hs_.1.2) (fun hn_ => (fB_ BK246 k_ hn_)), Or.elim hk_.1 (fun hs_ => hs_.2) (fun hn_ => (fB_ BK247 k_ hn_))⟩)) (below_size (hB_ HB))); have n2_ := Aside0.mk (Kd.R_lower (Kd.R_newM (M := fun k_ => (w.heap.size ≤ k_)) (Kd.R_mono (ok' := fun k_ => True) ho1 (fun _ hk_ => trivial)) (below_size (hB_ HB)) (fun k_ h_ => h_)) (below_size (hB_ HB))); have n3_ := Aside0.mk (Kd.R_lower (Kd.R_newM (M := fun k_ => (w.heap.size ≤ k_)) (Kd.R_mono (ok' := fun k_ => True) ho2 (fun _ hk_ => trivial)) (below_size (hB_ HB)) (fun k_ h_ => h_)) (below_size (hB_ HB))); have n5_ := bB_ BK246 hb; have n7_ := Aside0.mk (below_step (hB_ HB) hb); clear HO1; clear BK246; clear HB; have HO1 := n0_; have HO284 := n1_; have HO290 := n2_; have HO293 := n3_; have BK246 := n5_; have HB := n7_; replace BK245 := bB_ BK245 hb; replace BK247 := bB_ BK247 hb; clear n0_ n1_ n2_ n3_ n5_ n7_; (try clear hb); (try clear hb2); (try clear hk); (try clear hi); (try clear ho0); (try clear ho1); (try clear ho2); obtain ⟨hcz54_0, hcz54_1, hcz54_2, hcz54_3, hcz54_4, hfz54_0, hfz54_1, hfz54_2, hfz54_3, hfz54_4⟩ := cz5_ (w := w53) BK247; obtain ⟨Ao55, co55, eo55⟩ := Kd.R_slice HO290.out; subst eo55; obtain ⟨Ao56, co56, eo56⟩ := Kd.R_slice HO293.out; subst eo56))
     refine bodyPost_ret (results_tc rfl _ _ gb247 34 #[.int .i64 t285, .int .u32 t286, .bool t287, .slice Ao55 t288.length co55, .slice Ao56 t291.length co56] (0, 0) _ rfl (by (with_reducible repeat (first | refine blk_drewN ?_ _ | refine blk_drew ?_ | refine blk_alloc ?_ _)); refine blk_put (cs := #[.int .i64 t285, .int .u32 t286, .bool t287, .slice Ao55 t288.length co55, .slice none 0 0]) ?_ 4 _ rfl; refine blk_put (cs := #[.int .i64 t285, .int .u32 t286, .bool t287, .slice none 0 0, .slice none 0 0]) ?_ 3 _ rfl; refine blk_put (cs := #[.int .i64 t285, .int .u32 t286, .bool false, .slice none 0 0, .slice none 0 0]) ?_ 2 _ rfl; refine blk_put (cs := #[.int .i64 t285, .int .u32 0, .bool false, .slice none 0 0, .slice none 0 0]) ?_ 1 _ rfl; refine blk_put (cs := #[.int .i64 0, .int .u32 0, .bool false, .slice none 0 0, .slice none 0 0]) ?_ 0 _ rfl; (with_reducible repeat (first | refine blk_drewN ?_ _ | refine blk_drew ?_ | refine blk_alloc ?_ _)); exact BK247.out) Tryd.underlying34 rfl (by kernel_rfl)) rfl ?_
     exact ⟨_, _, _, er_, by (with_reducible repeat (first | apply Kd.V_alloc | apply Kd.V_drewN | apply Kd.V_drew)); exact Kd.V_mono (vF5_ (g := gb247) (Kd.V_mono HO284.out (fun k_ hk => (⟨hk, hk.2.2.2.2.2⟩ : _ ∧ k_ ≠ gb247))) (fun _ hk => hk.2)) (fun _ hk => ⟨hk.1.1, ⟨hk.1.2.1, hk.1.2.2.1⟩⟩), by (with_reducible repeat (first | apply Kd.R_alloc | apply Kd.R_drewN | apply Kd.R_drew)); exact Kd.R_mono (rF5_ (g := gb247) (Kd.R_types HO290.out BK247.out (by decide)) (fun _ hk => hk.2)) (fun _ hk => hk.1.1), by (with_reducible repeat (first | apply Kd.R_alloc | apply Kd.R_drewN | apply Kd.R_drew)); exact Kd.R_mono (rF5_ (g := gb247) (Kd.R_types HO293.out BK247.out (by decide)) (fun _ hk => hk.2)) (fun _ hk => hk.1.1), hB_ HB⟩
    ·rw [if_neg c40] at H
     have c40b0 : (a2_0 == 3) = false := beq_eq_false_iff_ne.mpr c40
     have c40b1 : (a2_0 != 3) = true := bne_iff_ne.mpr c40
     by_cases c57 : a2_0 = 4
     ·rw [if_pos c57] at H
      have c57b0 : (a2_0 == 4) = true := beq_iff_eq.mpr c57
      have c57b1 : (a2_0 != 4) = false := bne_eq_false_iff_eq.mpr c57
      clear c57; replace H := Option.bind_eq_some_iff.mp H; obtain ⟨⟨t294, t297, t298, t299, t300, t303⟩, A580, H⟩ := H
      replace H : (some (t294, t297, t298, t299, t300, t303)) = some (r1, r2, r3, r4, r5, r6) := H
      have A58 := Aside0.mk A580; clear A580; simp only [Option.some.injEq, Prod.mk.injEq] at H; obtain ⟨rfl, rfl, rfl, rfl, rfl, rfl⟩ := H
      go_enter Tryd.func15, Tryd.ntmps15
      go_wp2_with (first | ((with_reducible refine gate_dst (N := 3) rfl ?_); refine box_event ?hg (N := 3) ?hd (cs := #[.int .u32 a0_0, .int .i64 a0_1, .slice A0_2 l0_2.length c0_2, .int .i64 a0_3, .int .i64 a0_4, .int .i64 a0_5, .int .i64 a0_6]) (t := 27) ?hr ?_; (case hd => rfl); (case hg => rfl); (case hr => first | (go_simp; done) | (go_simp; rfl)); intro gb245 hg w59 hbox hb; have n0_ := Aside0.mk (Kd.V_below (Kd.V_elderB (vV_ HO1) gb245 (Nat.le_of_eq hg.symm)) hb); have n2_ := Aside0.mk (hbox); have n3_ := gG_ (w := w) hg HB; have n4_ := gG_ (w := w) hg HB; clear HO1; have HO1 := n0_; have BK245 := n2_; have GW245 := n3_; have GE245 := n4_; replace HB := hS_ HB hb; clear n0_ n2_ n3_ n4_; clear hb hbox hg) | ((with_reducible refine gate_dst (N := 5) rfl ?_); refine box_event ?hg (N := 5) ?hd (cs := #[.int .i64 a2_0, .int .u32 a2_1, .slice A2_2 l2_2.length c2_2]) (t := 30) ?hr ?_; (case hd => rfl); (case hg => rfl); (case hr => first | (go_simp; done) | (go_simp; rfl)); intro gb246 hg w60 hbox hb; have n0_ := Aside0.mk (Kd.V_below (Kd.V_elderB (vV_ HO1) gb246 (Nat.le_of_eq hg.symm)) hb); have n2_ := Aside0.mk (below_step (hB_ HB) hb); have n3_ := Aside0.mk (hbox); have n4_ := gG_ (w := w) hg HB; have n5_ := gG_ (w := w) hg HB; have n6_ := nL_ hg BK245; have n7_ := nG_ hg BK245; clear HO1; clear HB; have HO1 := n0_; have HB := n2_; have BK246 := n3_; have GW246 := n4_; have GE246 := n5_; have NB245_246 := n6_; have NB246_245 := n7_; replace BK245 := bB_ BK245 hb; clear n0_ n2_ n3_ n4_ n5_ n6_ n7_; clear hb hbox hg) | ((with_reducible refine gate_dst (N := 7) rfl ?_); refine box_event ?hg (N := 7) ?hd (cs := #[.int .i64 0, .int .u32 0, .bool false, .slice none 0 0, .slice none 0 0]) (t := 34) ?hr ?_; (case hd => rfl); (case hg => rfl); (case hr => first | (go_simp; done) | (go_simp; rfl)); intro gb247 hg w61 hbox hb; have n0_ := Aside0.mk (Kd.V_below (Kd.V_elderB (vV_ HO1) gb247 (Nat.le_of_eq hg.symm)) hb); have n2_ := bB_ BK246 hb; have n4_ := Aside0.mk (hbox); have n5_ := gG_ (w := w) hg HB; have n6_ := gG_ (w := w) hg HB; have n7_ := nL_ hg BK245; have n8_ := nG_ hg BK245; have n9_ := nL_ hg BK246; have n10_ := nG_ hg BK246; clear HO1; clear BK246; have HO1 := n0_; have BK246 := n2_; have BK247 := n4_; have GW247 := n5_; have GE247 := n6_; have NB245_247 := n7_; have NB247_245 := n8_; have NB246_247 := n9_; have NB247_246 := n10_; replace BK245 := bB_ BK245 hb; replace HB := hS_ HB hb; clear n0_ n2_ n4_ n5_ n6_ n7_ n8_ n9_ n10_; clear hb hbox hg; have hnb62 := NB245_246.out; have hnc62 := NB246_245.out; have hnb63 := NB245_247.out; have hnc63 := NB247_245.out; obtain ⟨hcz64_0, hcz64_1, hcz64_2, hcz64_3, hcz64_4, hcz64_5, hcz64_6, hfz64_0, hfz64_1, hfz64_2, hfz64_3, hfz64_4, hfz64_5, hfz64_6⟩ := cz7_ (w := w61) BK245; have hnb65 := NB246_247.out; have hnc65 := NB247_246.out; obtain ⟨hcz66_0, hcz66_1, hcz66_2, hfz66_0, hfz66_1, hfz66_2⟩ := cz3_ (w := w61) BK246) | ((with_reducible refine gate_callee (f := 32) rfl ?_); refine goesL_ (some 11) rfl rfl Tryd.func32 (by kernel_rfl) rfl #[.agg #[.int .u32 a0_0, .int .i64 a0_1, .slice A0_2 l0_2.length c0_2, .int .i64 a0_3, .int .i64 a0_4, .int .i64 a0_5, .int .i64 a0_6], .agg #[.int .i64 a2_0, .int .u32 a2_1, .slice A2_2 l2_2.length c2_2]] rfl am_ ?_; (with_reducible refine (ask_Check.calls k a0_0 a0_1 _ _ l0_2 a0_3 a0_4 a0_5 a0_6 a2_0 a2_1 _ _ l2_2 t248 _ ?side1 ?side2 ?side3 ?side4 ?side5 A4.out).mono ?_); (case side1 => exact cC_ HR0_2 HB); (case side2 => exact HC0_2.out); (case side3 => exact cC_ HR2_2 HB); (case side4 => exact HC2_2.out); (case side5 => exact Lg_below HG.out (hB_ HB)); rintro e w67 ⟨rfl, hb⟩; refine ⟨_, rfl, ?_⟩; have n0_ := Aside0.mk (Kd.V_below (vV_ HO1) hb); have n2_ := bB_ BK246 hb; have n4_ := Aside0.mk (below_step (hB_ HB) hb); clear HO1; clear BK246; clear HB; have HO1 := n0_; have BK246 := n2_; have HB := n4_; replace BK245 := bB_ BK245 hb; replace BK247 := bB_ BK247 hb; clear n0_ n2_ n4_; (try clear hb); (try clear hb2); (try clear hk); (try clear hi); obtain ⟨hcz68_0, hcz68_1, hcz68_2, hfz68_0, hfz68_1, hfz68_2⟩ := cz3_ (w := w67) BK246; obtain ⟨hcz69_0, hcz69_1, hcz69_2, hcz69_3, hcz69_4, hcz69_5, hcz69_6, hfz69_0, hfz69_1, hfz69_2, hfz69_3, hfz69_4, hfz69_5, hfz69_6⟩ := cz7_ (w := w67) BK245; obtain ⟨bm_, hgm_, hlm_⟩ := Ld_at (Lg_below HG.out HB.out).2 (j := a2_0) (f := 77) (by have e_ := beq_iff_eq.mp c57b0; rw [e_]; simp [deeds])) | ((with_reducible refine gate_dst (N := 24) rfl ?_); refine goesV_ (some 24) rfl rfl Tryd.func77 (by kernel_rfl) rfl #[.agg #[.int .u32 a0_0, .int .i64 a0_1, .slice A0_2 l0_2.length c0_2, .int .i64 a0_3, .int .i64 a0_4, .int .i64 a0_5, .int .i64 a0_6], .slice A1 l1.length c1, .agg #[.int .i64 a2_0, .int .u32 a2_1, .slice A2_2 l2_2.length c2_2]] rfl (by first | rfl | (go_simp; done) | (go_simp; rfl)) am_ ?_; (with_reducible refine (spec_batch.calls k a0_0 a0_1 _ _ l0_2 a0_3 a0_4 a0_5 a0_6 (fun k_ => ((((P1_ k_ ∨ w.heap.size ≤ k_) ∧ k_ ≠ gb245) ∧ k_ ≠ gb246) ∧ k_ ≠ gb247)) _ _ l1 a2_0 a2_1 _ _ l2_2 t294 t297 t298 t299 t300 t303 _ ?side1 ?side2 ?side3 ?side4 ?side5 A58.out).mono ?_); (case side1 => exact cC_ HR0_2 HB); (case side2 => exact HC0_2.out); (case side3 => exact HO1.out); (case side4 => exact cC_ HR2_2 HB); (case side5 => exact HC2_2.out); rintro e w70 ⟨v295, v301, v304, rfl, ho0, ho1, ho2, hb⟩; refine ⟨_, rfl, ?_⟩; have n0_ := Aside0.mk (Kd.V_mono (Kd.V_told (Kd.V_told (Kd.V_old (vV_ HO1) hb) (Kd.R_base ho1)) (Kd.R_base ho2)) (fun _ h_ => h_.1)); have n1_ := Aside0.mk (Kd.V_lower (Kd.V_mono (ok' := fun k_ => (P1_ k_ ∨ w.heap.size ≤ k_) ∧ some k_ ≠ (v301 : Value).ownBlock ∧ some k_ ≠ (v304 : Value).ownBlock ∧ k_ ≠ gb245 ∧ k_ ≠ gb246 ∧ k_ ≠ gb247) ho0 (fun k_ hk_ => ⟨Or.elim hk_.1 (fun hs_ => hs_.1.1.1) (fun hn_ => (.inr (Nat.le_trans (below_size (hB_ HB)) hn_))), hk_.2.1, hk_.2.2, Or.elim hk_.1 (fun hs_ => hs_.1.1.2) (fun hn_ => (fB_ BK245 k_ hn_)), Or.elim hk_.1 (fun hs_ => hs_.1.2) (fun hn_ => (fB_ BK246 k_ hn_)), Or.elim hk_.1 (fun hs_ => hs_.2) (fun hn_ => (fB_ BK247 k_ hn_))⟩)) (below_size (hB_ HB))); have n2_ := Aside0.mk (Kd.R_lower (Kd.R_newM (M := fun k_ => (w.heap.size ≤ k_)) (Kd.R_mono (ok' := fun k_ => True) ho1 (fun _ hk_ => trivial)) (below_size (hB_ HB)) (fun k_ h_ => h_)) (below_size (hB_ HB))); have n3_ := Aside0.mk (Kd.R_lower (Kd.R_newM (M := fun k_ => (w.heap.size ≤ k_)) (Kd.R_mono (ok' := fun k_ => True) ho2 (fun _ hk_ => trivial)) (below_size (hB_ HB)) (fun k_ h_ => h_)) (below_size (hB_ HB))); have n5_ := bB_ BK246 hb; have n7_ := Aside0.mk (below_step (hB_ HB) hb); clear HO1; clear BK246; clear HB; have HO1 := n0_; have HO296 := n1_; have HO302 := n2_; have HO305 := n3_; have BK246 := n5_; have HB := n7_; replace BK245 := bB_ BK245 hb; replace BK247 := bB_ BK247 hb; clear n0_ n1_ n2_ n3_ n5_ n7_; (try clear hb); (try clear hb2); (try clear hk); (try clear hi); (try clear ho0); (try clear ho1); (try clear ho2); obtain ⟨hcz71_0, hcz71_1, hcz71_2, hcz71_3, hcz71_4, hfz71_0, hfz71_1, hfz71_2, hfz71_3, hfz71_4⟩ := cz5_ (w := w70) BK247; obtain ⟨Ao72, co72, eo72⟩ := Kd.R_slice HO302.out; subst eo72; obtain ⟨Ao73, co73, eo73⟩ := Kd.R_slice HO305.out; subst eo73))
      refine bodyPost_ret (results_tc rfl _ _ gb247 34 #[.int .i64 t297, .int .u32 t298, .bool t299, .slice Ao72 t300.length co72, .slice Ao73 t303.length co73] (0, 0) _ rfl (by (with_reducible repeat (first | refine blk_drewN ?_ _ | refine blk_drew ?_ | refine blk_alloc ?_ _)); refine blk_put (cs := #[.int .i64 t297, .int .u32 t298, .bool t299, .slice Ao72 t300.length co72, .slice none 0 0]) ?_ 4 _ rfl; refine blk_put (cs := #[.int .i64 t297, .int .u32 t298, .bool t299, .slice none 0 0, .slice none 0 0]) ?_ 3 _ rfl; refine blk_put (cs := #[.int .i64 t297, .int .u32 t298, .bool false, .slice none 0 0, .slice none 0 0]) ?_ 2 _ rfl; refine blk_put (cs := #[.int .i64 t297, .int .u32 0, .bool false, .slice none 0 0, .slice none 0 0]) ?_ 1 _ rfl; refine blk_put (cs := #[.int .i64 0, .int .u32 0, .bool false, .slice none 0 0, .slice none 0 0]) ?_ 0 _ rfl; (with_reducible repeat (first | refine blk_drewN ?_ _ | refine blk_drew ?_ | refine blk_alloc ?_ _)); exact BK247.out) Tryd.underlying34 rfl (by kernel_rfl)) rfl ?_
      exact ⟨_, _, _, er_, by (with_reducible repeat (first | apply Kd.V_alloc | apply Kd.V_drewN | apply Kd.V_drew)); exact Kd.V_mono (vF5_ (g := gb247) (Kd.V_mono HO296.out (fun k_ hk => (⟨hk, hk.2.2.2.2.2⟩ : _ ∧ k_ ≠ gb247))) (fun _ hk => hk.2)) (fun _ hk => ⟨hk.1.1, ⟨hk.1.2.1, hk.1.2.2.1⟩⟩), by (with_reducible repeat (first | apply Kd.R_alloc | apply Kd.R_drewN | apply Kd.R_drew)); exact Kd.R_mono (rF5_ (g := gb247) (Kd.R_types HO302.out BK247.out (by decide)) (fun _ hk => hk.2)) (fun _ hk => hk.1.1), by (with_reducible repeat (first | apply Kd.R_alloc | apply Kd.R_drewN | apply Kd.R_drew)); exact Kd.R_mono (rF5_ (g := gb247) (Kd.R_types HO305.out BK247.out (by decide)) (fun _ hk => hk.2)) (fun _ hk => hk.1.1), hB_ HB⟩
     ·rw [if_neg c57] at H
      have c57b0 : (a2_0 == 4) = false := beq_eq_false_iff_ne.mpr c57
      have c57b1 : (a2_0 != 4) = true := bne_iff_ne.mpr c57
      by_cases c74 : a2_0 = 5
      ·rw [if_pos c74] at H
       have c74b0 : (a2_0 == 5) = true := beq_iff_eq.mpr c74
       have c74b1 : (a2_0 != 5) = false := bne_eq_false_iff_eq.mpr c74
       clear c74; replace H := Option.bind_eq_some_iff.mp H; obtain ⟨⟨t306, t309, t310, t311, t312, t315⟩, A750, H⟩ := H
       replace H : (some (t306, t309, t310, t311, t312, t315)) = some (r1, r2, r3, r4, r5, r6) := H
       have A75 := Aside0.mk A750; clear A750; simp only [Option.some.injEq, Prod.mk.injEq] at H; obtain ⟨rfl, rfl, rfl, rfl, rfl, rfl⟩ := H
       go_enter Tryd.func15, Tryd.ntmps15
       go_wp2_with (first | ((with_reducible refine gate_dst (N := 3) rfl ?_); refine box_event ?hg (N := 3) ?hd (cs := #[.int .u32 a0_0, .int .i64 a0_1, .slice A0_2 l0_2.length c0_2, .int .i64 a0_3, .int .i64 a0_4, .int .i64 a0_5, .int .i64 a0_6]) (t := 27) ?hr ?_; (case hd => rfl); (case hg => rfl); (case hr => first | (go_simp; done) | (go_simp; rfl)); intro gb245 hg w76 hbox hb; have n0_ := Aside0.mk (Kd.V_below (Kd.V_elderB (vV_ HO1) gb245 (Nat.le_of_eq hg.symm)) hb); have n2_ := Aside0.mk (hbox); have n3_ := gG_ (w := w) hg HB; have n4_ := gG_ (w := w) hg HB; clear HO1; have HO1 := n0_; have BK245 := n2_; have GW245 := n3_; have GE245 := n4_; replace HB := hS_ HB hb; clear n0_ n2_ n3_ n4_; clear hb hbox hg) | ((with_reducible refine gate_dst (N := 5) rfl ?_); refine box_event ?hg (N := 5) ?hd (cs := #[.int .i64 a2_0, .int .u32 a2_1, .slice A2_2 l2_2.length c2_2]) (t := 30) ?hr ?_; (case hd => rfl); (case hg => rfl); (case hr => first | (go_simp; done) | (go_simp; rfl)); intro gb246 hg w77 hbox hb; have n0_ := Aside0.mk (Kd.V_below (Kd.V_elderB (vV_ HO1) gb246 (Nat.le_of_eq hg.symm)) hb); have n2_ := Aside0.mk (below_step (hB_ HB) hb); have n3_ := Aside0.mk (hbox); have n4_ := gG_ (w := w) hg HB; have n5_ := gG_ (w := w) hg HB; have n6_ := nL_ hg BK245; have n7_ := nG_ hg BK245; clear HO1; clear HB; have HO1 := n0_; have HB := n2_; have BK246 := n3_; have GW246 := n4_; have GE246 := n5_; have NB245_246 := n6_; have NB246_245 := n7_; replace BK245 := bB_ BK245 hb; clear n0_ n2_ n3_ n4_ n5_ n6_ n7_; clear hb hbox hg) | ((with_reducible refine gate_dst (N := 7) rfl ?_); refine box_event ?hg (N := 7) ?hd (cs := #[.int .i64 0, .int .u32 0, .bool false, .slice none 0 0, .slice none 0 0]) (t := 34) ?hr ?_; (case hd => rfl); (case hg => rfl); (case hr => first | (go_simp; done) | (go_simp; rfl)); intro gb247 hg w78 hbox hb; have n0_ := Aside0.mk (Kd.V_below (Kd.V_elderB (vV_ HO1) gb247 (Nat.le_of_eq hg.symm)) hb); have n2_ := bB_ BK246 hb; have n4_ := Aside0.mk (hbox); have n5_ := gG_ (w := w) hg HB; have n6_ := gG_ (w := w) hg HB; have n7_ := nL_ hg BK245; have n8_ := nG_ hg BK245; have n9_ := nL_ hg BK246; have n10_ := nG_ hg BK246; clear HO1; clear BK246; have HO1 := n0_; have BK246 := n2_; have BK247 := n4_; have GW247 := n5_; have GE247 := n6_; have NB245_247 := n7_; have NB247_245 := n8_; have NB246_247 := n9_; have NB247_246 := n10_; replace BK245 := bB_ BK245 hb; replace HB := hS_ HB hb; clear n0_ n2_ n4_ n5_ n6_ n7_ n8_ n9_ n10_; clear hb hbox hg; have hnb79 := NB245_246.out; have hnc79 := NB246_245.out; have hnb80 := NB245_247.out; have hnc80 := NB247_245.out; obtain ⟨hcz81_0, hcz81_1, hcz81_2, hcz81_3, hcz81_4, hcz81_5, hcz81_6, hfz81_0, hfz81_1, hfz81_2, hfz81_3, hfz81_4, hfz81_5, hfz81_6⟩ := cz7_ (w := w78) BK245; have hnb82 := NB246_247.out; have hnc82 := NB247_246.out; obtain ⟨hcz83_0, hcz83_1, hcz83_2, hfz83_0, hfz83_1, hfz83_2⟩ := cz3_ (w := w78) BK246) | ((with_reducible refine gate_callee (f := 32) rfl ?_); refine goesL_ (some 11) rfl rfl Tryd.func32 (by kernel_rfl) rfl #[.agg #[.int .u32 a0_0, .int .i64 a0_1, .slice A0_2 l0_2.length c0_2, .int .i64 a0_3, .int .i64 a0_4, .int .i64 a0_5, .int .i64 a0_6], .agg #[.int .i64 a2_0, .int .u32 a2_1, .slice A2_2 l2_2.length c2_2]] rfl am_ ?_; (with_reducible refine (ask_Check.calls k a0_0 a0_1 _ _ l0_2 a0_3 a0_4 a0_5 a0_6 a2_0 a2_1 _ _ l2_2 t248 _ ?side1 ?side2 ?side3 ?side4 ?side5 A4.out).mono ?_); (case side1 => exact cC_ HR0_2 HB); (case side2 => exact HC0_2.out); (case side3 => exact cC_ HR2_2 HB); (case side4 => exact HC2_2.out); (case side5 => exact Lg_below HG.out (hB_ HB)); rintro e w84 ⟨rfl, hb⟩; refine ⟨_, rfl, ?_⟩; have n0_ := Aside0.mk (Kd.V_below (vV_ HO1) hb); have n2_ := bB_ BK246 hb; have n4_ := Aside0.mk (below_step (hB_ HB) hb); clear HO1; clear BK246; clear HB; have HO1 := n0_; have BK246 := n2_; have HB := n4_; replace BK245 := bB_ BK245 hb; replace BK247 := bB_ BK247 hb; clear n0_ n2_ n4_; (try clear hb); (try clear hb2); (try clear hk); (try clear hi); obtain ⟨hcz85_0, hcz85_1, hcz85_2, hfz85_0, hfz85_1, hfz85_2⟩ := cz3_ (w := w84) BK246; obtain ⟨hcz86_0, hcz86_1, hcz86_2, hcz86_3, hcz86_4, hcz86_5, hcz86_6, hfz86_0, hfz86_1, hfz86_2, hfz86_3, hfz86_4, hfz86_5, hfz86_6⟩ := cz7_ (w := w84) BK245; obtain ⟨bm_, hgm_, hlm_⟩ := Ld_at (Lg_below HG.out HB.out).2 (j := a2_0) (f := 78) (by have e_ := beq_iff_eq.mp c74b0; rw [e_]; simp [deeds])) | ((with_reducible refine gate_dst (N := 24) rfl ?_); refine goesV_ (some 24) rfl rfl Tryd.func78 (by kernel_rfl) rfl #[.agg #[.int .u32 a0_0, .int .i64 a0_1, .slice A0_2 l0_2.length c0_2, .int .i64 a0_3, .int .i64 a0_4, .int .i64 a0_5, .int .i64 a0_6], .slice A1 l1.length c1, .agg #[.int .i64 a2_0, .int .u32 a2_1, .slice A2_2 l2_2.length c2_2]] rfl (by first | rfl | (go_simp; done) | (go_simp; rfl)) am_ ?_; (with_reducible refine (spec_query.calls k a0_0 a0_1 _ _ l0_2 a0_3 a0_4 a0_5 a0_6 (fun k_ => ((((P1_ k_ ∨ w.heap.size ≤ k_) ∧ k_ ≠ gb245) ∧ k_ ≠ gb246) ∧ k_ ≠ gb247)) _ _ l1 a2_0 a2_1 _ _ l2_2 t306 t309 t310 t311 t312 t315 _ ?side1 ?side2 ?side3 ?side4 ?side5 A75.out).mono ?_); (case side1 => exact cC_ HR0_2 HB); (case side2 => exact HC0_2.out); (case side3 => exact HO1.out); (case side4 => exact cC_ HR2_2 HB); (case side5 => exact HC2_2.out); rintro e w87 ⟨v307, v313, v316, rfl, ho0, ho1, ho2, hb⟩; refine ⟨_, rfl, ?_⟩; have n0_ := Aside0.mk (Kd.V_mono (Kd.V_told (Kd.V_told (Kd.V_old (vV_ HO1) hb) (Kd.R_base ho1)) (Kd.R_base ho2)) (fun _ h_ => h_.1)); have n1_ := Aside0.mk (Kd.V_lower (Kd.V_mono (ok' := fun k_ => (P1_ k_ ∨ w.heap.size ≤ k_) ∧ some k_ ≠ (v313 : Value).ownBlock ∧ some k_ ≠ (v316 : Value).ownBlock ∧ k_ ≠ gb245 ∧ k_ ≠ gb246 ∧ k_ ≠ gb247) ho0 (fun k_ hk_ => ⟨Or.elim hk_.1 (fun hs_ => hs_.1.1.1) (fun hn_ => (.inr (Nat.le_trans (below_size (hB_ HB)) hn_))), hk_.2.1, hk_.2.2, Or.elim hk_.1 (fun hs_ => hs_.1.1.2) (fun hn_ => (fB_ BK245 k_ hn_)), Or.elim hk_.1 (fun hs_ => hs_.1.2) (fun hn_ => (fB_ BK246 k_ hn_)), Or.elim hk_.1 (fun hs_ => hs_.2) (fun hn_ => (fB_ BK247 k_ hn_))⟩)) (below_size (hB_ HB))); have n2_ := Aside0.mk (Kd.R_lower (Kd.R_newM (M := fun k_ => (w.heap.size ≤ k_)) (Kd.R_mono (ok' := fun k_ => True) ho1 (fun _ hk_ => trivial)) (below_size (hB_ HB)) (fun k_ h_ => h_)) (below_size (hB_ HB))); have n3_ := Aside0.mk (Kd.R_lower (Kd.R_newM (M := fun k_ => (w.heap.size ≤ k_)) (Kd.R_mono (ok' := fun k_ => True) ho2 (fun _ hk_ => trivial)) (below_size (hB_ HB)) (fun k_ h_ => h_)) (below_size (hB_ HB))); have n5_ := bB_ BK246 hb; have n7_ := Aside0.mk (below_step (hB_ HB) hb); clear HO1; clear BK246; clear HB; have HO1 := n0_; have HO308 := n1_; have HO314 := n2_; have HO317 := n3_; have BK246 := n5_; have HB := n7_; replace BK245 := bB_ BK245 hb; replace BK247 := bB_ BK247 hb; clear n0_ n1_ n2_ n3_ n5_ n7_; (try clear hb); (try clear hb2); (try clear hk); (try clear hi); (try clear ho0); (try clear ho1); (try clear ho2); obtain ⟨hcz88_0, hcz88_1, hcz88_2, hcz88_3, hcz88_4, hfz88_0, hfz88_1, hfz88_2, hfz88_3, hfz88_4⟩ := cz5_ (w := w87) BK247; obtain ⟨Ao89, co89, eo89⟩ := Kd.R_slice HO314.out; subst eo89; obtain ⟨Ao90, co90, eo90⟩ := Kd.R_slice HO317.out; subst eo90))
       refine bodyPost_ret (results_tc rfl _ _ gb247 34 #[.int .i64 t309, .int .u32 t310, .bool t311, .slice Ao89 t312.length co89, .slice Ao90 t315.length co90] (0, 0) _ rfl (by (with_reducible repeat (first | refine blk_drewN ?_ _ | refine blk_drew ?_ | refine blk_alloc ?_ _)); refine blk_put (cs := #[.int .i64 t309, .int .u32 t310, .bool t311, .slice Ao89 t312.length co89, .slice none 0 0]) ?_ 4 _ rfl; refine blk_put (cs := #[.int .i64 t309, .int .u32 t310, .bool t311, .slice none 0 0, .slice none 0 0]) ?_ 3 _ rfl; refine blk_put (cs := #[.int .i64 t309, .int .u32 t310, .bool false, .slice none 0 0, .slice none 0 0]) ?_ 2 _ rfl; refine blk_put (cs := #[.int .i64 t309, .int .u32 0, .bool false, .slice none 0 0, .slice none 0 0]) ?_ 1 _ rfl; refine blk_put (cs := #[.int .i64 0, .int .u32 0, .bool false, .slice none 0 0, .slice none 0 0]) ?_ 0 _ rfl; (with_reducible repeat (first | refine blk_drewN ?_ _ | refine blk_drew ?_ | refine blk_alloc ?_ _)); exact BK247.out) Tryd.underlying34 rfl (by kernel_rfl)) rfl ?_
       exact ⟨_, _, _, er_, by (with_reducible repeat (first | apply Kd.V_alloc | apply Kd.V_drewN | apply Kd.V_drew)); exact Kd.V_mono (vF5_ (g := gb247) (Kd.V_mono HO308.out (fun k_ hk => (⟨hk, hk.2.2.2.2.2⟩ : _ ∧ k_ ≠ gb247))) (fun _ hk => hk.2)) (fun _ hk => ⟨hk.1.1, ⟨hk.1.2.1, hk.1.2.2.1⟩⟩), by (with_reducible repeat (first | apply Kd.R_alloc | apply Kd.R_drewN | apply Kd.R_drew)); exact Kd.R_mono (rF5_ (g := gb247) (Kd.R_types HO314.out BK247.out (by decide)) (fun _ hk => hk.2)) (fun _ hk => hk.1.1), by (with_reducible repeat (first | apply Kd.R_alloc | apply Kd.R_drewN | apply Kd.R_drew)); exact Kd.R_mono (rF5_ (g := gb247) (Kd.R_types HO317.out BK247.out (by decide)) (fun _ hk => hk.2)) (fun _ hk => hk.1.1), hB_ HB⟩
      ·rw [if_neg c74] at H
       have c74b0 : (a2_0 == 5) = false := beq_eq_false_iff_ne.mpr c74
       have c74b1 : (a2_0 != 5) = true := bne_iff_ne.mpr c74
       by_cases c91 : a2_0 = 6
       ·rw [if_pos c91] at H
        have c91b0 : (a2_0 == 6) = true := beq_iff_eq.mpr c91
        have c91b1 : (a2_0 != 6) = false := bne_eq_false_iff_eq.mpr c91
        clear c91; replace H := Option.bind_eq_some_iff.mp H; obtain ⟨⟨t318, t321, t322, t323, t324, t327⟩, A920, H⟩ := H
        replace H : (some (t318, t321, t322, t323, t324, t327)) = some (r1, r2, r3, r4, r5, r6) := H
        have A92 := Aside0.mk A920; clear A920; simp only [Option.some.injEq, Prod.mk.injEq] at H; obtain ⟨rfl, rfl, rfl, rfl, rfl, rfl⟩ := H
        go_enter Tryd.func15, Tryd.ntmps15
        go_wp2_with (first | ((with_reducible refine gate_dst (N := 3) rfl ?_); refine box_event ?hg (N := 3) ?hd (cs := #[.int .u32 a0_0, .int .i64 a0_1, .slice A0_2 l0_2.length c0_2, .int .i64 a0_3, .int .i64 a0_4, .int .i64 a0_5, .int .i64 a0_6]) (t := 27) ?hr ?_; (case hd => rfl); (case hg => rfl); (case hr => first | (go_simp; done) | (go_simp; rfl)); intro gb245 hg w93 hbox hb; have n0_ := Aside0.mk (Kd.V_below (Kd.V_elderB (vV_ HO1) gb245 (Nat.le_of_eq hg.symm)) hb); have n2_ := Aside0.mk (hbox); have n3_ := gG_ (w := w) hg HB; have n4_ := gG_ (w := w) hg HB; clear HO1; have HO1 := n0_; have BK245 := n2_; have GW245 := n3_; have GE245 := n4_; replace HB := hS_ HB hb; clear n0_ n2_ n3_ n4_; clear hb hbox hg) | ((with_reducible refine gate_dst (N := 5) rfl ?_); refine box_event ?hg (N := 5) ?hd (cs := #[.int .i64 a2_0, .int .u32 a2_1, .slice A2_2 l2_2.length c2_2]) (t := 30) ?hr ?_; (case hd => rfl); (case hg => rfl); (case hr => first | (go_simp; done) | (go_simp; rfl)); intro gb246 hg w94 hbox hb; have n0_ := Aside0.mk (Kd.V_below (Kd.V_elderB (vV_ HO1) gb246 (Nat.le_of_eq hg.symm)) hb); have n2_ := Aside0.mk (below_step (hB_ HB) hb); have n3_ := Aside0.mk (hbox); have n4_ := gG_ (w := w) hg HB; have n5_ := gG_ (w := w) hg HB; have n6_ := nL_ hg BK245; have n7_ := nG_ hg BK245; clear HO1; clear HB; have HO1 := n0_; have HB := n2_; have BK246 := n3_; have GW246 := n4_; have GE246 := n5_; have NB245_246 := n6_; have NB246_245 := n7_; replace BK245 := bB_ BK245 hb; clear n0_ n2_ n3_ n4_ n5_ n6_ n7_; clear hb hbox hg) | ((with_reducible refine gate_dst (N := 7) rfl ?_); refine box_event ?hg (N := 7) ?hd (cs := #[.int .i64 0, .int .u32 0, .bool false, .slice none 0 0, .slice none 0 0]) (t := 34) ?hr ?_; (case hd => rfl); (case hg => rfl); (case hr => first | (go_simp; done) | (go_simp; rfl)); intro gb247 hg w95 hbox hb; have n0_ := Aside0.mk (Kd.V_below (Kd.V_elderB (vV_ HO1) gb247 (Nat.le_of_eq hg.symm)) hb); have n2_ := bB_ BK246 hb; have n4_ := Aside0.mk (hbox); have n5_ := gG_ (w := w) hg HB; have n6_ := gG_ (w := w) hg HB; have n7_ := nL_ hg BK245; have n8_ := nG_ hg BK245; have n9_ := nL_ hg BK246; have n10_ := nG_ hg BK246; clear HO1; clear BK246; have HO1 := n0_; have BK246 := n2_; have BK247 := n4_; have GW247 := n5_; have GE247 := n6_; have NB245_247 := n7_; have NB247_245 := n8_; have NB246_247 := n9_; have NB247_246 := n10_; replace BK245 := bB_ BK245 hb; replace HB := hS_ HB hb; clear n0_ n2_ n4_ n5_ n6_ n7_ n8_ n9_ n10_; clear hb hbox hg; have hnb96 := NB245_246.out; have hnc96 := NB246_245.out; have hnb97 := NB245_247.out; have hnc97 := NB247_245.out; obtain ⟨hcz98_0, hcz98_1, hcz98_2, hcz98_3, hcz98_4, hcz98_5, hcz98_6, hfz98_0, hfz98_1, hfz98_2, hfz98_3, hfz98_4, hfz98_5, hfz98_6⟩ := cz7_ (w := w95) BK245; have hnb99 := NB246_247.out; have hnc99 := NB247_246.out; obtain ⟨hcz100_0, hcz100_1, hcz100_2, hfz100_0, hfz100_1, hfz100_2⟩ := cz3_ (w := w95) BK246) | ((with_reducible refine gate_callee (f := 32) rfl ?_); refine goesL_ (some 11) rfl rfl Tryd.func32 (by kernel_rfl) rfl #[.agg #[.int .u32 a0_0, .int .i64 a0_1, .slice A0_2 l0_2.length c0_2, .int .i64 a0_3, .int .i64 a0_4, .int .i64 a0_5, .int .i64 a0_6], .agg #[.int .i64 a2_0, .int .u32 a2_1, .slice A2_2 l2_2.length c2_2]] rfl am_ ?_; (with_reducible refine (ask_Check.calls k a0_0 a0_1 _ _ l0_2 a0_3 a0_4 a0_5 a0_6 a2_0 a2_1 _ _ l2_2 t248 _ ?side1 ?side2 ?side3 ?side4 ?side5 A4.out).mono ?_); (case side1 => exact cC_ HR0_2 HB); (case side2 => exact HC0_2.out); (case side3 => exact cC_ HR2_2 HB); (case side4 => exact HC2_2.out); (case side5 => exact Lg_below HG.out (hB_ HB)); rintro e w101 ⟨rfl, hb⟩; refine ⟨_, rfl, ?_⟩; have n0_ := Aside0.mk (Kd.V_below (vV_ HO1) hb); have n2_ := bB_ BK246 hb; have n4_ := Aside0.mk (below_step (hB_ HB) hb); clear HO1; clear BK246; clear HB; have HO1 := n0_; have BK246 := n2_; have HB := n4_; replace BK245 := bB_ BK245 hb; replace BK247 := bB_ BK247 hb; clear n0_ n2_ n4_; (try clear hb); (try clear hb2); (try clear hk); (try clear hi); obtain ⟨hcz102_0, hcz102_1, hcz102_2, hfz102_0, hfz102_1, hfz102_2⟩ := cz3_ (w := w101) BK246; obtain ⟨hcz103_0, hcz103_1, hcz103_2, hcz103_3, hcz103_4, hcz103_5, hcz103_6, hfz103_0, hfz103_1, hfz103_2, hfz103_3, hfz103_4, hfz103_5, hfz103_6⟩ := cz7_ (w := w101) BK245; obtain ⟨bm_, hgm_, hlm_⟩ := Ld_at (Lg_below HG.out HB.out).2 (j := a2_0) (f := 79) (by have e_ := beq_iff_eq.mp c91b0; rw [e_]; simp [deeds])) | ((with_reducible refine gate_dst (N := 24) rfl ?_); refine goesV_ (some 24) rfl rfl Tryd.func79 (by kernel_rfl) rfl #[.agg #[.int .u32 a0_0, .int .i64 a0_1, .slice A0_2 l0_2.length c0_2, .int .i64 a0_3, .int .i64 a0_4, .int .i64 a0_5, .int .i64 a0_6], .slice A1 l1.length c1, .agg #[.int .i64 a2_0, .int .u32 a2_1, .slice A2_2 l2_2.length c2_2]] rfl (by first | rfl | (go_simp; done) | (go_simp; rfl)) am_ ?_; (with_reducible refine (spec_snapshot.calls k a0_0 a0_1 _ _ l0_2 a0_3 a0_4 a0_5 a0_6 (fun k_ => ((((P1_ k_ ∨ w.heap.size ≤ k_) ∧ k_ ≠ gb245) ∧ k_ ≠ gb246) ∧ k_ ≠ gb247)) _ _ l1 a2_0 a2_1 _ _ l2_2 t318 t321 t322 t323 t324 t327 _ ?side1 ?side2 ?side3 ?side4 ?side5 A92.out).mono ?_); (case side1 => exact cC_ HR0_2 HB); (case side2 => exact HC0_2.out); (case side3 => exact HO1.out); (case side4 => exact cC_ HR2_2 HB); (case side5 => exact HC2_2.out); rintro e w104 ⟨v319, v325, v328, rfl, ho0, ho1, ho2, hb⟩; refine ⟨_, rfl, ?_⟩; have n0_ := Aside0.mk (Kd.V_mono (Kd.V_told (Kd.V_told (Kd.V_old (vV_ HO1) hb) (Kd.R_base ho1)) (Kd.R_base ho2)) (fun _ h_ => h_.1)); have n1_ := Aside0.mk (Kd.V_lower (Kd.V_mono (ok' := fun k_ => (P1_ k_ ∨ w.heap.size ≤ k_) ∧ some k_ ≠ (v325 : Value).ownBlock ∧ some k_ ≠ (v328 : Value).ownBlock ∧ k_ ≠ gb245 ∧ k_ ≠ gb246 ∧ k_ ≠ gb247) ho0 (fun k_ hk_ => ⟨Or.elim hk_.1 (fun hs_ => hs_.1.1.1) (fun hn_ => (.inr (Nat.le_trans (below_size (hB_ HB)) hn_))), hk_.2.1, hk_.2.2, Or.elim hk_.1 (fun hs_ => hs_.1.1.2) (fun hn_ => (fB_ BK245 k_ hn_)), Or.elim hk_.1 (fun hs_ => hs_.1.2) (fun hn_ => (fB_ BK246 k_ hn_)), Or.elim hk_.1 (fun hs_ => hs_.2) (fun hn_ => (fB_ BK247 k_ hn_))⟩)) (below_size (hB_ HB))); have n2_ := Aside0.mk (Kd.R_lower (Kd.R_newM (M := fun k_ => (w.heap.size ≤ k_)) (Kd.R_mono (ok' := fun k_ => True) ho1 (fun _ hk_ => trivial)) (below_size (hB_ HB)) (fun k_ h_ => h_)) (below_size (hB_ HB))); have n3_ := Aside0.mk (Kd.R_lower (Kd.R_newM (M := fun k_ => (w.heap.size ≤ k_)) (Kd.R_mono (ok' := fun k_ => True) ho2 (fun _ hk_ => trivial)) (below_size (hB_ HB)) (fun k_ h_ => h_)) (below_size (hB_ HB))); have n5_ := bB_ BK246 hb; have n7_ := Aside0.mk (below_step (hB_ HB) hb); clear HO1; clear BK246; clear HB; have HO1 := n0_; have HO320 := n1_; have HO326 := n2_; have HO329 := n3_; have BK246 := n5_; have HB := n7_; replace BK245 := bB_ BK245 hb; replace BK247 := bB_ BK247 hb; clear n0_ n1_ n2_ n3_ n5_ n7_; (try clear hb); (try clear hb2); (try clear hk); (try clear hi); (try clear ho0); (try clear ho1); (try clear ho2); obtain ⟨hcz105_0, hcz105_1, hcz105_2, hcz105_3, hcz105_4, hfz105_0, hfz105_1, hfz105_2, hfz105_3, hfz105_4⟩ := cz5_ (w := w104) BK247; obtain ⟨Ao106, co106, eo106⟩ := Kd.R_slice HO326.out; subst eo106; obtain ⟨Ao107, co107, eo107⟩ := Kd.R_slice HO329.out; subst eo107))
        refine bodyPost_ret (results_tc rfl _ _ gb247 34 #[.int .i64 t321, .int .u32 t322, .bool t323, .slice Ao106 t324.length co106, .slice Ao107 t327.length co107] (0, 0) _ rfl (by (with_reducible repeat (first | refine blk_drewN ?_ _ | refine blk_drew ?_ | refine blk_alloc ?_ _)); refine blk_put (cs := #[.int .i64 t321, .int .u32 t322, .bool t323, .slice Ao106 t324.length co106, .slice none 0 0]) ?_ 4 _ rfl; refine blk_put (cs := #[.int .i64 t321, .int .u32 t322, .bool t323, .slice none 0 0, .slice none 0 0]) ?_ 3 _ rfl; refine blk_put (cs := #[.int .i64 t321, .int .u32 t322, .bool false, .slice none 0 0, .slice none 0 0]) ?_ 2 _ rfl; refine blk_put (cs := #[.int .i64 t321, .int .u32 0, .bool false, .slice none 0 0, .slice none 0 0]) ?_ 1 _ rfl; refine blk_put (cs := #[.int .i64 0, .int .u32 0, .bool false, .slice none 0 0, .slice none 0 0]) ?_ 0 _ rfl; (with_reducible repeat (first | refine blk_drewN ?_ _ | refine blk_drew ?_ | refine blk_alloc ?_ _)); exact BK247.out) Tryd.underlying34 rfl (by kernel_rfl)) rfl ?_
        exact ⟨_, _, _, er_, by (with_reducible repeat (first | apply Kd.V_alloc | apply Kd.V_drewN | apply Kd.V_drew)); exact Kd.V_mono (vF5_ (g := gb247) (Kd.V_mono HO320.out (fun k_ hk => (⟨hk, hk.2.2.2.2.2⟩ : _ ∧ k_ ≠ gb247))) (fun _ hk => hk.2)) (fun _ hk => ⟨hk.1.1, ⟨hk.1.2.1, hk.1.2.2.1⟩⟩), by (with_reducible repeat (first | apply Kd.R_alloc | apply Kd.R_drewN | apply Kd.R_drew)); exact Kd.R_mono (rF5_ (g := gb247) (Kd.R_types HO326.out BK247.out (by decide)) (fun _ hk => hk.2)) (fun _ hk => hk.1.1), by (with_reducible repeat (first | apply Kd.R_alloc | apply Kd.R_drewN | apply Kd.R_drew)); exact Kd.R_mono (rF5_ (g := gb247) (Kd.R_types HO329.out BK247.out (by decide)) (fun _ hk => hk.2)) (fun _ hk => hk.1.1), hB_ HB⟩
       ·rw [if_neg c91] at H
        have c91b0 : (a2_0 == 6) = false := beq_eq_false_iff_ne.mpr c91
        have c91b1 : (a2_0 != 6) = true := bne_iff_ne.mpr c91
        by_cases c777 : a2_0 = 7
        rotate_left
        ·rw [if_neg c777] at H
         exact absurd H (by simp)
        rw [if_pos c777] at H
        have c777b0 : (a2_0 == 7) = true := beq_iff_eq.mpr c777
        clear c777; replace H := Option.bind_eq_some_iff.mp H; obtain ⟨⟨t330, t333, t334, t335, t336, t339⟩, A1080, H⟩ := H
        replace H : (some (t330, t333, t334, t335, t336, t339)) = some (r1, r2, r3, r4, r5, r6) := H
        have A108 := Aside0.mk A1080; clear A1080; simp only [Option.some.injEq, Prod.mk.injEq] at H; obtain ⟨rfl, rfl, rfl, rfl, rfl, rfl⟩ := H
        go_enter Tryd.func15, Tryd.ntmps15
        go_wp2_with (first | ((with_reducible refine gate_dst (N := 3) rfl ?_); refine box_event ?hg (N := 3) ?hd (cs := #[.int .u32 a0_0, .int .i64 a0_1, .slice A0_2 l0_2.length c0_2, .int .i64 a0_3, .int .i64 a0_4, .int .i64 a0_5, .int .i64 a0_6]) (t := 27) ?hr ?_; (case hd => rfl); (case hg => rfl); (case hr => first | (go_simp; done) | (go_simp; rfl)); intro gb245 hg w109 hbox hb; have n0_ := Aside0.mk (Kd.V_below (Kd.V_elderB (vV_ HO1) gb245 (Nat.le_of_eq hg.symm)) hb); have n2_ := Aside0.mk (hbox); have n3_ := gG_ (w := w) hg HB; have n4_ := gG_ (w := w) hg HB; clear HO1; have HO1 := n0_; have BK245 := n2_; have GW245 := n3_; have GE245 := n4_; replace HB := hS_ HB hb; clear n0_ n2_ n3_ n4_; clear hb hbox hg) | ((with_reducible refine gate_dst (N := 5) rfl ?_); refine box_event ?hg (N := 5) ?hd (cs := #[.int .i64 a2_0, .int .u32 a2_1, .slice A2_2 l2_2.length c2_2]) (t := 30) ?hr ?_; (case hd => rfl); (case hg => rfl); (case hr => first | (go_simp; done) | (go_simp; rfl)); intro gb246 hg w110 hbox hb; have n0_ := Aside0.mk (Kd.V_below (Kd.V_elderB (vV_ HO1) gb246 (Nat.le_of_eq hg.symm)) hb); have n2_ := Aside0.mk (below_step (hB_ HB) hb); have n3_ := Aside0.mk (hbox); have n4_ := gG_ (w := w) hg HB; have n5_ := gG_ (w := w) hg HB; have n6_ := nL_ hg BK245; have n7_ := nG_ hg BK245; clear HO1; clear HB; have HO1 := n0_; have HB := n2_; have BK246 := n3_; have GW246 := n4_; have GE246 := n5_; have NB245_246 := n6_; have NB246_245 := n7_; replace BK245 := bB_ BK245 hb; clear n0_ n2_ n3_ n4_ n5_ n6_ n7_; clear hb hbox hg) | ((with_reducible refine gate_dst (N := 7) rfl ?_); refine box_event ?hg (N := 7) ?hd (cs := #[.int .i64 0, .int .u32 0, .bool false, .slice none 0 0, .slice none 0 0]) (t := 34) ?hr ?_; (case hd => rfl); (case hg => rfl); (case hr => first | (go_simp; done) | (go_simp; rfl)); intro gb247 hg w111 hbox hb; have n0_ := Aside0.mk (Kd.V_below (Kd.V_elderB (vV_ HO1) gb247 (Nat.le_of_eq hg.symm)) hb); have n2_ := bB_ BK246 hb; have n4_ := Aside0.mk (hbox); have n5_ := gG_ (w := w) hg HB; have n6_ := gG_ (w := w) hg HB; have n7_ := nL_ hg BK245; have n8_ := nG_ hg BK245; have n9_ := nL_ hg BK246; have n10_ := nG_ hg BK246; clear HO1; clear BK246; have HO1 := n0_; have BK246 := n2_; have BK247 := n4_; have GW247 := n5_; have GE247 := n6_; have NB245_247 := n7_; have NB247_245 := n8_; have NB246_247 := n9_; have NB247_246 := n10_; replace BK245 := bB_ BK245 hb; replace HB := hS_ HB hb; clear n0_ n2_ n4_ n5_ n6_ n7_ n8_ n9_ n10_; clear hb hbox hg; have hnb112 := NB245_246.out; have hnc112 := NB246_245.out; have hnb113 := NB245_247.out; have hnc113 := NB247_245.out; obtain ⟨hcz114_0, hcz114_1, hcz114_2, hcz114_3, hcz114_4, hcz114_5, hcz114_6, hfz114_0, hfz114_1, hfz114_2, hfz114_3, hfz114_4, hfz114_5, hfz114_6⟩ := cz7_ (w := w111) BK245; have hnb115 := NB246_247.out; have hnc115 := NB247_246.out; obtain ⟨hcz116_0, hcz116_1, hcz116_2, hfz116_0, hfz116_1, hfz116_2⟩ := cz3_ (w := w111) BK246) | ((with_reducible refine gate_callee (f := 32) rfl ?_); refine goesL_ (some 11) rfl rfl Tryd.func32 (by kernel_rfl) rfl #[.agg #[.int .u32 a0_0, .int .i64 a0_1, .slice A0_2 l0_2.length c0_2, .int .i64 a0_3, .int .i64 a0_4, .int .i64 a0_5, .int .i64 a0_6], .agg #[.int .i64 a2_0, .int .u32 a2_1, .slice A2_2 l2_2.length c2_2]] rfl am_ ?_; (with_reducible refine (ask_Check.calls k a0_0 a0_1 _ _ l0_2 a0_3 a0_4 a0_5 a0_6 a2_0 a2_1 _ _ l2_2 t248 _ ?side1 ?side2 ?side3 ?side4 ?side5 A4.out).mono ?_); (case side1 => exact cC_ HR0_2 HB); (case side2 => exact HC0_2.out); (case side3 => exact cC_ HR2_2 HB); (case side4 => exact HC2_2.out); (case side5 => exact Lg_below HG.out (hB_ HB)); rintro e w117 ⟨rfl, hb⟩; refine ⟨_, rfl, ?_⟩; have n0_ := Aside0.mk (Kd.V_below (vV_ HO1) hb); have n2_ := bB_ BK246 hb; have n4_ := Aside0.mk (below_step (hB_ HB) hb); clear HO1; clear BK246; clear HB; have HO1 := n0_; have BK246 := n2_; have HB := n4_; replace BK245 := bB_ BK245 hb; replace BK247 := bB_ BK247 hb; clear n0_ n2_ n4_; (try clear hb); (try clear hb2); (try clear hk); (try clear hi); obtain ⟨hcz118_0, hcz118_1, hcz118_2, hfz118_0, hfz118_1, hfz118_2⟩ := cz3_ (w := w117) BK246; obtain ⟨hcz119_0, hcz119_1, hcz119_2, hcz119_3, hcz119_4, hcz119_5, hcz119_6, hfz119_0, hfz119_1, hfz119_2, hfz119_3, hfz119_4, hfz119_5, hfz119_6⟩ := cz7_ (w := w117) BK245; obtain ⟨bm_, hgm_, hlm_⟩ := Ld_at (Lg_below HG.out HB.out).2 (j := a2_0) (f := 80) (by have e_ := beq_iff_eq.mp c777b0; rw [e_]; simp [deeds])) | ((with_reducible refine gate_dst (N := 24) rfl ?_); refine goesV_ (some 24) rfl rfl Tryd.func80 (by kernel_rfl) rfl #[.agg #[.int .u32 a0_0, .int .i64 a0_1, .slice A0_2 l0_2.length c0_2, .int .i64 a0_3, .int .i64 a0_4, .int .i64 a0_5, .int .i64 a0_6], .slice A1 l1.length c1, .agg #[.int .i64 a2_0, .int .u32 a2_1, .slice A2_2 l2_2.length c2_2]] rfl (by first | rfl | (go_simp; done) | (go_simp; rfl)) am_ ?_; (with_reducible refine (spec_closing.calls a0_0 a0_1 _ _ l0_2 a0_3 a0_4 a0_5 a0_6 (fun k_ => ((((P1_ k_ ∨ w.heap.size ≤ k_) ∧ k_ ≠ gb245) ∧ k_ ≠ gb246) ∧ k_ ≠ gb247)) _ _ l1 a2_0 a2_1 _ _ l2_2 t330 t333 t334 t335 t336 t339 _ ?side1 ?side2 ?side3 ?side4 ?side5 A108.out).mono ?_); (case side1 => exact cC_ HR0_2 HB); (case side2 => exact HC0_2.out); (case side3 => exact HO1.out); (case side4 => exact cC_ HR2_2 HB); (case side5 => exact HC2_2.out); rintro e w120 ⟨v331, v337, v340, rfl, ho0, ho1, ho2, hb⟩; refine ⟨_, rfl, ?_⟩; have n0_ := Aside0.mk (Kd.V_mono (Kd.V_told (Kd.V_told (Kd.V_old (vV_ HO1) hb) (Kd.R_base ho1)) (Kd.R_base ho2)) (fun _ h_ => h_.1)); have n1_ := Aside0.mk (Kd.V_lower (Kd.V_mono (ok' := fun k_ => (P1_ k_ ∨ w.heap.size ≤ k_) ∧ some k_ ≠ (v337 : Value).ownBlock ∧ some k_ ≠ (v340 : Value).ownBlock ∧ k_ ≠ gb245 ∧ k_ ≠ gb246 ∧ k_ ≠ gb247) ho0 (fun k_ hk_ => ⟨Or.elim hk_.1 (fun hs_ => hs_.1.1.1) (fun hn_ => (.inr (Nat.le_trans (below_size (hB_ HB)) hn_))), hk_.2.1, hk_.2.2, Or.elim hk_.1 (fun hs_ => hs_.1.1.2) (fun hn_ => (fB_ BK245 k_ hn_)), Or.elim hk_.1 (fun hs_ => hs_.1.2) (fun hn_ => (fB_ BK246 k_ hn_)), Or.elim hk_.1 (fun hs_ => hs_.2) (fun hn_ => (fB_ BK247 k_ hn_))⟩)) (below_size (hB_ HB))); have n2_ := Aside0.mk (Kd.R_lower (Kd.R_newM (M := fun k_ => (w.heap.size ≤ k_)) (Kd.R_mono (ok' := fun k_ => True) ho1 (fun _ hk_ => trivial)) (below_size (hB_ HB)) (fun k_ h_ => h_)) (below_size (hB_ HB))); have n3_ := Aside0.mk (Kd.R_lower (Kd.R_newM (M := fun k_ => (w.heap.size ≤ k_)) (Kd.R_mono (ok' := fun k_ => True) ho2 (fun _ hk_ => trivial)) (below_size (hB_ HB)) (fun k_ h_ => h_)) (below_size (hB_ HB))); have n5_ := bB_ BK246 hb; have n7_ := Aside0.mk (below_step (hB_ HB) hb); clear HO1; clear BK246; clear HB; have HO1 := n0_; have HO332 := n1_; have HO338 := n2_; have HO341 := n3_; have BK246 := n5_; have HB := n7_; replace BK245 := bB_ BK245 hb; replace BK247 := bB_ BK247 hb; clear n0_ n1_ n2_ n3_ n5_ n7_; (try clear hb); (try clear hb2); (try clear hk); (try clear hi); (try clear ho0); (try clear ho1); (try clear ho2); obtain ⟨hcz121_0, hcz121_1, hcz121_2, hcz121_3, hcz121_4, hfz121_0, hfz121_1, hfz121_2, hfz121_3, hfz121_4⟩ := cz5_ (w := w120) BK247; obtain ⟨Ao122, co122, eo122⟩ := Kd.R_slice HO338.out; subst eo122; obtain ⟨Ao123, co123, eo123⟩ := Kd.R_slice HO341.out; subst eo123))
        refine bodyPost_ret (results_tc rfl _ _ gb247 34 #[.int .i64 t333, .int .u32 t334, .bool t335, .slice Ao122 t336.length co122, .slice Ao123 t339.length co123] (0, 0) _ rfl (by (with_reducible repeat (first | refine blk_drewN ?_ _ | refine blk_drew ?_ | refine blk_alloc ?_ _)); refine blk_put (cs := #[.int .i64 t333, .int .u32 t334, .bool t335, .slice Ao122 t336.length co122, .slice none 0 0]) ?_ 4 _ rfl; refine blk_put (cs := #[.int .i64 t333, .int .u32 t334, .bool t335, .slice none 0 0, .slice none 0 0]) ?_ 3 _ rfl; refine blk_put (cs := #[.int .i64 t333, .int .u32 t334, .bool false, .slice none 0 0, .slice none 0 0]) ?_ 2 _ rfl; refine blk_put (cs := #[.int .i64 t333, .int .u32 0, .bool false, .slice none 0 0, .slice none 0 0]) ?_ 1 _ rfl; refine blk_put (cs := #[.int .i64 0, .int .u32 0, .bool false, .slice none 0 0, .slice none 0 0]) ?_ 0 _ rfl; (with_reducible repeat (first | refine blk_drewN ?_ _ | refine blk_drew ?_ | refine blk_alloc ?_ _)); exact BK247.out) Tryd.underlying34 rfl (by kernel_rfl)) rfl ?_
        exact ⟨_, _, _, er_, by (with_reducible repeat (first | apply Kd.V_alloc | apply Kd.V_drewN | apply Kd.V_drew)); exact Kd.V_mono (vF5_ (g := gb247) (Kd.V_mono HO332.out (fun k_ hk => (⟨hk, hk.2.2.2.2.2⟩ : _ ∧ k_ ≠ gb247))) (fun _ hk => hk.2)) (fun _ hk => ⟨hk.1.1, ⟨hk.1.2.1, hk.1.2.2.1⟩⟩), by (with_reducible repeat (first | apply Kd.R_alloc | apply Kd.R_drewN | apply Kd.R_drew)); exact Kd.R_mono (rF5_ (g := gb247) (Kd.R_types HO338.out BK247.out (by decide)) (fun _ hk => hk.2)) (fun _ hk => hk.1.1), by (with_reducible repeat (first | apply Kd.R_alloc | apply Kd.R_drewN | apply Kd.R_drew)); exact Kd.R_mono (rF5_ (g := gb247) (Kd.R_types HO341.out BK247.out (by decide)) (fun _ hk => hk.2)) (fun _ hk => hk.1.1), hB_ HB⟩
 ·rw [if_neg c5] at H
  have c5b0 : (t248 == 0) = false := beq_eq_false_iff_ne.mpr c5
  have c5b1 : (t248 != 0) = true := bne_iff_ne.mpr c5
  replace H := Option.bind_eq_some_iff.mp H; obtain ⟨⟨t249, t250, t251, t252, t255⟩, A1240, H⟩ := H
  replace H : (some (l1, t249, t250, t251, t252, t255)) = some (r1, r2, r3, r4, r5, r6) := H
  have A124 := Aside0.mk A1240; clear A1240; simp only [Option.some.injEq, Prod.mk.injEq] at H; obtain ⟨rfl, rfl, rfl, rfl, rfl, rfl⟩ := H
  go_enter Tryd.func15, Tryd.ntmps15
  go_wp2_with (first | ((with_reducible refine gate_dst (N := 3) rfl ?_); refine box_event ?hg (N := 3) ?hd (cs := #[.int .u32 a0_0, .int .i64 a0_1, .slice A0_2 l0_2.length c0_2, .int .i64 a0_3, .int .i64 a0_4, .int .i64 a0_5, .int .i64 a0_6]) (t := 27) ?hr ?_; (case hd => rfl); (case hg => rfl); (case hr => first | (go_simp; done) | (go_simp; rfl)); intro gb245 hg w125 hbox hb; have n0_ := Aside0.mk (Kd.V_below (Kd.V_elderB (vV_ HO1) gb245 (Nat.le_of_eq hg.symm)) hb); have n2_ := Aside0.mk (hbox); have n3_ := gG_ (w := w) hg HB; have n4_ := gG_ (w := w) hg HB; clear HO1; have HO1 := n0_; have BK245 := n2_; have GW245 := n3_; have GE245 := n4_; replace HB := hS_ HB hb; clear n0_ n2_ n3_ n4_; clear hb hbox hg) | ((with_reducible refine gate_dst (N := 5) rfl ?_); refine box_event ?hg (N := 5) ?hd (cs := #[.int .i64 a2_0, .int .u32 a2_1, .slice A2_2 l2_2.length c2_2]) (t := 30) ?hr ?_; (case hd => rfl); (case hg => rfl); (case hr => first | (go_simp; done) | (go_simp; rfl)); intro gb246 hg w126 hbox hb; have n0_ := Aside0.mk (Kd.V_below (Kd.V_elderB (vV_ HO1) gb246 (Nat.le_of_eq hg.symm)) hb); have n2_ := Aside0.mk (below_step (hB_ HB) hb); have n3_ := Aside0.mk (hbox); have n4_ := gG_ (w := w) hg HB; have n5_ := gG_ (w := w) hg HB; have n6_ := nL_ hg BK245; have n7_ := nG_ hg BK245; clear HO1; clear HB; have HO1 := n0_; have HB := n2_; have BK246 := n3_; have GW246 := n4_; have GE246 := n5_; have NB245_246 := n6_; have NB246_245 := n7_; replace BK245 := bB_ BK245 hb; clear n0_ n2_ n3_ n4_ n5_ n6_ n7_; clear hb hbox hg) | ((with_reducible refine gate_dst (N := 7) rfl ?_); refine box_event ?hg (N := 7) ?hd (cs := #[.int .i64 0, .int .u32 0, .bool false, .slice none 0 0, .slice none 0 0]) (t := 34) ?hr ?_; (case hd => rfl); (case hg => rfl); (case hr => first | (go_simp; done) | (go_simp; rfl)); intro gb247 hg w127 hbox hb; have n0_ := Aside0.mk (Kd.V_below (Kd.V_elderB (vV_ HO1) gb247 (Nat.le_of_eq hg.symm)) hb); have n2_ := bB_ BK246 hb; have n4_ := Aside0.mk (hbox); have n5_ := gG_ (w := w) hg HB; have n6_ := gG_ (w := w) hg HB; have n7_ := nL_ hg BK245; have n8_ := nG_ hg BK245; have n9_ := nL_ hg BK246; have n10_ := nG_ hg BK246; clear HO1; clear BK246; have HO1 := n0_; have BK246 := n2_; have BK247 := n4_; have GW247 := n5_; have GE247 := n6_; have NB245_247 := n7_; have NB247_245 := n8_; have NB246_247 := n9_; have NB247_246 := n10_; replace BK245 := bB_ BK245 hb; replace HB := hS_ HB hb; clear n0_ n2_ n4_ n5_ n6_ n7_ n8_ n9_ n10_; clear hb hbox hg; have hnb128 := NB245_246.out; have hnc128 := NB246_245.out; have hnb129 := NB245_247.out; have hnc129 := NB247_245.out; obtain ⟨hcz130_0, hcz130_1, hcz130_2, hcz130_3, hcz130_4, hcz130_5, hcz130_6, hfz130_0, hfz130_1, hfz130_2, hfz130_3, hfz130_4, hfz130_5, hfz130_6⟩ := cz7_ (w := w127) BK245; have hnb131 := NB246_247.out; have hnc131 := NB247_246.out; obtain ⟨hcz132_0, hcz132_1, hcz132_2, hfz132_0, hfz132_1, hfz132_2⟩ := cz3_ (w := w127) BK246) | ((with_reducible refine gate_callee (f := 32) rfl ?_); refine goesL_ (some 11) rfl rfl Tryd.func32 (by kernel_rfl) rfl #[.agg #[.int .u32 a0_0, .int .i64 a0_1, .slice A0_2 l0_2.length c0_2, .int .i64 a0_3, .int .i64 a0_4, .int .i64 a0_5, .int .i64 a0_6], .agg #[.int .i64 a2_0, .int .u32 a2_1, .slice A2_2 l2_2.length c2_2]] rfl am_ ?_; (with_reducible refine (ask_Check.calls k a0_0 a0_1 _ _ l0_2 a0_3 a0_4 a0_5 a0_6 a2_0 a2_1 _ _ l2_2 t248 _ ?side1 ?side2 ?side3 ?side4 ?side5 A4.out).mono ?_); (case side1 => exact cC_ HR0_2 HB); (case side2 => exact HC0_2.out); (case side3 => exact cC_ HR2_2 HB); (case side4 => exact HC2_2.out); (case side5 => exact Lg_below HG.out (hB_ HB)); rintro e w133 ⟨rfl, hb⟩; refine ⟨_, rfl, ?_⟩; have n0_ := Aside0.mk (Kd.V_below (vV_ HO1) hb); have n2_ := bB_ BK246 hb; have n4_ := Aside0.mk (below_step (hB_ HB) hb); clear HO1; clear BK246; clear HB; have HO1 := n0_; have BK246 := n2_; have HB := n4_; replace BK245 := bB_ BK245 hb; replace BK247 := bB_ BK247 hb; clear n0_ n2_ n4_; (try clear hb); (try clear hb2); (try clear hk); (try clear hi)) | ((with_reducible refine gate_callee (f := 31) rfl ?_); refine goesL_ (some 16) rfl rfl Tryd.func31 (by kernel_rfl) rfl #[.int .i64 t248] rfl am_ ?_; (with_reducible refine (spec_fail.calls t248 t249 t250 t251 t252 t255 _ A124.out).mono ?_); rintro e w134 ⟨v253, v256, rfl, ho0, ho1, hb⟩; refine ⟨_, rfl, ?_⟩; have n0_ := Aside0.mk (Kd.V_mono (Kd.V_told (Kd.V_told (Kd.V_old (vV_ HO1) hb) (Kd.R_base ho0)) (Kd.R_base ho1)) (fun _ h_ => h_.1)); have n1_ := Aside0.mk (Kd.R_lower (Kd.R_newM (M := fun k_ => (w.heap.size ≤ k_)) ho0 (below_size (hB_ HB)) (fun k_ h_ => h_)) (below_size (hB_ HB))); have n2_ := Aside0.mk (Kd.R_lower (Kd.R_newM (M := fun k_ => (w.heap.size ≤ k_)) ho1 (below_size (hB_ HB)) (fun k_ h_ => h_)) (below_size (hB_ HB))); have n4_ := bB_ BK246 hb; have n6_ := Aside0.mk (below_step (hB_ HB) hb); clear HO1; clear BK246; clear HB; have HO1 := n0_; have HO254 := n1_; have HO257 := n2_; have BK246 := n4_; have HB := n6_; replace BK245 := bB_ BK245 hb; replace BK247 := bB_ BK247 hb; clear n0_ n1_ n2_ n4_ n6_; (try clear hb); (try clear hb2); (try clear hk); (try clear hi); (try clear ho0); (try clear ho1); obtain ⟨hcz135_0, hcz135_1, hcz135_2, hcz135_3, hcz135_4, hfz135_0, hfz135_1, hfz135_2, hfz135_3, hfz135_4⟩ := cz5_ (w := w134) BK247; obtain ⟨Ao136, co136, eo136⟩ := Kd.R_slice HO254.out; subst eo136; obtain ⟨Ao137, co137, eo137⟩ := Kd.R_slice HO257.out; subst eo137))
  refine bodyPost_ret (results_tc rfl _ _ gb247 34 #[.int .i64 t249, .int .u32 t250, .bool t251, .slice Ao136 t252.length co136, .slice Ao137 t255.length co137] (0, 0) _ rfl (by (with_reducible repeat (first | refine blk_drewN ?_ _ | refine blk_drew ?_ | refine blk_alloc ?_ _)); refine blk_put (cs := #[.int .i64 t249, .int .u32 t250, .bool t251, .slice Ao136 t252.length co136, .slice none 0 0]) ?_ 4 _ rfl; refine blk_put (cs := #[.int .i64 t249, .int .u32 t250, .bool t251, .slice none 0 0, .slice none 0 0]) ?_ 3 _ rfl; refine blk_put (cs := #[.int .i64 t249, .int .u32 t250, .bool false, .slice none 0 0, .slice none 0 0]) ?_ 2 _ rfl; refine blk_put (cs := #[.int .i64 t249, .int .u32 0, .bool false, .slice none 0 0, .slice none 0 0]) ?_ 1 _ rfl; refine blk_put (cs := #[.int .i64 0, .int .u32 0, .bool false, .slice none 0 0, .slice none 0 0]) ?_ 0 _ rfl; (with_reducible repeat (first | refine blk_drewN ?_ _ | refine blk_drew ?_ | refine blk_alloc ?_ _)); exact BK247.out) Tryd.underlying34 rfl (by kernel_rfl)) rfl ?_
  exact ⟨_, _, _, er_, by (with_reducible repeat (first | apply Kd.V_alloc | apply Kd.V_drewN | apply Kd.V_drew)); exact Kd.V_mono (vF5_ (g := gb247) (Kd.V_mono HO1.out (fun k_ hk => (⟨hk, hk.1.1.2⟩ : _ ∧ k_ ≠ gb247))) (fun _ hk => hk.2)) (fun _ hk => ⟨hk.1.1.1.1.1.1, ⟨hk.1.1.2, hk.1.2⟩⟩), by (with_reducible repeat (first | apply Kd.R_alloc | apply Kd.R_drewN | apply Kd.R_drew)); exact Kd.R_mono (rF5_ (g := gb247) (Kd.R_types HO254.out BK247.out (by decide)) (fun _ hk => hk.2)) (fun _ hk => hk.1.1), by (with_reducible repeat (first | apply Kd.R_alloc | apply Kd.R_drewN | apply Kd.R_drew)); exact Kd.R_mono (rF5_ (g := gb247) (Kd.R_types HO257.out BK247.out (by decide)) (fun _ hk => hk.2)) (fun _ hk => hk.1.1), hB_ HB⟩

/-! ### slices_Equal_uint32_uint32: function 41 -/
def slices_Equal_uint32_uint32.l0 : Nat → List Int → List Int → Int → Int → Option (Bool)
 | 0, _, _, _, _ => none
 | k + 1, x0, x1, x12, x13 => if x13 < x12 then (if 0 ≤ x13 then (if x13 < (x0.length : Int) then (if x13 < (x1.length : Int) then (if (rd x0 x13) = (rd x1 x13) then (slices_Equal_uint32_uint32.l0 k x0 x1 x12 (wrap64 (x13 + 1))) else (some false)) else (none)) else (none)) else (none)) else (some true)
def slices_Equal_uint32_uint32.f (k : Nat) (l0 : List Int) (l1 : List Int) : Option (Bool) := if (l0.length : Int) = (l1.length : Int) then (slices_Equal_uint32_uint32.l0 k l0 l1 (l0.length : Int) 0) else (some false)
theorem slices_Equal_uint32_uint32.mono_l : ∀ k, (∀ y0 y1 y2 y3, LeO (slices_Equal_uint32_uint32.l0 k y0 y1 y2 y3) (slices_Equal_uint32_uint32.l0 (k + 1) y0 y1 y2 y3))
 | 0 => fun _ _ _ _ r h => by simp [slices_Equal_uint32_uint32.l0] at h
 | k + 1 => by
  have ih0 := slices_Equal_uint32_uint32.mono_l k
  ·intro y0 y1 y2 y3
   unfold slices_Equal_uint32_uint32.l0
   repeat' first
   | (with_reducible exact ih0 _ _ _ _)
   | (with_reducible exact LeO.refl _)
   | (with_reducible exact LeO.none _)
   | (with_reducible refine LeO.ite ?_ ?_)
   | (with_reducible refine LeO.bind ?_ (fun _ => ?_))
   | exact ih0 _ _ _ _
   | exact LeO.none _
   | refine LeO.ite ?_ ?_
   | refine LeO.bind ?_ (fun _ => ?_)
theorem slices_Equal_uint32_uint32.mono : ∀ a0 a1 k, LeO (slices_Equal_uint32_uint32.f k a0 a1) (slices_Equal_uint32_uint32.f (k + 1) a0 a1) := by
 intro a0 a1 k
 have ih0 := slices_Equal_uint32_uint32.mono_l k
 unfold slices_Equal_uint32_uint32.f
 repeat' first
   | (with_reducible exact ih0 _ _ _ _)
   | (with_reducible exact LeO.refl _)
   | (with_reducible exact LeO.none _)
   | (with_reducible refine LeO.ite ?_ ?_)
   | (with_reducible refine LeO.bind ?_ (fun _ => ?_))
   | exact ih0 _ _ _ _
   | exact LeO.none _
   | refine LeO.ite ?_ ?_
   | refine LeO.bind ?_ (fun _ => ?_)
set_option maxHeartbeats 8000000 in
set_option maxRecDepth 100000 in
theorem slices_Equal_uint32_uint32.calls (k : Nat) (A0 : Option Addr) (c0 : Nat) (l0 : List Int) (A1 : Option Addr) (c1 : Nat) (l1 : List Int) (r : Bool) (w : World) (hr0 : Kd.C (Kd.int .u32) w A0 l0.length l0) (hc0 : l0.length ≤ c0) (hr1 : Kd.C (Kd.int .u32) w A1 l1.length l1) (hc1 : l1.length ≤ c1) (h : slices_Equal_uint32_uint32.f k l0 l1 = some r) :
  Calls Tryd.prog 41 #[.slice A0 l0.length c0, .slice A1 l1.length c1] w fun e w' => e = .returned (.bool r) ∧ Drawn0 w w' := by
 have HR0 := Aside0.mk hr0
 have HC0 := Aside0.mk hc0
 clear hr0 hc0
 have HR1 := Aside0.mk hr1
 have HC1 := Aside0.mk hc1
 clear hr1 hc1
 have H : (if (l0.length : Int) = (l1.length : Int) then (slices_Equal_uint32_uint32.l0 k l0 l1 (l0.length : Int) 0) else (some false)) = some r := h
 clear h
 by_cases c3 : (l0.length : Int) = (l1.length : Int)
 ·rw [if_pos c3] at H
  have c3b0 : ((l0.length : Int) == (l1.length : Int)) = true := beq_iff_eq.mpr c3
  have c3b1 : ((l0.length : Int) != (l1.length : Int)) = false := bne_eq_false_iff_eq.mpr c3
  have c3b2 : (l0.length == l1.length) = true := by first | simpa using c3 | (simp at c3 ⊢; omega)
  clear c3
  have H' := Aside0.mk H
  clear H
  go_enter Tryd.func41, Tryd.ntmps41
  go_wp2
  repeat (go_quiet (fail); try go_wp2)
  go_loopg [13] k (fun kq v13 w' => ∃ (x13_1 : Int), v13 = .int .i64 x13_1 ∧ Aside0 (slices_Equal_uint32_uint32.l0 kq l0 l1 (l0.length : Int) x13_1 = some r) ∧ Aside0 (kq ≤ k) ∧ Drawn0 w w')
  case atStart => exact ⟨(0), rs_, H', ⟨Nat.le_refl _⟩, by repeat (first | exact Drawn0.refl _ | apply Drawn0.step)⟩
  case round =>
   clear H'
   try clear c1
   try clear p2
   try clear c3
   try clear c3b0
   try clear c3b1
   try clear c3b2
   obtain ⟨x13_1, rfl, HA, HK1, ⟨m1, rfl⟩⟩ := hrel
   cases gk with
   | zero => exact absurd HA.out (by simp [slices_Equal_uint32_uint32.l0])
   | succ k1 =>
    have H := HA.out; clear HA; simp only [slices_Equal_uint32_uint32.l0] at H
    by_cases c4 : x13_1 < (l0.length : Int)
    ·rw [if_pos c4] at H
     have c4b0 : decide (x13_1 < (l0.length : Int)) = true := decide_eq_true c4
     clear c4
     by_cases c5 : 0 ≤ x13_1
     ·rw [if_pos c5] at H
      have c5b0 : decide (0 ≤ x13_1) = true := decide_eq_true c5
      clear c5
      by_cases c6 : x13_1 < (l0.length : Int)
      ·rw [if_pos c6] at H
       have c6b0 : decide (x13_1 < (l0.length : Int)) = true := decide_eq_true c6
       clear c6
       by_cases c7 : x13_1 < (l1.length : Int)
       ·rw [if_pos c7] at H
        have c7b0 : decide (x13_1 < (l1.length : Int)) = true := decide_eq_true c7
        clear c7
        by_cases c8 : (rd l0 x13_1) = (rd l1 x13_1)
        ·rw [if_pos c8] at H
         have c8b0 : ((rd l0 x13_1) == (rd l1 x13_1)) = true := beq_iff_eq.mpr c8
         have c8b1 : ((rd l0 x13_1) != (rd l1 x13_1)) = false := bne_eq_false_iff_eq.mpr c8
         clear c8
         have H' := Aside0.mk H
         clear H
         have p342 : 0 ≤ (x13_1 : Int) := od_
         have q342 : x13_1 < (l0.length : Int) := od_
         obtain ⟨ad342, e342, hx342_0⟩ := Kd.at_int HR0.out x13_1 p342 q342
         cases e342
         replace p342 := eq_true p342; replace q342 := eq_true q342
         have p343 : 0 ≤ (x13_1 : Int) := od_
         have q343 : x13_1 < (l1.length : Int) := od_
         obtain ⟨ad343, e343, hx343_0⟩ := Kd.at_int HR1.out x13_1 p343 q343
         cases e343
         replace p343 := eq_true p343; replace q343 := eq_true q343
         go_wp2
         repeat (go_quiet (fail); try go_wp2)
         go_roundg k1
         case measure => have := HK1.out; omega
         case rel => exact ⟨(wrap64 (x13_1 + 1)), rs_, H', ⟨by have := HK1.out; omega⟩, by repeat (first | exact Drawn0.refl _ | apply Drawn0.step)⟩
        ·rw [if_neg c8] at H
         have c8b0 : ((rd l0 x13_1) == (rd l1 x13_1)) = false := beq_eq_false_iff_ne.mpr c8
         have c8b1 : ((rd l0 x13_1) != (rd l1 x13_1)) = true := bne_iff_ne.mpr c8
         obtain rfl := Option.some.inj H
         have p342 : 0 ≤ (x13_1 : Int) := od_
         have q342 : x13_1 < (l0.length : Int) := od_
         obtain ⟨ad342, e342, hx342_0⟩ := Kd.at_int HR0.out x13_1 p342 q342
         cases e342
         replace p342 := eq_true p342; replace q342 := eq_true q342
         have p343 : 0 ≤ (x13_1 : Int) := od_
         have q343 : x13_1 < (l1.length : Int) := od_
         obtain ⟨ad343, e343, hx343_0⟩ := Kd.at_int HR1.out x13_1 p343 q343
         cases e343
         replace p343 := eq_true p343; replace q343 := eq_true q343
         go_wp2
         repeat (go_quiet (fail); try go_wp2)
         go_ret
         exact ⟨by first | rfl | (simp; done) | (simp [*]; done), by repeat (first | exact Drawn0.refl _ | apply Drawn0.step)⟩
       ·rw [if_neg c7] at H
        exact absurd H (by simp)
      ·rw [if_neg c6] at H
       exact absurd H (by simp)
     ·rw [if_neg c5] at H
      exact absurd H (by simp)
    ·rw [if_neg c4] at H
     have c4b0 : decide (x13_1 < (l0.length : Int)) = false := decide_eq_false c4
     clear c4
     obtain rfl := Option.some.inj H
     go_wp2
     repeat (go_quiet (fail); try go_wp2)
     go_ret
     exact ⟨by first | rfl | (simp; done) | (simp [*]; done), by repeat (first | exact Drawn0.refl _ | apply Drawn0.step)⟩
 ·rw [if_neg c3] at H
  have c3b0 : ((l0.length : Int) == (l1.length : Int)) = false := beq_eq_false_iff_ne.mpr c3
  have c3b1 : ((l0.length : Int) != (l1.length : Int)) = true := bne_iff_ne.mpr c3
  have c3b2 : (l0.length == l1.length) = false := by first | simpa using c3 | (simp at c3 ⊢; omega)
  obtain rfl := Option.some.inj H
  go_enter Tryd.func41, Tryd.ntmps41
  go_wp2
  repeat (go_quiet (fail); try go_wp2)
  go_ret
  exact ⟨by first | rfl | (simp; done) | (simp [*]; done), by repeat (first | exact Drawn0.refl _ | apply Drawn0.step)⟩

/-! ### api_Errno: function 42 -/
def api_Errno.l0 : Nat → List Int → List Int → Int → Int → Option (Bool)
 | 0, _, _, _, _ => none
 | k + 1, x0, x1, x12, x13 => if x13 < x12 then (if 0 ≤ x13 then (if x13 < (x0.length : Int) then (if x13 < (x1.length : Int) then (if (rd x0 x13) = (rd x1 x13) then (api_Errno.l0 k x0 x1 x12 (wrap64 (x13 + 1))) else (some false)) else (none)) else (none)) else (none)) else (some true)
def api_Errno.f (k : Nat) (l0 : List Int) (l1 : List Int) : Option (Bool) := if (l0.length : Int) = (l1.length : Int) then (api_Errno.l0 k l0 l1 (l0.length : Int) 0) else (some false)
theorem api_Errno.mono_l : ∀ k, (∀ y0 y1 y2 y3, LeO (api_Errno.l0 k y0 y1 y2 y3) (api_Errno.l0 (k + 1) y0 y1 y2 y3))
 | 0 => fun _ _ _ _ r h => by simp [api_Errno.l0] at h
 | k + 1 => by
  have ih0 := api_Errno.mono_l k
  ·intro y0 y1 y2 y3
   unfold api_Errno.l0
   repeat' first
   | (with_reducible exact ih0 _ _ _ _)
   | (with_reducible exact LeO.refl _)
   | (with_reducible exact LeO.none _)
   | (with_reducible refine LeO.ite ?_ ?_)
   | (with_reducible refine LeO.bind ?_ (fun _ => ?_))
   | exact ih0 _ _ _ _
   | exact LeO.none _
   | refine LeO.ite ?_ ?_
   | refine LeO.bind ?_ (fun _ => ?_)
theorem api_Errno.mono : ∀ a0 a1 k, LeO (api_Errno.f k a0 a1) (api_Errno.f (k + 1) a0 a1) := by
 intro a0 a1 k
 have ih0 := api_Errno.mono_l k
 unfold api_Errno.f
 repeat' first
   | (with_reducible exact ih0 _ _ _ _)
   | (with_reducible exact LeO.refl _)
   | (with_reducible exact LeO.none _)
   | (with_reducible refine LeO.ite ?_ ?_)
   | (with_reducible refine LeO.bind ?_ (fun _ => ?_))
   | exact ih0 _ _ _ _
   | exact LeO.none _
   | refine LeO.ite ?_ ?_
   | refine LeO.bind ?_ (fun _ => ?_)
set_option maxHeartbeats 8000000 in
set_option maxRecDepth 100000 in
theorem api_Errno.calls (k : Nat) (A0 : Option Addr) (c0 : Nat) (l0 : List Int) (A1 : Option Addr) (c1 : Nat) (l1 : List Int) (r : Bool) (w : World) (hr0 : Kd.C (Kd.int .i64) w A0 l0.length l0) (hc0 : l0.length ≤ c0) (hr1 : Kd.C (Kd.int .i64) w A1 l1.length l1) (hc1 : l1.length ≤ c1) (h : api_Errno.f k l0 l1 = some r) :
  Calls Tryd.prog 42 #[.slice A0 l0.length c0, .slice A1 l1.length c1] w fun e w' => e = .returned (.bool r) ∧ Drawn0 w w' := by
 have HR0 := Aside0.mk hr0
 have HC0 := Aside0.mk hc0
 clear hr0 hc0
 have HR1 := Aside0.mk hr1
 have HC1 := Aside0.mk hc1
 clear hr1 hc1
 have H : (if (l0.length : Int) = (l1.length : Int) then (api_Errno.l0 k l0 l1 (l0.length : Int) 0) else (some false)) = some r := h
 clear h
 by_cases c3 : (l0.length : Int) = (l1.length : Int)
 ·rw [if_pos c3] at H
  have c3b0 : ((l0.length : Int) == (l1.length : Int)) = true := beq_iff_eq.mpr c3
  have c3b1 : ((l0.length : Int) != (l1.length : Int)) = false := bne_eq_false_iff_eq.mpr c3
  have c3b2 : (l0.length == l1.length) = true := by first | simpa using c3 | (simp at c3 ⊢; omega)
  clear c3
  have H' := Aside0.mk H
  clear H
  go_enter Tryd.func42, Tryd.ntmps42
  go_wp2
  repeat (go_quiet (fail); try go_wp2)
  go_loopg [13] k (fun kq v13 w' => ∃ (x13_1 : Int), v13 = .int .i64 x13_1 ∧ Aside0 (api_Errno.l0 kq l0 l1 (l0.length : Int) x13_1 = some r) ∧ Aside0 (kq ≤ k) ∧ Drawn0 w w')
  case atStart => exact ⟨(0), rs_, H', ⟨Nat.le_refl _⟩, by repeat (first | exact Drawn0.refl _ | apply Drawn0.step)⟩
  case round =>
   clear H'
   try clear c1
   try clear p2
   try clear c3
   try clear c3b0
   try clear c3b1
   try clear c3b2
   obtain ⟨x13_1, rfl, HA, HK1, ⟨m1, rfl⟩⟩ := hrel
   cases gk with
   | zero => exact absurd HA.out (by simp [api_Errno.l0])
   | succ k1 =>
    have H := HA.out; clear HA; simp only [api_Errno.l0] at H
    by_cases c4 : x13_1 < (l0.length : Int)
    ·rw [if_pos c4] at H
     have c4b0 : decide (x13_1 < (l0.length : Int)) = true := decide_eq_true c4
     clear c4
     by_cases c5 : 0 ≤ x13_1
     ·rw [if_pos c5] at H
      have c5b0 : decide (0 ≤ x13_1) = true := decide_eq_true c5
      clear c5
      by_cases c6 : x13_1 < (l0.length : Int)
      ·rw [if_pos c6] at H
       have c6b0 : decide (x13_1 < (l0.length : Int)) = true := decide_eq_true c6
       clear c6
       by_cases c7 : x13_1 < (l1.length : Int)
       ·rw [if_pos c7] at H
        have c7b0 : decide (x13_1 < (l1.length : Int)) = true := decide_eq_true c7
        clear c7
        by_cases c8 : (rd l0 x13_1) = (rd l1 x13_1)
        ·rw [if_pos c8] at H
         have c8b0 : ((rd l0 x13_1) == (rd l1 x13_1)) = true := beq_iff_eq.mpr c8
         have c8b1 : ((rd l0 x13_1) != (rd l1 x13_1)) = false := bne_eq_false_iff_eq.mpr c8
         clear c8
         have H' := Aside0.mk H
         clear H
         have p344 : 0 ≤ (x13_1 : Int) := od_
         have q344 : x13_1 < (l0.length : Int) := od_
         obtain ⟨ad344, e344, hx344_0⟩ := Kd.at_int HR0.out x13_1 p344 q344
         cases e344
         replace p344 := eq_true p344; replace q344 := eq_true q344
         have p345 : 0 ≤ (x13_1 : Int) := od_
         have q345 : x13_1 < (l1.length : Int) := od_
         obtain ⟨ad345, e345, hx345_0⟩ := Kd.at_int HR1.out x13_1 p345 q345
         cases e345
         replace p345 := eq_true p345; replace q345 := eq_true q345
         go_wp2
         repeat (go_quiet (fail); try go_wp2)
         go_roundg k1
         case measure => have := HK1.out; omega
         case rel => exact ⟨(wrap64 (x13_1 + 1)), rs_, H', ⟨by have := HK1.out; omega⟩, by repeat (first | exact Drawn0.refl _ | apply Drawn0.step)⟩
        ·rw [if_neg c8] at H
         have c8b0 : ((rd l0 x13_1) == (rd l1 x13_1)) = false := beq_eq_false_iff_ne.mpr c8
         have c8b1 : ((rd l0 x13_1) != (rd l1 x13_1)) = true := bne_iff_ne.mpr c8
         obtain rfl := Option.some.inj H
         have p344 : 0 ≤ (x13_1 : Int) := od_
         have q344 : x13_1 < (l0.length : Int) := od_
         obtain ⟨ad344, e344, hx344_0⟩ := Kd.at_int HR0.out x13_1 p344 q344
         cases e344
         replace p344 := eq_true p344; replace q344 := eq_true q344
         have p345 : 0 ≤ (x13_1 : Int) := od_
         have q345 : x13_1 < (l1.length : Int) := od_
         obtain ⟨ad345, e345, hx345_0⟩ := Kd.at_int HR1.out x13_1 p345 q345
         cases e345
         replace p345 := eq_true p345; replace q345 := eq_true q345
         go_wp2
         repeat (go_quiet (fail); try go_wp2)
         go_ret
         exact ⟨by first | rfl | (simp; done) | (simp [*]; done), by repeat (first | exact Drawn0.refl _ | apply Drawn0.step)⟩
       ·rw [if_neg c7] at H
        exact absurd H (by simp)
      ·rw [if_neg c6] at H
       exact absurd H (by simp)
     ·rw [if_neg c5] at H
      exact absurd H (by simp)
    ·rw [if_neg c4] at H
     have c4b0 : decide (x13_1 < (l0.length : Int)) = false := decide_eq_false c4
     clear c4
     obtain rfl := Option.some.inj H
     go_wp2
     repeat (go_quiet (fail); try go_wp2)
     go_ret
     exact ⟨by first | rfl | (simp; done) | (simp [*]; done), by repeat (first | exact Drawn0.refl _ | apply Drawn0.step)⟩
 ·rw [if_neg c3] at H
  have c3b0 : ((l0.length : Int) == (l1.length : Int)) = false := beq_eq_false_iff_ne.mpr c3
  have c3b1 : ((l0.length : Int) != (l1.length : Int)) = true := bne_iff_ne.mpr c3
  have c3b2 : (l0.length == l1.length) = false := by first | simpa using c3 | (simp at c3 ⊢; omega)
  obtain rfl := Option.some.inj H
  go_enter Tryd.func42, Tryd.ntmps42
  go_wp2
  repeat (go_quiet (fail); try go_wp2)
  go_ret
  exact ⟨by first | rfl | (simp; done) | (simp [*]; done), by repeat (first | exact Drawn0.refl _ | apply Drawn0.step)⟩

/-! ### spec_Same: function 19 -/
def spec_Same.f (k : Nat) (a0_0 : Int) (a0_1 : Int) (a0_2 : Bool) (l0_3 : List Int) (l0_4 : List Int) (a1_0 : Int) (a1_1 : Int) (a1_2 : Bool) (l1_3 : List Int) (l1_4 : List Int) : Option (Bool) := if a0_0 = a1_0 then (if a0_1 = a1_1 then (if (a0_2 == a1_2) = true then ((slices_Equal_uint32_uint32.f k l0_3 l1_3).bind fun t348 => (if t348 = true then ((api_Errno.f k l0_4 l1_4).bind fun t349 => (some t349)) else (some false))) else (some false)) else (some false)) else (some false)
theorem spec_Same.mono : ∀ a0 a1 a2 a3 a4 a5 a6 a7 a8 a9 k, LeO (spec_Same.f k a0 a1 a2 a3 a4 a5 a6 a7 a8 a9) (spec_Same.f (k + 1) a0 a1 a2 a3 a4 a5 a6 a7 a8 a9) := by
 intro a0 a1 a2 a3 a4 a5 a6 a7 a8 a9 k
 unfold spec_Same.f
 repeat' first
   | (with_reducible exact api_Errno.mono _ _ _)
   | (with_reducible exact slices_Equal_uint32_uint32.mono _ _ _)
   | (with_reducible exact LeO.refl _)
   | (with_reducible exact LeO.none _)
   | (with_reducible refine LeO.ite ?_ ?_)
   | (with_reducible refine LeO.bind ?_ (fun _ => ?_))
   | exact api_Errno.mono _ _ _
   | exact slices_Equal_uint32_uint32.mono _ _ _
   | exact LeO.none _
   | refine LeO.ite ?_ ?_
   | refine LeO.bind ?_ (fun _ => ?_)
set_option maxHeartbeats 8000000 in
set_option maxRecDepth 100000 in
theorem spec_Same.calls (k : Nat) (a0_0 : Int) (a0_1 : Int) (a0_2 : Bool) (A0_3 : Option Addr) (c0_3 : Nat) (l0_3 : List Int) (A0_4 : Option Addr) (c0_4 : Nat) (l0_4 : List Int) (a1_0 : Int) (a1_1 : Int) (a1_2 : Bool) (A1_3 : Option Addr) (c1_3 : Nat) (l1_3 : List Int) (A1_4 : Option Addr) (c1_4 : Nat) (l1_4 : List Int) (r : Bool) (w : World) (hr0_3 : Kd.C (Kd.int .u32) w A0_3 l0_3.length l0_3) (hc0_3 : l0_3.length ≤ c0_3) (hr0_4 : Kd.C (Kd.int .i64) w A0_4 l0_4.length l0_4) (hc0_4 : l0_4.length ≤ c0_4) (hr1_3 : Kd.C (Kd.int .u32) w A1_3 l1_3.length l1_3) (hc1_3 : l1_3.length ≤ c1_3) (hr1_4 : Kd.C (Kd.int .i64) w A1_4 l1_4.length l1_4) (hc1_4 : l1_4.length ≤ c1_4) (h : spec_Same.f k a0_0 a0_1 a0_2 l0_3 l0_4 a1_0 a1_1 a1_2 l1_3 l1_4 = some r) :
  Calls Tryd.prog 19 #[.agg #[.int .i64 a0_0, .int .u32 a0_1, .bool a0_2, .slice A0_3 l0_3.length c0_3, .slice A0_4 l0_4.length c0_4], .agg #[.int .i64 a1_0, .int .u32 a1_1, .bool a1_2, .slice A1_3 l1_3.length c1_3, .slice A1_4 l1_4.length c1_4]] w fun e w' => e = .returned (.bool r) ∧ Below w.heap.size w w' := by
 have hu34 := Tryd.underlying34
 have HR0_3 := Aside0.mk hr0_3
 have HC0_3 := Aside0.mk hc0_3
 clear hr0_3 hc0_3
 have HR0_4 := Aside0.mk hr0_4
 have HC0_4 := Aside0.mk hc0_4
 clear hr0_4 hc0_4
 have HR1_3 := Aside0.mk hr1_3
 have HC1_3 := Aside0.mk hc1_3
 clear hr1_3 hc1_3
 have HR1_4 := Aside0.mk hr1_4
 have HC1_4 := Aside0.mk hc1_4
 clear hr1_4 hc1_4
 have HB := Aside0.mk (Below.refl w.heap.size w)
 have H : (if a0_0 = a1_0 then (if a0_1 = a1_1 then (if (a0_2 == a1_2) = true then ((slices_Equal_uint32_uint32.f k l0_3 l1_3).bind fun t348 => (if t348 = true then ((api_Errno.f k l0_4 l1_4).bind fun t349 => (some t349)) else (some false))) else (some false)) else (some false)) else (some false)) = some r := h
 clear h
 by_cases c3 : a0_0 = a1_0
 ·rw [if_pos c3] at H
  have c3b0 : (a0_0 == a1_0) = true := beq_iff_eq.mpr c3
  have c3b1 : (a0_0 != a1_0) = false := bne_eq_false_iff_eq.mpr c3
  clear c3
  by_cases c4 : a0_1 = a1_1
  ·rw [if_pos c4] at H
   have c4b0 : (a0_1 == a1_1) = true := beq_iff_eq.mpr c4
   have c4b1 : (a0_1 != a1_1) = false := bne_eq_false_iff_eq.mpr c4
   clear c4
   by_cases c5 : (a0_2 == a1_2) = true
   ·rw [if_pos c5] at H
    have c5b0 : (a0_2 == a1_2) = true := c5
    (try (have c5b1 : decide (a0_2 = a1_2) = true := by simpa using c5))
    (try (have c5b2 : (a0_2 == a1_2) = true := by simpa using c5))
    clear c5; replace H := Option.bind_eq_some_iff.mp H; obtain ⟨t348, A60, H⟩ := H
    replace H : (if t348 = true then ((api_Errno.f k l0_4 l1_4).bind fun t349 => (some t349)) else (some false)) = some r := H
    have A6 := Aside0.mk A60; clear A60
    by_cases c7 : t348 = true
    ·subst c7
     have H1 : ((api_Errno.f k l0_4 l1_4).bind fun t349 => (some t349)) = some r := by rw [if_pos rfl] at H; exact H
     clear H; have H := H1; clear H1; replace H := Option.bind_eq_some_iff.mp H; obtain ⟨t349, A80, H⟩ := H
     replace H : (some t349) = some r := H
     have A8 := Aside0.mk A80; clear A80
     obtain rfl := Option.some.inj H
     go_enter Tryd.func19, Tryd.ntmps19
     go_wp2_with (first | ((with_reducible refine gate_dst (N := 2) rfl ?_); refine box_event ?hg (N := 2) ?hd (cs := #[.int .i64 a0_0, .int .u32 a0_1, .bool a0_2, .slice A0_3 l0_3.length c0_3, .slice A0_4 l0_4.length c0_4]) (t := 34) ?hr ?_; (case hd => rfl); (case hg => rfl); (case hr => first | (go_simp; done) | (go_simp; rfl)); intro gb346 hg w9 hbox hb; have n1_ := Aside0.mk (hbox); have n2_ := gG_ (w := w) hg HB; have n3_ := gG_ (w := w) hg HB; have BK346 := n1_; have GW346 := n2_; have GE346 := n3_; replace HB := hS_ HB hb; clear n1_ n2_ n3_; clear hb hbox hg) | ((with_reducible refine gate_dst (N := 3) rfl ?_); refine box_event ?hg (N := 3) ?hd (cs := #[.int .i64 a1_0, .int .u32 a1_1, .bool a1_2, .slice A1_3 l1_3.length c1_3, .slice A1_4 l1_4.length c1_4]) (t := 34) ?hr ?_; (case hd => rfl); (case hg => rfl); (case hr => first | (go_simp; done) | (go_simp; rfl)); intro gb347 hg w10 hbox hb; have n1_ := Aside0.mk (below_step (hB_ HB) hb); have n2_ := Aside0.mk (hbox); have n3_ := gG_ (w := w) hg HB; have n4_ := gG_ (w := w) hg HB; have n5_ := nL_ hg BK346; have n6_ := nG_ hg BK346; clear HB; have HB := n1_; have BK347 := n2_; have GW347 := n3_; have GE347 := n4_; have NB346_347 := n5_; have NB347_346 := n6_; replace BK346 := bB_ BK346 hb; clear n1_ n2_ n3_ n4_ n5_ n6_; clear hb hbox hg; have hnb11 := NB346_347.out; have hnc11 := NB347_346.out; obtain ⟨hcz12_0, hcz12_1, hcz12_2, hcz12_3, hcz12_4, hfz12_0, hfz12_1, hfz12_2, hfz12_3, hfz12_4⟩ := cz5_ (w := w10) BK346; obtain ⟨hcz13_0, hcz13_1, hcz13_2, hcz13_3, hcz13_4, hfz13_0, hfz13_1, hfz13_2, hfz13_3, hfz13_4⟩ := cz5_ (w := w10) BK347) | (go_at_call 41; (with_reducible refine (slices_Equal_uint32_uint32.calls k _ _ l0_3 _ _ l1_3 true _ ?side1 ?side2 ?side3 ?side4 A6.out).mono ?_); (case side1 => exact cC_ HR0_3 HB); (case side2 => exact HC0_3.out); (case side3 => exact cC_ HR1_3 HB); (case side4 => exact HC1_3.out); rintro e w' ⟨rfl, ⟨nd, rfl⟩⟩) | (go_at_call 42; (with_reducible refine (api_Errno.calls k _ _ l0_4 _ _ l1_4 t349 _ ?side1 ?side2 ?side3 ?side4 A8.out).mono ?_); (case side1 => repeat (first | exact (Kd.C_below HR0_4.out (hB_ HB)) | (with_reducible refine Kd.C_alloc ?_ _) | (with_reducible refine Kd.C_drewN ?_ _) | (with_reducible refine Kd.C_drew ?_))); (case side2 => exact HC0_4.out); (case side3 => repeat (first | exact (Kd.C_below HR1_4.out (hB_ HB)) | (with_reducible refine Kd.C_alloc ?_ _) | (with_reducible refine Kd.C_drewN ?_ _) | (with_reducible refine Kd.C_drew ?_))); (case side4 => exact HC1_4.out); rintro e w' ⟨rfl, ⟨nd, rfl⟩⟩))
     go_ret
     exact ⟨er_, hB_ HB⟩
    ·replace c7 := Bool.eq_false_iff.mpr c7
     subst c7
     have H1 : (some false) = some r := by rw [if_neg (show ¬ (false = true) by decide)] at H; exact H
     clear H; have H := H1; clear H1
     obtain rfl := Option.some.inj H
     go_enter Tryd.func19, Tryd.ntmps19
     go_wp2_with (first | ((with_reducible refine gate_dst (N := 2) rfl ?_); refine box_event ?hg (N := 2) ?hd (cs := #[.int .i64 a0_0, .int .u32 a0_1, .bool a0_2, .slice A0_3 l0_3.length c0_3, .slice A0_4 l0_4.length c0_4]) (t := 34) ?hr ?_; (case hd => rfl); (case hg => rfl); (case hr => first | (go_simp; done) | (go_simp; rfl)); intro gb346 hg w14 hbox hb; have n1_ := Aside0.mk (hbox); have n2_ := gG_ (w := w) hg HB; have n3_ := gG_ (w := w) hg HB; have BK346 := n1_; have GW346 := n2_; have GE346 := n3_; replace HB := hS_ HB hb; clear n1_ n2_ n3_; clear hb hbox hg) | ((with_reducible refine gate_dst (N := 3) rfl ?_); refine box_event ?hg (N := 3) ?hd (cs := #[.int .i64 a1_0, .int .u32 a1_1, .bool a1_2, .slice A1_3 l1_3.length c1_3, .slice A1_4 l1_4.length c1_4]) (t := 34) ?hr ?_; (case hd => rfl); (case hg => rfl); (case hr => first | (go_simp; done) | (go_simp; rfl)); intro gb347 hg w15 hbox hb; have n1_ := Aside0.mk (below_step (hB_ HB) hb); have n2_ := Aside0.mk (hbox); have n3_ := gG_ (w := w) hg HB; have n4_ := gG_ (w := w) hg HB; have n5_ := nL_ hg BK346; have n6_ := nG_ hg BK346; clear HB; have HB := n1_; have BK347 := n2_; have GW347 := n3_; have GE347 := n4_; have NB346_347 := n5_; have NB347_346 := n6_; replace BK346 := bB_ BK346 hb; clear n1_ n2_ n3_ n4_ n5_ n6_; clear hb hbox hg; have hnb16 := NB346_347.out; have hnc16 := NB347_346.out; obtain ⟨hcz17_0, hcz17_1, hcz17_2, hcz17_3, hcz17_4, hfz17_0, hfz17_1, hfz17_2, hfz17_3, hfz17_4⟩ := cz5_ (w := w15) BK346; obtain ⟨hcz18_0, hcz18_1, hcz18_2, hcz18_3, hcz18_4, hfz18_0, hfz18_1, hfz18_2, hfz18_3, hfz18_4⟩ := cz5_ (w := w15) BK347) | (go_at_call 41; (with_reducible refine (slices_Equal_uint32_uint32.calls k _ _ l0_3 _ _ l1_3 false _ ?side1 ?side2 ?side3 ?side4 A6.out).mono ?_); (case side1 => exact cC_ HR0_3 HB); (case side2 => exact HC0_3.out); (case side3 => exact cC_ HR1_3 HB); (case side4 => exact HC1_3.out); rintro e w' ⟨rfl, ⟨nd, rfl⟩⟩))
     go_ret
     exact ⟨er_, hB_ HB⟩
   ·rw [if_neg c5] at H
    have c5b0 : (a0_2 == a1_2) = false := by simpa using c5
    (try (have c5b1 : decide (a0_2 = a1_2) = false := by simpa using c5))
    (try (have c5b2 : (a0_2 == a1_2) = false := by simpa using c5))
    (try (have c5b3 : ¬ (a0_2 = a1_2) := by simpa using c5))
    clear c5
    obtain rfl := Option.some.inj H
    go_enter Tryd.func19, Tryd.ntmps19
    go_wp2_with (first | ((with_reducible refine gate_dst (N := 2) rfl ?_); refine box_event ?hg (N := 2) ?hd (cs := #[.int .i64 a0_0, .int .u32 a0_1, .bool a0_2, .slice A0_3 l0_3.length c0_3, .slice A0_4 l0_4.length c0_4]) (t := 34) ?hr ?_; (case hd => rfl); (case hg => rfl); (case hr => first | (go_simp; done) | (go_simp; rfl)); intro gb346 hg w19 hbox hb; have n1_ := Aside0.mk (hbox); have n2_ := gG_ (w := w) hg HB; have n3_ := gG_ (w := w) hg HB; have BK346 := n1_; have GW346 := n2_; have GE346 := n3_; replace HB := hS_ HB hb; clear n1_ n2_ n3_; clear hb hbox hg) | ((with_reducible refine gate_dst (N := 3) rfl ?_); refine box_event ?hg (N := 3) ?hd (cs := #[.int .i64 a1_0, .int .u32 a1_1, .bool a1_2, .slice A1_3 l1_3.length c1_3, .slice A1_4 l1_4.length c1_4]) (t := 34) ?hr ?_; (case hd => rfl); (case hg => rfl); (case hr => first | (go_simp; done) | (go_simp; rfl)); intro gb347 hg w20 hbox hb; have n1_ := Aside0.mk (below_step (hB_ HB) hb); have n2_ := Aside0.mk (hbox); have n3_ := gG_ (w := w) hg HB; have n4_ := gG_ (w := w) hg HB; have n5_ := nL_ hg BK346; have n6_ := nG_ hg BK346; clear HB; have HB := n1_; have BK347 := n2_; have GW347 := n3_; have GE347 := n4_; have NB346_347 := n5_; have NB347_346 := n6_; replace BK346 := bB_ BK346 hb; clear n1_ n2_ n3_ n4_ n5_ n6_; clear hb hbox hg; have hnb21 := NB346_347.out; have hnc21 := NB347_346.out; obtain ⟨hcz22_0, hcz22_1, hcz22_2, hcz22_3, hcz22_4, hfz22_0, hfz22_1, hfz22_2, hfz22_3, hfz22_4⟩ := cz5_ (w := w20) BK346; obtain ⟨hcz23_0, hcz23_1, hcz23_2, hcz23_3, hcz23_4, hfz23_0, hfz23_1, hfz23_2, hfz23_3, hfz23_4⟩ := cz5_ (w := w20) BK347))
    go_ret
    exact ⟨er_, hB_ HB⟩
  ·rw [if_neg c4] at H
   have c4b0 : (a0_1 == a1_1) = false := beq_eq_false_iff_ne.mpr c4
   have c4b1 : (a0_1 != a1_1) = true := bne_iff_ne.mpr c4
   obtain rfl := Option.some.inj H
   go_enter Tryd.func19, Tryd.ntmps19
   go_wp2_with (first | ((with_reducible refine gate_dst (N := 2) rfl ?_); refine box_event ?hg (N := 2) ?hd (cs := #[.int .i64 a0_0, .int .u32 a0_1, .bool a0_2, .slice A0_3 l0_3.length c0_3, .slice A0_4 l0_4.length c0_4]) (t := 34) ?hr ?_; (case hd => rfl); (case hg => rfl); (case hr => first | (go_simp; done) | (go_simp; rfl)); intro gb346 hg w24 hbox hb; have n1_ := Aside0.mk (hbox); have n2_ := gG_ (w := w) hg HB; have n3_ := gG_ (w := w) hg HB; have BK346 := n1_; have GW346 := n2_; have GE346 := n3_; replace HB := hS_ HB hb; clear n1_ n2_ n3_; clear hb hbox hg) | ((with_reducible refine gate_dst (N := 3) rfl ?_); refine box_event ?hg (N := 3) ?hd (cs := #[.int .i64 a1_0, .int .u32 a1_1, .bool a1_2, .slice A1_3 l1_3.length c1_3, .slice A1_4 l1_4.length c1_4]) (t := 34) ?hr ?_; (case hd => rfl); (case hg => rfl); (case hr => first | (go_simp; done) | (go_simp; rfl)); intro gb347 hg w25 hbox hb; have n1_ := Aside0.mk (below_step (hB_ HB) hb); have n2_ := Aside0.mk (hbox); have n3_ := gG_ (w := w) hg HB; have n4_ := gG_ (w := w) hg HB; have n5_ := nL_ hg BK346; have n6_ := nG_ hg BK346; clear HB; have HB := n1_; have BK347 := n2_; have GW347 := n3_; have GE347 := n4_; have NB346_347 := n5_; have NB347_346 := n6_; replace BK346 := bB_ BK346 hb; clear n1_ n2_ n3_ n4_ n5_ n6_; clear hb hbox hg; have hnb26 := NB346_347.out; have hnc26 := NB347_346.out; obtain ⟨hcz27_0, hcz27_1, hcz27_2, hcz27_3, hcz27_4, hfz27_0, hfz27_1, hfz27_2, hfz27_3, hfz27_4⟩ := cz5_ (w := w25) BK346; obtain ⟨hcz28_0, hcz28_1, hcz28_2, hcz28_3, hcz28_4, hfz28_0, hfz28_1, hfz28_2, hfz28_3, hfz28_4⟩ := cz5_ (w := w25) BK347))
   go_ret
   exact ⟨er_, hB_ HB⟩
 ·rw [if_neg c3] at H
  have c3b0 : (a0_0 == a1_0) = false := beq_eq_false_iff_ne.mpr c3
  have c3b1 : (a0_0 != a1_0) = true := bne_iff_ne.mpr c3
  obtain rfl := Option.some.inj H
  go_enter Tryd.func19, Tryd.ntmps19
  go_wp2_with (first | ((with_reducible refine gate_dst (N := 2) rfl ?_); refine box_event ?hg (N := 2) ?hd (cs := #[.int .i64 a0_0, .int .u32 a0_1, .bool a0_2, .slice A0_3 l0_3.length c0_3, .slice A0_4 l0_4.length c0_4]) (t := 34) ?hr ?_; (case hd => rfl); (case hg => rfl); (case hr => first | (go_simp; done) | (go_simp; rfl)); intro gb346 hg w29 hbox hb; have n1_ := Aside0.mk (hbox); have n2_ := gG_ (w := w) hg HB; have n3_ := gG_ (w := w) hg HB; have BK346 := n1_; have GW346 := n2_; have GE346 := n3_; replace HB := hS_ HB hb; clear n1_ n2_ n3_; clear hb hbox hg) | ((with_reducible refine gate_dst (N := 3) rfl ?_); refine box_event ?hg (N := 3) ?hd (cs := #[.int .i64 a1_0, .int .u32 a1_1, .bool a1_2, .slice A1_3 l1_3.length c1_3, .slice A1_4 l1_4.length c1_4]) (t := 34) ?hr ?_; (case hd => rfl); (case hg => rfl); (case hr => first | (go_simp; done) | (go_simp; rfl)); intro gb347 hg w30 hbox hb; have n1_ := Aside0.mk (below_step (hB_ HB) hb); have n2_ := Aside0.mk (hbox); have n3_ := gG_ (w := w) hg HB; have n4_ := gG_ (w := w) hg HB; have n5_ := nL_ hg BK346; have n6_ := nG_ hg BK346; clear HB; have HB := n1_; have BK347 := n2_; have GW347 := n3_; have GE347 := n4_; have NB346_347 := n5_; have NB347_346 := n6_; replace BK346 := bB_ BK346 hb; clear n1_ n2_ n3_ n4_ n5_ n6_; clear hb hbox hg; have hnb31 := NB346_347.out; have hnc31 := NB347_346.out; obtain ⟨hcz32_0, hcz32_1, hcz32_2, hcz32_3, hcz32_4, hfz32_0, hfz32_1, hfz32_2, hfz32_3, hfz32_4⟩ := cz5_ (w := w30) BK346; obtain ⟨hcz33_0, hcz33_1, hcz33_2, hcz33_3, hcz33_4, hfz33_0, hfz33_1, hfz33_2, hfz33_3, hfz33_4⟩ := cz5_ (w := w30) BK347))
  go_ret
  exact ⟨er_, hB_ HB⟩

end Go.Proofs.YtkiimboedgnoiaaDoor.PSpecLegal
