/- The walk of SpecBack, part of it: what the Go functions answer; no condition. -/
import Derived.Test.YtkiimboedgnoiaaDoorQSpecBackx0
import Derived.Test.YtkiimboedgnoiaaDoorQSpecBackx1
import Derived.Test.YtkiimboedgnoiaaDoorQSpecBackx2
import Derived.Test.YtkiimboedgnoiaaDoorQSpecBackx3
import Derived.Test.YtkiimboedgnoiaaDoorQSpecBackx4
namespace Go.Proofs.YtkiimboedgnoiaaDoor.PSpecBack
open Go.RowKit Go.Proofs.YtkiimboedgnoiaaDoorW.PrintWords Go.Proofs.YtkiimboedgnoiaaDoorW.PrintLast Go.Proofs.YtkiimboedgnoiaaDoorW.PrintMore
attribute [local go_sem] max2_int min2_int max_two min_two max_three min_three max_four min_four   -- for this text's walks alone
set_option linter.unusedVariables false
set_option linter.unusedSimpArgs false

/-! ### model_Addrs: function 84 -/
def model_Addrs.l0 : Nat → List Int → List Int → Int → Int → Int → Int → List Int → Int → Int → Int → Int → Option (List Int)
 | 0, _, _, _, _, _, _, _, _, _, _, _ => none
 | k + 1, x5, x8, x9, x10, x231000, x231001, x231002, x231003, x231004, x231005, x231006 => if x10 < x9 then (if 0 ≤ x10 then (if x10 < (x8.length : Int) then ((block_Address.f x231000 x231001 (rd x8 x10)).bind fun t232 => (if x5.length < 35184372088832 then (model_Addrs.l0 k (x5 ++ [t232]) x8 x9 (wrap64 (x10 + 1)) x231000 x231001 x231002 x231003 x231004 x231005 x231006) else (none))) else (none)) else (none)) else (some x5)
def model_Addrs.f (k : Nat) (a0_0 a0_1 : Int) (l0_2 : List Int) (a0_3 a0_4 : Int) (a0_5 a0_6 : Int) (l1 : List Int) : Option (List Int) := model_Addrs.l0 k ([] : List Int) l1 (l1.length : Int) 0 a0_0 a0_1 l0_2 a0_3 a0_4 a0_5 a0_6
theorem model_Addrs.mono_l : ∀ k, (∀ y0 y1 y2 y3 y4 y5 y6 y7 y8 y9 y10, LeO (model_Addrs.l0 k y0 y1 y2 y3 y4 y5 y6 y7 y8 y9 y10) (model_Addrs.l0 (k + 1) y0 y1 y2 y3 y4 y5 y6 y7 y8 y9 y10))
 | 0 => fun _ _ _ _ _ _ _ _ _ _ _ r h => by simp [model_Addrs.l0] at h
 | k + 1 => by
  have ih0 := model_Addrs.mono_l k
  ·intro y0 y1 y2 y3 y4 y5 y6 y7 y8 y9 y10
   unfold model_Addrs.l0
   repeat' (with_reducible first | apply ih0 | exact LeO.refl _ | exact LeO.none _ | refine LeO.ite ?_ ?_ | refine LeO.bind ?_ (fun _ => ?_))
theorem model_Addrs.mono : ∀ a0 a1 a2 a3 a4 a5 a6 a7 k, LeO (model_Addrs.f k a0 a1 a2 a3 a4 a5 a6 a7) (model_Addrs.f (k + 1) a0 a1 a2 a3 a4 a5 a6 a7) := by
 intro a0 a1 a2 a3 a4 a5 a6 a7 k
 have ih0 := model_Addrs.mono_l k
 unfold model_Addrs.f
 repeat' (with_reducible first | apply ih0 | exact LeO.refl _ | exact LeO.none _ | refine LeO.ite ?_ ?_ | refine LeO.bind ?_ (fun _ => ?_))
set_option maxHeartbeats 8000000 in
set_option maxRecDepth 100000 in
theorem model_Addrs.calls (k : Nat) (ad ae : Int) (al : Option Addr) (am : Nat) (ab : List Int) (af ag : Int) (ah ai : Int) (A1 : Option Addr) (c1 : Nat) (l1 r : List Int) (w : World) (hr0_2 : Kd.C (Kd.int .i64) w al ab.length ab) (hc0_2 : ab.length ≤ am) (hr1 : Kd.C (Kd.int .i64) w A1 l1.length l1) (hc1 : l1.length ≤ c1) (h : model_Addrs.f k ad ae ab af ag ah ai l1 = some r) :
  Calls Tryd.prog 84 #[.agg #[.int .u32 ad, .int .i64 ae, .slice al ab.length am, .int .i64 af, .int .i64 ag, .int .i64 ah, .int .i64 ai], .slice A1 l1.length c1] w fun e w' => ∃ v0_ : Value, e = .returned (v0_) ∧ Kd.R (Kd.int .u32) 22 w' w.heap.size (fun _ => True) v0_ r ∧ Below w.heap.size w w' := by
 have hu27 := Tryd.underlying27
 have hu24 := Tryd.underlying24
 have aR := Aside0.mk hr0_2
 have aQ := Aside0.mk hc0_2
 clear hr0_2 hc0_2
 have au := Aside0.mk hr1
 have aV := Aside0.mk hc1
 clear hr1 hc1
 have HB := Aside0.mk (Below.refl w.heap.size w)
 have H : (model_Addrs.l0 k ([] : List Int) l1 (l1.length : Int) 0 ad ae ab af ag ah ai) = some r := h
 clear h
 have H' := Aside0.mk H
 clear H
 go_enter Tryd.func84, Tryd.ntmps84
 go_wp2_with (first | ((with_reducible refine gate_dst (N := 2) rfl ?_); refine bx_ (N := 2) (cs := #[.int .u32 ad, .int .i64 ae, .slice al ab.length am, .int .i64 af, .int .i64 ag, .int .i64 ah, .int .i64 ai]) (t := 27) ?_; intro ao hg w3 ac hb; have aN := gG_ hg HB; have aM := gG_ hg HB; replace HB := hS_ HB hb; clear hb hg))
 go_loopg [5, 10] k (fun kq v5 v10 w' => ∃ (aj : List Int) (aa : Int), v10 = .int .i64 aa ∧ Aside0 (model_Addrs.l0 kq aj l1 (l1.length : Int) aa ad ae ab af ag ah ai = some r) ∧ Aside0 (kq ≤ k) ∧ Aside0 (Kd.R (Kd.int .u32) 22 w' w.heap.size (fun _ => True) v5 aj) ∧ Aside0 (w'.heap[ao]? = some (.cells #[.int .u32 ad, .int .i64 ae, (.slice al ab.length am), .int .i64 af, .int .i64 ag, .int .i64 ah, .int .i64 ai] 27 (0, 0))) ∧ Aside0 (Below w.heap.size w w'))
 case atStart => exact ⟨(([] : List Int)), (0), rs_, H', ⟨Nat.le_refl _⟩, ⟨by first | exact Kd.R_nil _ _ _ _ _ | exact Kd.N_nil _ _ _ _ _ | exact Kd.V_nil _ _ _ _ _ | exact Kd.Q_nil _ _ _ _ _ | exact Kd.S_nil _ _ _ _ _⟩, ⟨bk_ ac⟩, ⟨hB_ HB⟩⟩
 case round =>
  clear H'
  try clear c1
  try clear p2
  obtain ⟨aj, aa, rfl, HA, HK1, ak, ac, HB⟩ := hrel
  cases gk with
  | zero => exact absurd HA.out (by simp [model_Addrs.l0])
  | succ k1 =>
   have H := HA.out; clear HA; simp only [model_Addrs.l0] at H
   by_cases c4 : aa < (l1.length : Int)
   ·rw [if_pos c4] at H
    have ar : decide (aa < (l1.length : Int)) = true := decide_eq_true c4
    clear c4
    by_cases c5 : 0 ≤ aa
    ·rw [if_pos c5] at H
     have aT : decide (0 ≤ aa) = true := decide_eq_true c5
     clear c5
     by_cases c6 : aa < (l1.length : Int)
     ·rw [if_pos c6] at H
      have aU : decide (aa < (l1.length : Int)) = true := decide_eq_true c6
      clear c6; replace H := bi_ H; obtain ⟨an, A70, H⟩ := H
      replace H : (if aj.length < 35184372088832 then (model_Addrs.l0 k1 (aj ++ [an]) l1 (l1.length : Int) (wrap64 (aa + 1)) ad ae ab af ag ah ai) else (none)) = some r := H
      have A7 := Aside0.mk A70; clear A70
      by_cases c8 : aj.length < 35184372088832
      ·rw [if_pos c8] at H
       have LMc8 := Aside0.mk c8; clear c8; obtain ⟨ap, hy233⟩ : ∃ y_ : List Int, y_ = (aj ++ [an]) := ⟨_, rfl⟩
       replace H : (model_Addrs.l0 k1 ap l1 (l1.length : Int) (wrap64 (aa + 1)) ad ae ab af ag ah ai) = some r := by first | (rw [hy233]; with_reducible exact H) | (have H2_ := (Option.bind_some _ _).symm.trans H; rw [hy233]; with_reducible exact H2_) | (have H2_ := (Option.bind_some _ _).symm.trans H; with_reducible exact H2_) | with_reducible exact H | (rw [hy233]; exact H) | exact H
       have Ny233 := Aside0.mk hy233; clear hy233
       have H' := Aside0.mk H
       clear H
       have p231 : 0 ≤ (aa : Int) := od_
       have q231 : aa < (l1.length : Int) := od_
       obtain ⟨ad231, e231, hx231_0⟩ := Kd.at_int au.out aa p231 q231
       cases e231
       replace hx231_0 := (HB.out.cell (World.block_lt_of_cell? w _ hx231_0)).trans hx231_0; replace p231 := eq_true p231; replace q231 := eq_true q231; obtain ⟨av, aw, ax, ay, az, aA, aC, aD, aE, aG, aH, aI, aJ, aK⟩ := cz7_ (w := wr) ac
       go_wp2_with (first | ((with_reducible refine gate_callee (f := 81) rfl ?_); refine gL_ (some 18) Tryd.func81 #[.agg #[.int .u32 ad, .int .i64 ae], .int .i64 (rd l1 aa)] ?_; (with_reducible refine (block_Address.calls ad ae (rd l1 aa) an _ A7.out).mono ?_); rintro e w10 ⟨rfl, hb⟩; refine ⟨_, rfl, ?_⟩; replace ak := rB_ ak hb; replace HB := hS_ HB hb; replace ac := bB_ ac hb; (try clear hb)) | ((with_reducible refine gate_builtin (b := .append) (xs := #[.tmp 14, .tmp 19]) rfl ?_); at_builtin; refine Kd.R_append (Kd.int .u32) (w0 := w) w.heap.size rfl (.tmp 14) (.tmp 19) 28 22 (.int .u32 0) 4 rfl Tryd.underlying28 info22 rfl (by decide) (by omega) u5 aj an [.int .u32 an] (fun _ => True) (fun _ => False) rfl rfl ?aP (fun _ hk => hk.elim) ?aF ?aO ?aB ?aS ?aL ?_; (case aP => exact rfl); (case aB => exact (hB_ HB)); (case aF => exact (fun _ _ => trivial)); (case aO => exact (rR_ ak)); (case aS => exact (below_size (hB_ HB))); (case aL => have := LMc8.out; omega); intro v234 w11 ho hb hg hat; rw [← Ny233.out] at ho; replace ac := Aside0.mk (blk_grown (g := ao) (o := .cells #[.int .u32 ad, .int .i64 ae, .slice al ab.length am, .int .i64 af, .int .i64 ag, .int .i64 ah, .int .i64 ai] 27 (0, 0)) (bk_ ac) hg (Kd.R_ne ak.out ac.out (by decide))); replace HB := Aside0.mk (hb); have aq := Aside0.mk (ho); clear ak ho hb hg hat))
       go_roundg k1
       case measure => have := HK1.out; omega
       case rel => exact ⟨(ap), (wrap64 (aa + 1)), rs_, H', ⟨om_ HK1⟩, ⟨rR_ aq⟩, ⟨bk_ ac⟩, ⟨hB_ HB⟩⟩
      ·rw [if_neg c8] at H
       exact absurd H (by simp)
     ·rw [if_neg c6] at H
      exact absurd H (by simp)
    ·rw [if_neg c5] at H
     exact absurd H (by simp)
   ·rw [if_neg c4] at H
    have ar : decide (aa < (l1.length : Int)) = false := decide_eq_false c4
    clear c4
    obtain rfl := Option.some.inj H
    go_wp2
    go_ret
    exact ⟨_, er_, rR_ ak, hB_ HB⟩

/-! ### spec_snapshot: function 79 -/
def spec_snapshot.f (k : Nat) (a0_0 a0_1 : Int) (l0_2 : List Int) (a0_3 a0_4 : Int) (a0_5 a0_6 : Int) (l1 : List Int) (a2_0 a2_1 : Int) (l2_2 : List Int) : Option (List Int × Int × Int × Bool × List Int × List Int) := (model_Addrs.f k a0_0 a0_1 l0_2 a0_3 a0_4 a0_5 a0_6 l1).bind fun t239 => (some (l1, 0, 0, false, t239, ([] : List Int)))
theorem spec_snapshot.mono : ∀ a0 a1 a2 a3 a4 a5 a6 a7 a8 a9 a10 k, LeO (spec_snapshot.f k a0 a1 a2 a3 a4 a5 a6 a7 a8 a9 a10) (spec_snapshot.f (k + 1) a0 a1 a2 a3 a4 a5 a6 a7 a8 a9 a10) := by
 intro a0 a1 a2 a3 a4 a5 a6 a7 a8 a9 a10 k
 unfold spec_snapshot.f
 repeat' (with_reducible first | apply model_Addrs.mono | exact LeO.refl _ | exact LeO.none _ | refine LeO.ite ?_ ?_ | refine LeO.bind ?_ (fun _ => ?_))
set_option maxHeartbeats 8000000 in
set_option maxRecDepth 100000 in
theorem spec_snapshot.calls (k : Nat) (ae af : Int) (an : Option Addr) (ao : Nat) (ab : List Int) (ag ah : Int) (ai aj : Int) (P1_ : Nat → Prop) (A1 : Option Addr) (c1 : Nat) (l1 : List Int) (ay az : Int) (ax : Option Addr) (aA : Nat) (ak r1 : List Int) (r2 r3 : Int) (r4 : Bool) (r5 r6 : List Int) (w : World) (hr0_2 : Kd.C (Kd.int .i64) w an ab.length ab) (hc0_2 : ab.length ≤ ao) (a5 : Kd.V (Kd.int .i64) 3 w w.heap.size (fun k_ => P1_ k_) (.slice A1 l1.length c1) l1) (hr2_2 : Kd.C (Kd.int .u32) w ax ak.length ak) (hc2_2 : ak.length ≤ aA) (h : spec_snapshot.f k ae af ab ag ah ai aj l1 ay az ak = some (r1, r2, r3, r4, r5, r6)) :
  Calls Tryd.prog 79 #[.agg #[.int .u32 ae, .int .i64 af, .slice an ab.length ao, .int .i64 ag, .int .i64 ah, .int .i64 ai, .int .i64 aj], .slice A1 l1.length c1, .agg #[.int .i64 ay, .int .u32 az, .slice ax ak.length aA]] w fun e w' => ∃ v0_ v4_ v5_ : Value, e = .returned (.tuple #[v0_, .agg #[.int .i64 r2, .int .u32 r3, .bool r4, v4_, v5_]]) ∧ Kd.V (Kd.int .i64) 3 w' w.heap.size (fun k_ => (P1_ k_ ∨ w.heap.size ≤ k_) ∧ some k_ ≠ (v4_ : Value).ownBlock ∧ some k_ ≠ (v5_ : Value).ownBlock) v0_ r1 ∧ Kd.R (Kd.int .u32) 22 w' w.heap.size (fun k_ => (w.heap.size ≤ k_)) v4_ r5 ∧ Kd.R (Kd.int .i64) 31 w' w.heap.size (fun k_ => (w.heap.size ≤ k_)) v5_ r6 ∧ Below w.heap.size w w' := by
 have hu27 := Tryd.underlying27
 have hu30 := Tryd.underlying30
 have hu34 := Tryd.underlying34
 have aG := Aside0.mk hr0_2
 have aF := Aside0.mk hc0_2
 clear hr0_2 hc0_2
 have ac := Aside0.mk (show Kd.V (Kd.int .i64) 3 w w.heap.size (fun k_ => (P1_ k_ ∨ w.heap.size ≤ k_)) (.slice A1 l1.length c1) l1 from Kd.V_mono a5 (fun k_ hk => .inl hk))
 have bd := Aside0.mk hr2_2
 have bc := Aside0.mk hc2_2
 clear hr2_2 hc2_2
 have HB := Aside0.mk (Below.refl w.heap.size w)
 have H : ((model_Addrs.f k ae af ab ag ah ai aj l1).bind fun al => (some (l1, 0, 0, false, al, ([] : List Int)))) = some (r1, r2, r3, r4, r5, r6) := h
 clear h
 replace H := bi_ H
 obtain ⟨al, A40, H⟩ := H
 replace H : (some (l1, 0, 0, false, al, ([] : List Int))) = some (r1, r2, r3, r4, r5, r6) := H
 have A4 := Aside0.mk A40
 clear A40
 simp only [Option.some.injEq, Prod.mk.injEq] at H
 obtain ⟨rfl, rfl, rfl, rfl, rfl, rfl⟩ := H
 go_enter Tryd.func79, Tryd.ntmps79
 go_wp2_with (first | ((with_reducible refine gate_dst (N := 3) rfl ?_); refine box_event ?hg (N := 3) ?hd (cs := #[.int .u32 ae, .int .i64 af, .slice an ab.length ao, .int .i64 ag, .int .i64 ah, .int .i64 ai, .int .i64 aj]) (t := 27) ?hr ?_; (case hd => rfl); (case hg => rfl); (case hr => first | (go_simp; done) | (go_simp; rfl)); intro be hg w5 hbox hb; replace ac := vE_ ac hg hb; have aa := Aside0.mk (hbox); have a9 := gG_ hg HB; have a6 := gG_ hg HB; replace HB := hS_ HB hb; clear hb hbox hg) | ((with_reducible refine gate_dst (N := 5) rfl ?_); refine box_event ?hg (N := 5) ?hd (cs := #[.int .i64 ay, .int .u32 az, .slice ax ak.length aA]) (t := 30) ?hr ?_; (case hd => rfl); (case hg => rfl); (case hr => first | (go_simp; done) | (go_simp; rfl)); intro bf hg w6 hbox hb; replace ac := vE_ ac hg hb; have aB := Aside0.mk (hbox); have ba := gG_ hg HB; have a7 := gG_ hg HB; replace HB := hS_ HB hb; have ap := nL_ hg aa; have ar := nG_ hg aa; replace aa := bB_ aa hb; clear hb hbox hg) | ((with_reducible refine gate_dst (N := 7) rfl ?_); refine box_event ?hg (N := 7) ?hd (cs := #[.int .i64 0, .int .u32 0, .bool false, .slice none 0 0, .slice none 0 0]) (t := 34) ?hr ?_; (case hd => rfl); (case hg => rfl); (case hr => first | (go_simp; done) | (go_simp; rfl)); intro am hg w7 hbox hb; replace ac := vE_ ac hg hb; have ad := Aside0.mk (hbox); have bb := gG_ hg HB; have a8 := gG_ hg HB; have aq := nL_ hg aa; have av := nG_ hg aa; have au := nL_ hg aB; have aw := nG_ hg aB; replace aa := bB_ aa hb; replace HB := hS_ HB hb; clear hb hbox hg; have bi := ap.out; have bk := ar.out; have bj := aq.out; have bl := av.out; obtain ⟨aH, aI, aJ, aK, aL, aM, aN, aT, aU, aV, aW, aX, aY, aZ⟩ := cz7_ (w := w7) aa) | ((with_reducible refine gate_callee (f := 84) rfl ?_); refine gL_ (some 11) Tryd.func84 #[.agg #[.int .u32 ae, .int .i64 af, .slice an ab.length ao, .int .i64 ag, .int .i64 ah, .int .i64 ai, .int .i64 aj], .slice A1 l1.length c1] ?_; (with_reducible refine (model_Addrs.calls k ae af _ _ ab ag ah ai aj _ _ l1 al _ ?side1 ?side2 ?side3 ?side4 A4.out).mono ?_); (case side1 => exact cC_ aG HB); (case side2 => exact aF.out); (case side3 => exact cD_ (Kd.V_reads' ac.out).2.2); (case side4 => exact (Kd.V_reads' ac.out).2.1); rintro e w11 ⟨v240, rfl, ho0, hb⟩; refine ⟨_, rfl, ?_⟩; replace ac := Aside0.mk (Kd.V_elder' (vV_ ac) (Kd.R_base ho0) hb); have aC := Aside0.mk (Kd.R_lower (Kd.R_newM (M := fun k_ => (w.heap.size ≤ k_)) ho0 (below_size (hB_ HB)) (fun k_ h_ => h_)) (below_size (hB_ HB))); replace HB := hS_ HB hb; replace ad := bB_ ad hb; (try clear hb); (try clear ho0); obtain ⟨aD, aE, eo12⟩ := Kd.R_slice aC.out; subst eo12; have bg := aw.out; have bh := au.out; obtain ⟨aO, aP, aQ, aR, aS, a0, a1, a2, a3, a4⟩ := cz5_ (w := w11) ad))
 refine bodyPost_ret (results_tc rfl _ _ am 34 #[.int .i64 0, .int .u32 0, .bool false, .slice aD al.length aE, .slice none 0 0] (0, 0) _ rfl (by (with_reducible repeat (first | refine blk_drewN ?_ _ | refine blk_drew ?_ | refine blk_alloc ?_ _)); refine blk_put (cs := #[.int .i64 0, .int .u32 0, .bool false, .slice aD al.length aE, .slice none 0 0]) ?_ 4 _ rfl; refine blk_put (cs := #[.int .i64 0, .int .u32 0, .bool false, .slice none 0 0, .slice none 0 0]) ?_ 3 _ rfl; refine blk_put (cs := #[.int .i64 0, .int .u32 0, .bool false, .slice none 0 0, .slice none 0 0]) ?_ 2 _ rfl; refine blk_put (cs := #[.int .i64 0, .int .u32 0, .bool false, .slice none 0 0, .slice none 0 0]) ?_ 1 _ rfl; refine blk_put (cs := #[.int .i64 0, .int .u32 0, .bool false, .slice none 0 0, .slice none 0 0]) ?_ 0 _ rfl; (with_reducible repeat (first | refine blk_drewN ?_ _ | refine blk_drew ?_ | refine blk_alloc ?_ _)); exact ad.out) Tryd.underlying34 rfl (by kernel_rfl)) rfl ?_
 exact ⟨_, _, _, er_, by (with_reducible repeat (first | apply Kd.V_alloc | apply Kd.V_drewN | apply Kd.V_drew)); exact Kd.V_mono (vF5_ (g := am) (Kd.V_mono ac.out (fun k_ hk => (⟨hk, hk.1.2⟩ : _ ∧ k_ ≠ am))) (fun _ hk => hk.2)) (fun _ hk => ⟨hk.1.1.1.1.1, ⟨hk.1.2, (by simp [Value.ownBlock])⟩⟩), by (with_reducible repeat (first | apply Kd.R_alloc | apply Kd.R_drewN | apply Kd.R_drew)); exact Kd.R_mono (rF5_ (g := am) (Kd.R_types aC.out ad.out (by decide)) (fun _ hk => hk.2)) (fun _ hk => hk.1.1), by first | exact Kd.R_nil _ _ _ _ _ | exact Kd.N_nil _ _ _ _ _ | exact Kd.V_nil _ _ _ _ _ | exact Kd.Q_nil _ _ _ _ _ | exact Kd.S_nil _ _ _ _ _, hB_ HB⟩

/-! ### spec_closing: function 80 -/
def spec_closing.f (a0_0 a0_1 : Int) (l0_2 : List Int) (a0_3 a0_4 : Int) (a0_5 a0_6 : Int) (l1 : List Int) (a2_0 a2_1 : Int) (l2_2 : List Int) : Option (List Int × Int × Int × Bool × List Int × List Int) := some (l1, 0, 0, false, ([] : List Int), ([] : List Int))
set_option maxHeartbeats 8000000 in
set_option maxRecDepth 100000 in
theorem spec_closing.calls (al am : Int) (aj : Option Addr) (av : Nat) (ab : List Int) (an ao : Int) (ap aq : Int) (P1_ : Nat → Prop) (A1 : Option Addr) (c1 : Nat) (l1 : List Int) (ar au : Int) (ak : Option Addr) (aw : Nat) (ac r1 : List Int) (r2 r3 : Int) (r4 : Bool) (r5 r6 : List Int) (w : World) (hr0_2 : Kd.C (Kd.int .i64) w aj ab.length ab) (hc0_2 : ab.length ≤ av) (aL : Kd.V (Kd.int .i64) 3 w w.heap.size (fun k_ => P1_ k_) (.slice A1 l1.length c1) l1) (hr2_2 : Kd.C (Kd.int .u32) w ak ac.length ac) (hc2_2 : ac.length ≤ aw) (h : spec_closing.f al am ab an ao ap aq l1 ar au ac = some (r1, r2, r3, r4, r5, r6)) :
  Calls Tryd.prog 80 #[.agg #[.int .u32 al, .int .i64 am, .slice aj ab.length av, .int .i64 an, .int .i64 ao, .int .i64 ap, .int .i64 aq], .slice A1 l1.length c1, .agg #[.int .i64 ar, .int .u32 au, .slice ak ac.length aw]] w fun e w' => ∃ v0_ v4_ v5_ : Value, e = .returned (.tuple #[v0_, .agg #[.int .i64 r2, .int .u32 r3, .bool r4, v4_, v5_]]) ∧ Kd.V (Kd.int .i64) 3 w' w.heap.size (fun k_ => (P1_ k_ ∨ w.heap.size ≤ k_) ∧ some k_ ≠ (v4_ : Value).ownBlock ∧ some k_ ≠ (v5_ : Value).ownBlock) v0_ r1 ∧ Kd.R (Kd.int .u32) 22 w' w.heap.size (fun k_ => (w.heap.size ≤ k_)) v4_ r5 ∧ Kd.R (Kd.int .i64) 31 w' w.heap.size (fun k_ => (w.heap.size ≤ k_)) v5_ r6 ∧ Below w.heap.size w w' := by
 have hu27 := Tryd.underlying27
 have hu30 := Tryd.underlying30
 have hu34 := Tryd.underlying34
 have aU := Aside0.mk hr0_2
 have aS := Aside0.mk hc0_2
 clear hr0_2 hc0_2
 have ad := Aside0.mk (show Kd.V (Kd.int .i64) 3 w w.heap.size (fun k_ => (P1_ k_ ∨ w.heap.size ≤ k_)) (.slice A1 l1.length c1) l1 from Kd.V_mono aL (fun k_ hk => .inl hk))
 have aV := Aside0.mk hr2_2
 have aT := Aside0.mk hc2_2
 clear hr2_2 hc2_2
 have HB := Aside0.mk (Below.refl w.heap.size w)
 have H : (some (l1, 0, 0, false, ([] : List Int), ([] : List Int))) = some (r1, r2, r3, r4, r5, r6) := h
 clear h
 simp only [Option.some.injEq, Prod.mk.injEq] at H
 obtain ⟨rfl, rfl, rfl, rfl, rfl, rfl⟩ := H
 go_enter Tryd.func80, Tryd.ntmps80
 go_wp2_with (first | ((with_reducible refine gate_dst (N := 3) rfl ?_); refine box_event ?hg (N := 3) ?hd (cs := #[.int .u32 al, .int .i64 am, .slice aj ab.length av, .int .i64 an, .int .i64 ao, .int .i64 ap, .int .i64 aq]) (t := 27) ?hr ?_; (case hd => rfl); (case hg => rfl); (case hr => first | (go_simp; done) | (go_simp; rfl)); intro aW hg w4 hbox hb; replace ad := vE_ ad hg hb; have aa := Aside0.mk (hbox); have aP := gG_ hg HB; have aM := gG_ hg HB; replace HB := hS_ HB hb; clear hb hbox hg) | ((with_reducible refine gate_dst (N := 5) rfl ?_); refine box_event ?hg (N := 5) ?hd (cs := #[.int .i64 ar, .int .u32 au, .slice ak ac.length aw]) (t := 30) ?hr ?_; (case hd => rfl); (case hg => rfl); (case hr => first | (go_simp; done) | (go_simp; rfl)); intro aX hg w5 hbox hb; replace ad := vE_ ad hg hb; have ax := Aside0.mk (hbox); have aQ := gG_ hg HB; have aN := gG_ hg HB; replace HB := hS_ HB hb; have az := nL_ hg aa; have aA := nG_ hg aa; replace aa := bB_ aa hb; clear hb hbox hg) | ((with_reducible refine gate_dst (N := 7) rfl ?_); refine box_event ?hg (N := 7) ?hd (cs := #[.int .i64 0, .int .u32 0, .bool false, .slice none 0 0, .slice none 0 0]) (t := 34) ?hr ?_; (case hd => rfl); (case hg => rfl); (case hr => first | (go_simp; done) | (go_simp; rfl)); intro ae hg w6 hbox hb; replace ad := vE_ ad hg hb; have ay := Aside0.mk (hbox); have aR := gG_ hg HB; have aO := gG_ hg HB; have af := nL_ hg aa; have ah := nG_ hg aa; have ag := nL_ hg ax; have ai := nG_ hg ax; replace HB := hS_ HB hb; clear hb hbox hg; have aY := ah.out; have a0 := af.out; have aZ := ai.out; have a1 := ag.out; obtain ⟨aB, aC, aD, aE, aF, aG, aH, aI, aJ, aK⟩ := cz5_ (w := w6) ay))
 refine bodyPost_ret (results_tc rfl _ _ ae 34 #[.int .i64 0, .int .u32 0, .bool false, .slice none 0 0, .slice none 0 0] (0, 0) _ rfl (by (with_reducible repeat (first | refine blk_drewN ?_ _ | refine blk_drew ?_ | refine blk_alloc ?_ _)); refine blk_put (cs := #[.int .i64 0, .int .u32 0, .bool false, .slice none 0 0, .slice none 0 0]) ?_ 4 _ rfl; refine blk_put (cs := #[.int .i64 0, .int .u32 0, .bool false, .slice none 0 0, .slice none 0 0]) ?_ 3 _ rfl; refine blk_put (cs := #[.int .i64 0, .int .u32 0, .bool false, .slice none 0 0, .slice none 0 0]) ?_ 2 _ rfl; refine blk_put (cs := #[.int .i64 0, .int .u32 0, .bool false, .slice none 0 0, .slice none 0 0]) ?_ 1 _ rfl; refine blk_put (cs := #[.int .i64 0, .int .u32 0, .bool false, .slice none 0 0, .slice none 0 0]) ?_ 0 _ rfl; (with_reducible repeat (first | refine blk_drewN ?_ _ | refine blk_drew ?_ | refine blk_alloc ?_ _)); exact ay.out) Tryd.underlying34 rfl (by kernel_rfl)) rfl ?_
 exact ⟨_, _, _, er_, by (with_reducible repeat (first | apply Kd.V_alloc | apply Kd.V_drewN | apply Kd.V_drew)); exact Kd.V_mono (vF5_ (g := ae) (Kd.V_mono ad.out (fun k_ hk => (⟨hk, hk.2⟩ : _ ∧ k_ ≠ ae))) (fun _ hk => hk.2)) (fun _ hk => ⟨hk.1.1.1.1, ⟨(by simp [Value.ownBlock]), (by simp [Value.ownBlock])⟩⟩), by first | exact Kd.R_nil _ _ _ _ _ | exact Kd.N_nil _ _ _ _ _ | exact Kd.V_nil _ _ _ _ _ | exact Kd.Q_nil _ _ _ _ _ | exact Kd.S_nil _ _ _ _ _, by first | exact Kd.R_nil _ _ _ _ _ | exact Kd.N_nil _ _ _ _ _ | exact Kd.V_nil _ _ _ _ _ | exact Kd.Q_nil _ _ _ _ _ | exact Kd.S_nil _ _ _ _ _, hB_ HB⟩

/-! ### spec_Some: function 15 -/
def spec_Some.f (k : Nat) (a0_0 a0_1 : Int) (l0_2 : List Int) (a0_3 a0_4 : Int) (a0_5 a0_6 : Int) (l1 : List Int) (a2_0 a2_1 : Int) (l2_2 : List Int) : Option (List Int × Int × Int × Bool × List Int × List Int) := (ask_Check.f k a0_0 a0_1 l0_2 a0_3 a0_4 a0_5 a0_6 a2_0 a2_1 l2_2).bind fun t248 => (if t248 = 0 then (if a2_0 = 1 then ((spec_least.f k a0_0 a0_1 l0_2 a0_3 a0_4 a0_5 a0_6 l1 a2_0 a2_1 l2_2).bind fun bt258 => (some (bt258.1, bt258.2.1, bt258.2.2.1, bt258.2.2.2.1, bt258.2.2.2.2.1, bt258.2.2.2.2.2))) else (if a2_0 = 2 then ((spec_exact.f k a0_0 a0_1 l0_2 a0_3 a0_4 a0_5 a0_6 l1 a2_0 a2_1 l2_2).bind fun bt270 => (some (bt270.1, bt270.2.1, bt270.2.2.1, bt270.2.2.2.1, bt270.2.2.2.2.1, bt270.2.2.2.2.2))) else (if a2_0 = 3 then ((spec_release.f k a0_0 a0_1 l0_2 a0_3 a0_4 a0_5 a0_6 l1 a2_0 a2_1 l2_2).bind fun bt282 => (some (bt282.1, bt282.2.1, bt282.2.2.1, bt282.2.2.2.1, bt282.2.2.2.2.1, bt282.2.2.2.2.2))) else (if a2_0 = 4 then ((spec_batch.f k a0_0 a0_1 l0_2 a0_3 a0_4 a0_5 a0_6 l1 a2_0 a2_1 l2_2).bind fun bt294 => (some (bt294.1, bt294.2.1, bt294.2.2.1, bt294.2.2.2.1, bt294.2.2.2.2.1, bt294.2.2.2.2.2))) else (if a2_0 = 5 then ((spec_query.f k a0_0 a0_1 l0_2 a0_3 a0_4 a0_5 a0_6 l1 a2_0 a2_1 l2_2).bind fun bt306 => (some (bt306.1, bt306.2.1, bt306.2.2.1, bt306.2.2.2.1, bt306.2.2.2.2.1, bt306.2.2.2.2.2))) else (if a2_0 = 6 then ((spec_snapshot.f k a0_0 a0_1 l0_2 a0_3 a0_4 a0_5 a0_6 l1 a2_0 a2_1 l2_2).bind fun bt318 => (some (bt318.1, bt318.2.1, bt318.2.2.1, bt318.2.2.2.1, bt318.2.2.2.2.1, bt318.2.2.2.2.2))) else (if a2_0 = 7 then ((spec_closing.f a0_0 a0_1 l0_2 a0_3 a0_4 a0_5 a0_6 l1 a2_0 a2_1 l2_2).bind fun bt330 => (some (bt330.1, bt330.2.1, bt330.2.2.1, bt330.2.2.2.1, bt330.2.2.2.2.1, bt330.2.2.2.2.2))) else (none)))))))) else ((spec_fail.f t248).bind fun bt249 => (some (l1, bt249.1, bt249.2.1, bt249.2.2.1, bt249.2.2.2.1, bt249.2.2.2.2))))
theorem spec_Some.mono : ∀ a0 a1 a2 a3 a4 a5 a6 a7 a8 a9 a10 k, LeO (spec_Some.f k a0 a1 a2 a3 a4 a5 a6 a7 a8 a9 a10) (spec_Some.f (k + 1) a0 a1 a2 a3 a4 a5 a6 a7 a8 a9 a10) := by
 intro a0 a1 a2 a3 a4 a5 a6 a7 a8 a9 a10 k
 unfold spec_Some.f
 repeat' (with_reducible first | apply ask_Check.mono | apply spec_batch.mono | apply spec_exact.mono | apply spec_least.mono | apply spec_query.mono | apply spec_release.mono | apply spec_snapshot.mono | exact LeO.refl _ | exact LeO.none _ | refine LeO.ite ?_ ?_ | refine LeO.bind ?_ (fun _ => ?_))
set_option maxHeartbeats 8000000 in
set_option maxRecDepth 100000 in
theorem spec_Some.calls (k : Nat) (ai aj : Int) (az : Option Addr) (aB : Nat) (ag : List Int) (ak al : Int) (am an : Int) (P1_ : Nat → Prop) (A1 : Option Addr) (c1 : Nat) (l1 : List Int) (ac ao : Int) (aA : Option Addr) (aC : Nat) (ah r1 : List Int) (r2 r3 : Int) (r4 : Bool) (r5 r6 : List Int) (w : World) (hr0_2 : Kd.C (Kd.int .i64) w az ag.length ag) (hc0_2 : ag.length ≤ aB) (jm : Kd.V (Kd.int .i64) 3 w w.heap.size (fun k_ => P1_ k_) (.slice A1 l1.length c1) l1) (hr2_2 : Kd.C (Kd.int .u32) w aA ah.length ah) (hc2_2 : ah.length ≤ aC) (hG : Lg w) (h : spec_Some.f k ai aj ag ak al am an l1 ac ao ah = some (r1, r2, r3, r4, r5, r6)) :
  Calls Tryd.prog 15 #[.agg #[.int .u32 ai, .int .i64 aj, .slice az ag.length aB, .int .i64 ak, .int .i64 al, .int .i64 am, .int .i64 an], .slice A1 l1.length c1, .agg #[.int .i64 ac, .int .u32 ao, .slice aA ah.length aC]] w fun e w' => ∃ v0_ v4_ v5_ : Value, e = .returned (.tuple #[v0_, .agg #[.int .i64 r2, .int .u32 r3, .bool r4, v4_, v5_]]) ∧ Kd.V (Kd.int .i64) 3 w' w.heap.size (fun k_ => (P1_ k_ ∨ w.heap.size ≤ k_) ∧ some k_ ≠ (v4_ : Value).ownBlock ∧ some k_ ≠ (v5_ : Value).ownBlock) v0_ r1 ∧ Kd.R (Kd.int .u32) 22 w' w.heap.size (fun k_ => (w.heap.size ≤ k_)) v4_ r5 ∧ Kd.R (Kd.int .i64) 31 w' w.heap.size (fun k_ => (w.heap.size ≤ k_)) v5_ r6 ∧ Below w.heap.size w w' := by
 have hu27 := Tryd.underlying27
 have hu30 := Tryd.underlying30
 have hu34 := Tryd.underlying34
 have aG := Aside0.mk hr0_2
 have aE := Aside0.mk hc0_2
 clear hr0_2 hc0_2
 have af := Aside0.mk (show Kd.V (Kd.int .i64) 3 w w.heap.size (fun k_ => (P1_ k_ ∨ w.heap.size ≤ k_)) (.slice A1 l1.length c1) l1 from Kd.V_mono jm (fun k_ hk => .inl hk))
 have aH := Aside0.mk hr2_2
 have aF := Aside0.mk hc2_2
 clear hr2_2 hc2_2
 have HB := Aside0.mk (Below.refl w.heap.size w)
 have HG := Aside0.mk hG
 clear hG
 have H : ((ask_Check.f k ai aj ag ak al am an ac ao ah).bind fun aD => (if aD = 0 then (if ac = 1 then ((spec_least.f k ai aj ag ak al am an l1 ac ao ah).bind fun bt258 => (some (bt258.1, bt258.2.1, bt258.2.2.1, bt258.2.2.2.1, bt258.2.2.2.2.1, bt258.2.2.2.2.2))) else (if ac = 2 then ((spec_exact.f k ai aj ag ak al am an l1 ac ao ah).bind fun bt270 => (some (bt270.1, bt270.2.1, bt270.2.2.1, bt270.2.2.2.1, bt270.2.2.2.2.1, bt270.2.2.2.2.2))) else (if ac = 3 then ((spec_release.f k ai aj ag ak al am an l1 ac ao ah).bind fun bt282 => (some (bt282.1, bt282.2.1, bt282.2.2.1, bt282.2.2.2.1, bt282.2.2.2.2.1, bt282.2.2.2.2.2))) else (if ac = 4 then ((spec_batch.f k ai aj ag ak al am an l1 ac ao ah).bind fun bt294 => (some (bt294.1, bt294.2.1, bt294.2.2.1, bt294.2.2.2.1, bt294.2.2.2.2.1, bt294.2.2.2.2.2))) else (if ac = 5 then ((spec_query.f k ai aj ag ak al am an l1 ac ao ah).bind fun bt306 => (some (bt306.1, bt306.2.1, bt306.2.2.1, bt306.2.2.2.1, bt306.2.2.2.2.1, bt306.2.2.2.2.2))) else (if ac = 6 then ((spec_snapshot.f k ai aj ag ak al am an l1 ac ao ah).bind fun bt318 => (some (bt318.1, bt318.2.1, bt318.2.2.1, bt318.2.2.2.1, bt318.2.2.2.2.1, bt318.2.2.2.2.2))) else (if ac = 7 then ((spec_closing.f ai aj ag ak al am an l1 ac ao ah).bind fun bt330 => (some (bt330.1, bt330.2.1, bt330.2.2.1, bt330.2.2.2.1, bt330.2.2.2.2.1, bt330.2.2.2.2.2))) else (none)))))))) else ((spec_fail.f aD).bind fun bt249 => (some (l1, bt249.1, bt249.2.1, bt249.2.2.1, bt249.2.2.2.1, bt249.2.2.2.2))))) = some (r1, r2, r3, r4, r5, r6) := h
 clear h
 replace H := bi_ H
 obtain ⟨aD, A40, H⟩ := H
 replace H : (if aD = 0 then (if ac = 1 then ((spec_least.f k ai aj ag ak al am an l1 ac ao ah).bind fun bt258 => (some (bt258.1, bt258.2.1, bt258.2.2.1, bt258.2.2.2.1, bt258.2.2.2.2.1, bt258.2.2.2.2.2))) else (if ac = 2 then ((spec_exact.f k ai aj ag ak al am an l1 ac ao ah).bind fun bt270 => (some (bt270.1, bt270.2.1, bt270.2.2.1, bt270.2.2.2.1, bt270.2.2.2.2.1, bt270.2.2.2.2.2))) else (if ac = 3 then ((spec_release.f k ai aj ag ak al am an l1 ac ao ah).bind fun bt282 => (some (bt282.1, bt282.2.1, bt282.2.2.1, bt282.2.2.2.1, bt282.2.2.2.2.1, bt282.2.2.2.2.2))) else (if ac = 4 then ((spec_batch.f k ai aj ag ak al am an l1 ac ao ah).bind fun bt294 => (some (bt294.1, bt294.2.1, bt294.2.2.1, bt294.2.2.2.1, bt294.2.2.2.2.1, bt294.2.2.2.2.2))) else (if ac = 5 then ((spec_query.f k ai aj ag ak al am an l1 ac ao ah).bind fun bt306 => (some (bt306.1, bt306.2.1, bt306.2.2.1, bt306.2.2.2.1, bt306.2.2.2.2.1, bt306.2.2.2.2.2))) else (if ac = 6 then ((spec_snapshot.f k ai aj ag ak al am an l1 ac ao ah).bind fun bt318 => (some (bt318.1, bt318.2.1, bt318.2.2.1, bt318.2.2.2.1, bt318.2.2.2.2.1, bt318.2.2.2.2.2))) else (if ac = 7 then ((spec_closing.f ai aj ag ak al am an l1 ac ao ah).bind fun bt330 => (some (bt330.1, bt330.2.1, bt330.2.2.1, bt330.2.2.2.1, bt330.2.2.2.2.1, bt330.2.2.2.2.2))) else (none)))))))) else ((spec_fail.f aD).bind fun bt249 => (some (l1, bt249.1, bt249.2.1, bt249.2.2.1, bt249.2.2.2.1, bt249.2.2.2.2)))) = some (r1, r2, r3, r4, r5, r6) := H
 have A4 := Aside0.mk A40
 clear A40
 by_cases c5 : aD = 0
 ·rw [if_pos c5] at H
  have cB : (aD == 0) = true := beq_iff_eq.mpr c5
  have cC : (aD != 0) = false := bne_eq_false_iff_eq.mpr c5
  clear c5
  by_cases c6 : ac = 1
  ·rw [if_pos c6] at H
   have bZ : (ac == 1) = true := beq_iff_eq.mpr c6
   have cD : (ac != 1) = false := bne_eq_false_iff_eq.mpr c6
   clear c6; replace H := bi_ H; obtain ⟨⟨b6, aP, aX, a5, bd, bl⟩, A70, H⟩ := H
   replace H : (some (b6, aP, aX, a5, bd, bl)) = some (r1, r2, r3, r4, r5, r6) := H
   have A7 := Aside0.mk A70; clear A70; simp only [Option.some.injEq, Prod.mk.injEq] at H; obtain ⟨rfl, rfl, rfl, rfl, rfl, rfl⟩ := H
   go_enter Tryd.func15, Tryd.ntmps15
   go_wp2_with (first | ((with_reducible refine gate_dst (N := 3) rfl ?_); refine box_event ?hg (N := 3) ?hd (cs := #[.int .u32 ai, .int .i64 aj, .slice az ag.length aB, .int .i64 ak, .int .i64 al, .int .i64 am, .int .i64 an]) (t := 27) ?hr ?_; (case hd => rfl); (case hg => rfl); (case hr => first | (go_simp; done) | (go_simp; rfl)); intro ax hg w8 hbox hb; replace af := vE_ af hg hb; have aa := Aside0.mk (hbox); have aL := gG_ hg HB; have aI := gG_ hg HB; replace HB := hS_ HB hb; clear hb hbox hg) | ((with_reducible refine gate_dst (N := 5) rfl ?_); refine box_event ?hg (N := 5) ?hd (cs := #[.int .i64 ac, .int .u32 ao, .slice aA ah.length aC]) (t := 30) ?hr ?_; (case hd => rfl); (case hg => rfl); (case hr => first | (go_simp; done) | (go_simp; rfl)); intro ay hg w9 hbox hb; replace af := vE_ af hg hb; have ab := Aside0.mk (hbox); have aM := gG_ hg HB; have aJ := gG_ hg HB; replace HB := hS_ HB hb; have ap := nL_ hg aa; have ar := nG_ hg aa; replace aa := bB_ aa hb; clear hb hbox hg) | ((with_reducible refine gate_dst (N := 7) rfl ?_); refine box_event ?hg (N := 7) ?hd (cs := #[.int .i64 0, .int .u32 0, .bool false, .slice none 0 0, .slice none 0 0]) (t := 34) ?hr ?_; (case hd => rfl); (case hg => rfl); (case hr => first | (go_simp; done) | (go_simp; rfl)); intro ae hg w10 hbox hb; replace af := vE_ af hg hb; have ad := Aside0.mk (hbox); have aN := gG_ hg HB; have aK := gG_ hg HB; have aq := nL_ hg aa; have av := nG_ hg aa; have au := nL_ hg ab; have aw := nG_ hg ab; replace ab := bB_ ab hb; replace aa := bB_ aa hb; replace HB := hS_ HB hb; clear hb hbox hg; have jn := ap.out; have jF := ar.out; have jo := aq.out; have jG := av.out; obtain ⟨eI, eJ, eK, eL, eM, eN, eO, gR, gS, gT, gU, gV, gW, gX⟩ := cz7_ (w := w10) aa; have jp := au.out; have jH := aw.out; obtain ⟨eP, eQ, eR, gY, gZ, g0⟩ := cz3_ (w := w10) ab) | ((with_reducible refine gate_callee (f := 32) rfl ?_); refine gL_ (some 11) Tryd.func32 #[.agg #[.int .u32 ai, .int .i64 aj, .slice az ag.length aB, .int .i64 ak, .int .i64 al, .int .i64 am, .int .i64 an], .agg #[.int .i64 ac, .int .u32 ao, .slice aA ah.length aC]] ?_; (with_reducible refine (ask_Check.calls k ai aj _ _ ag ak al am an ac ao _ _ ah aD _ ?side1 ?side2 ?side3 ?side4 ?side5 A4.out).mono ?_); (case side1 => exact cC_ aG HB); (case side2 => exact aE.out); (case side3 => exact cC_ aH HB); (case side4 => exact aF.out); (case side5 => exact Lg_below HG.out (hB_ HB)); rintro e w16 ⟨rfl, hb⟩; refine ⟨_, rfl, ?_⟩; replace af := vB_ af hb; replace ab := bB_ ab hb; replace HB := hS_ HB hb; replace aa := bB_ aa hb; replace ad := bB_ ad hb; (try clear hb); obtain ⟨eS, eT, eU, g1, g2, g3⟩ := cz3_ (w := w16) ab; obtain ⟨eV, eW, eX, eY, eZ, e0, e1, g4, g5, g6, g7, g8, g9, ha⟩ := cz7_ (w := w16) aa; obtain ⟨bm_, hgm_, hlm_⟩ := Ld_at (Lg_below HG.out HB.out).2 (j := ac) (f := 74) (by have e_ := beq_iff_eq.mp bZ; rw [e_]; simp [deeds])) | ((with_reducible refine gate_dst (N := 24) rfl ?_); refine goesV_ (some 24) rfl rfl Tryd.func74 (by kernel_rfl) rfl #[.agg #[.int .u32 ai, .int .i64 aj, .slice az ag.length aB, .int .i64 ak, .int .i64 al, .int .i64 am, .int .i64 an], .slice A1 l1.length c1, .agg #[.int .i64 ac, .int .u32 ao, .slice aA ah.length aC]] rfl (by first | rfl | (go_simp; done) | (go_simp; rfl)) am_ ?_; (with_reducible refine (spec_least.calls k ai aj _ _ ag ak al am an (fun k_ => ((((P1_ k_ ∨ w.heap.size ≤ k_) ∧ k_ ≠ ax) ∧ k_ ≠ ay) ∧ k_ ≠ ae)) _ _ l1 ac ao _ _ ah b6 aP aX a5 bd bl _ ?side1 ?side2 ?side3 ?side4 ?side5 A7.out).mono ?_); (case side1 => exact cC_ aG HB); (case side2 => exact aE.out); (case side3 => exact af.out); (case side4 => exact cC_ aH HB); (case side5 => exact aF.out); rintro e w19 ⟨v259, v265, v268, rfl, ho0, ho1, ho2, hb⟩; refine ⟨_, rfl, ?_⟩; replace af := Aside0.mk (Kd.V_mono (Kd.V_told (Kd.V_told (Kd.V_old (vV_ af) hb) (Kd.R_base ho1)) (Kd.R_base ho2)) (fun _ h_ => h_.1)); have cg := Aside0.mk (Kd.V_lower (Kd.V_mono (ok' := fun k_ => (P1_ k_ ∨ w.heap.size ≤ k_) ∧ some k_ ≠ (v265 : Value).ownBlock ∧ some k_ ≠ (v268 : Value).ownBlock ∧ k_ ≠ ax ∧ k_ ≠ ay ∧ k_ ≠ ae) ho0 (fun k_ hk_ => ⟨Or.elim hk_.1 (fun hs_ => hs_.1.1.1) (fun hn_ => (.inr (Nat.le_trans (below_size (hB_ HB)) hn_))), hk_.2.1, hk_.2.2, Or.elim hk_.1 (fun hs_ => hs_.1.1.2) (fun hn_ => (fB_ aa k_ hn_)), Or.elim hk_.1 (fun hs_ => hs_.1.2) (fun hn_ => (fB_ ab k_ hn_)), Or.elim hk_.1 (fun hs_ => hs_.2) (fun hn_ => (fB_ ad k_ hn_))⟩)) (below_size (hB_ HB))); have bx := Aside0.mk (Kd.R_lower (Kd.R_newM (M := fun k_ => (w.heap.size ≤ k_)) (Kd.R_mono (ok' := fun k_ => True) ho1 (fun _ hk_ => trivial)) (below_size (hB_ HB)) (fun k_ h_ => h_)) (below_size (hB_ HB))); have bz := Aside0.mk (Kd.R_lower (Kd.R_newM (M := fun k_ => (w.heap.size ≤ k_)) (Kd.R_mono (ok' := fun k_ => True) ho2 (fun _ hk_ => trivial)) (below_size (hB_ HB)) (fun k_ h_ => h_)) (below_size (hB_ HB))); replace ab := bB_ ab hb; replace HB := hS_ HB hb; replace aa := bB_ aa hb; replace ad := bB_ ad hb; (try clear hb); (try clear ho0); (try clear ho1); (try clear ho2); obtain ⟨e2, e3, e4, e5, e6, hc, he, hf, hh, hi⟩ := cz5_ (w := w19) ad; obtain ⟨bU, b1, eo21⟩ := Kd.R_slice bx.out; subst eo21; obtain ⟨cw, cE, eo22⟩ := Kd.R_slice bz.out; subst eo22))
   refine bodyPost_ret (results_tc rfl _ _ ae 34 #[.int .i64 aP, .int .u32 aX, .bool a5, .slice bU bd.length b1, .slice cw bl.length cE] (0, 0) _ rfl (by (with_reducible repeat (first | refine blk_drewN ?_ _ | refine blk_drew ?_ | refine blk_alloc ?_ _)); refine blk_put (cs := #[.int .i64 aP, .int .u32 aX, .bool a5, .slice bU bd.length b1, .slice none 0 0]) ?_ 4 _ rfl; refine blk_put (cs := #[.int .i64 aP, .int .u32 aX, .bool a5, .slice none 0 0, .slice none 0 0]) ?_ 3 _ rfl; refine blk_put (cs := #[.int .i64 aP, .int .u32 aX, .bool false, .slice none 0 0, .slice none 0 0]) ?_ 2 _ rfl; refine blk_put (cs := #[.int .i64 aP, .int .u32 0, .bool false, .slice none 0 0, .slice none 0 0]) ?_ 1 _ rfl; refine blk_put (cs := #[.int .i64 0, .int .u32 0, .bool false, .slice none 0 0, .slice none 0 0]) ?_ 0 _ rfl; (with_reducible repeat (first | refine blk_drewN ?_ _ | refine blk_drew ?_ | refine blk_alloc ?_ _)); exact ad.out) Tryd.underlying34 rfl (by kernel_rfl)) rfl ?_
   exact ⟨_, _, _, er_, by (with_reducible repeat (first | apply Kd.V_alloc | apply Kd.V_drewN | apply Kd.V_drew)); exact Kd.V_mono (vF5_ (g := ae) (Kd.V_mono cg.out (fun k_ hk => (⟨hk, hk.2.2.2.2.2⟩ : _ ∧ k_ ≠ ae))) (fun _ hk => hk.2)) (fun _ hk => ⟨hk.1.1, ⟨hk.1.2.1, hk.1.2.2.1⟩⟩), by (with_reducible repeat (first | apply Kd.R_alloc | apply Kd.R_drewN | apply Kd.R_drew)); exact Kd.R_mono (rF5_ (g := ae) (Kd.R_types bx.out ad.out (by decide)) (fun _ hk => hk.2)) (fun _ hk => hk.1.1), by (with_reducible repeat (first | apply Kd.R_alloc | apply Kd.R_drewN | apply Kd.R_drew)); exact Kd.R_mono (rF5_ (g := ae) (Kd.R_types bz.out ad.out (by decide)) (fun _ hk => hk.2)) (fun _ hk => hk.1.1), hB_ HB⟩
  ·rw [if_neg c6] at H
   have bZ : (ac == 1) = false := beq_eq_false_iff_ne.mpr c6
   have cD : (ac != 1) = true := bne_iff_ne.mpr c6
   by_cases c23 : ac = 2
   ·rw [if_pos c23] at H
    have bM : (ac == 2) = true := beq_iff_eq.mpr c23
    have cn : (ac != 2) = false := bne_eq_false_iff_eq.mpr c23
    clear c23; replace H := bi_ H; obtain ⟨⟨b7, aQ, aY, a6, be, bm⟩, A240, H⟩ := H
    replace H : (some (b7, aQ, aY, a6, be, bm)) = some (r1, r2, r3, r4, r5, r6) := H
    have A24 := Aside0.mk A240; clear A240; simp only [Option.some.injEq, Prod.mk.injEq] at H; obtain ⟨rfl, rfl, rfl, rfl, rfl, rfl⟩ := H
    go_enter Tryd.func15, Tryd.ntmps15
    go_wp2_with (first | ((with_reducible refine gate_dst (N := 3) rfl ?_); refine box_event ?hg (N := 3) ?hd (cs := #[.int .u32 ai, .int .i64 aj, .slice az ag.length aB, .int .i64 ak, .int .i64 al, .int .i64 am, .int .i64 an]) (t := 27) ?hr ?_; (case hd => rfl); (case hg => rfl); (case hr => first | (go_simp; done) | (go_simp; rfl)); intro ax hg w25 hbox hb; replace af := vE_ af hg hb; have aa := Aside0.mk (hbox); have aL := gG_ hg HB; have aI := gG_ hg HB; replace HB := hS_ HB hb; clear hb hbox hg) | ((with_reducible refine gate_dst (N := 5) rfl ?_); refine box_event ?hg (N := 5) ?hd (cs := #[.int .i64 ac, .int .u32 ao, .slice aA ah.length aC]) (t := 30) ?hr ?_; (case hd => rfl); (case hg => rfl); (case hr => first | (go_simp; done) | (go_simp; rfl)); intro ay hg w26 hbox hb; replace af := vE_ af hg hb; have ab := Aside0.mk (hbox); have aM := gG_ hg HB; have aJ := gG_ hg HB; replace HB := hS_ HB hb; have ap := nL_ hg aa; have ar := nG_ hg aa; replace aa := bB_ aa hb; clear hb hbox hg) | ((with_reducible refine gate_dst (N := 7) rfl ?_); refine box_event ?hg (N := 7) ?hd (cs := #[.int .i64 0, .int .u32 0, .bool false, .slice none 0 0, .slice none 0 0]) (t := 34) ?hr ?_; (case hd => rfl); (case hg => rfl); (case hr => first | (go_simp; done) | (go_simp; rfl)); intro ae hg w27 hbox hb; replace af := vE_ af hg hb; have ad := Aside0.mk (hbox); have aN := gG_ hg HB; have aK := gG_ hg HB; have aq := nL_ hg aa; have av := nG_ hg aa; have au := nL_ hg ab; have aw := nG_ hg ab; replace ab := bB_ ab hb; replace aa := bB_ aa hb; replace HB := hS_ HB hb; clear hb hbox hg; have jq := ap.out; have jI := ar.out; have jr := aq.out; have jJ := av.out; obtain ⟨e7, e8, e9, fa, fb, fc, fd, hj, hl, hm, hn, ho, hp, hq⟩ := cz7_ (w := w27) aa; have js := au.out; have jK := aw.out; obtain ⟨fe, ff, fg, hs, ht, hu⟩ := cz3_ (w := w27) ab) | ((with_reducible refine gate_callee (f := 32) rfl ?_); refine gL_ (some 11) Tryd.func32 #[.agg #[.int .u32 ai, .int .i64 aj, .slice az ag.length aB, .int .i64 ak, .int .i64 al, .int .i64 am, .int .i64 an], .agg #[.int .i64 ac, .int .u32 ao, .slice aA ah.length aC]] ?_; (with_reducible refine (ask_Check.calls k ai aj _ _ ag ak al am an ac ao _ _ ah aD _ ?side1 ?side2 ?side3 ?side4 ?side5 A4.out).mono ?_); (case side1 => exact cC_ aG HB); (case side2 => exact aE.out); (case side3 => exact cC_ aH HB); (case side4 => exact aF.out); (case side5 => exact Lg_below HG.out (hB_ HB)); rintro e w33 ⟨rfl, hb⟩; refine ⟨_, rfl, ?_⟩; replace af := vB_ af hb; replace ab := bB_ ab hb; replace HB := hS_ HB hb; replace aa := bB_ aa hb; replace ad := bB_ ad hb; (try clear hb); obtain ⟨fh, fi, fj, hv, hw, hx⟩ := cz3_ (w := w33) ab; obtain ⟨fk, fl, fm, fn, fo, fp, fq, hy, hz, hA, hB, hC, hD, hE⟩ := cz7_ (w := w33) aa; obtain ⟨bm_, hgm_, hlm_⟩ := Ld_at (Lg_below HG.out HB.out).2 (j := ac) (f := 75) (by have e_ := beq_iff_eq.mp bM; rw [e_]; simp [deeds])) | ((with_reducible refine gate_dst (N := 24) rfl ?_); refine goesV_ (some 24) rfl rfl Tryd.func75 (by kernel_rfl) rfl #[.agg #[.int .u32 ai, .int .i64 aj, .slice az ag.length aB, .int .i64 ak, .int .i64 al, .int .i64 am, .int .i64 an], .slice A1 l1.length c1, .agg #[.int .i64 ac, .int .u32 ao, .slice aA ah.length aC]] rfl (by first | rfl | (go_simp; done) | (go_simp; rfl)) am_ ?_; (with_reducible refine (spec_exact.calls k ai aj _ _ ag ak al am an (fun k_ => ((((P1_ k_ ∨ w.heap.size ≤ k_) ∧ k_ ≠ ax) ∧ k_ ≠ ay) ∧ k_ ≠ ae)) _ _ l1 ac ao _ _ ah b7 aQ aY a6 be bm _ ?side1 ?side2 ?side3 ?side4 ?side5 A24.out).mono ?_); (case side1 => exact cC_ aG HB); (case side2 => exact aE.out); (case side3 => exact af.out); (case side4 => exact cC_ aH HB); (case side5 => exact aF.out); rintro e w36 ⟨v271, v277, v280, rfl, ho0, ho1, ho2, hb⟩; refine ⟨_, rfl, ?_⟩; replace af := Aside0.mk (Kd.V_mono (Kd.V_told (Kd.V_told (Kd.V_old (vV_ af) hb) (Kd.R_base ho1)) (Kd.R_base ho2)) (fun _ h_ => h_.1)); have ch := Aside0.mk (Kd.V_lower (Kd.V_mono (ok' := fun k_ => (P1_ k_ ∨ w.heap.size ≤ k_) ∧ some k_ ≠ (v277 : Value).ownBlock ∧ some k_ ≠ (v280 : Value).ownBlock ∧ k_ ≠ ax ∧ k_ ≠ ay ∧ k_ ≠ ae) ho0 (fun k_ hk_ => ⟨Or.elim hk_.1 (fun hs_ => hs_.1.1.1) (fun hn_ => (.inr (Nat.le_trans (below_size (hB_ HB)) hn_))), hk_.2.1, hk_.2.2, Or.elim hk_.1 (fun hs_ => hs_.1.1.2) (fun hn_ => (fB_ aa k_ hn_)), Or.elim hk_.1 (fun hs_ => hs_.1.2) (fun hn_ => (fB_ ab k_ hn_)), Or.elim hk_.1 (fun hs_ => hs_.2) (fun hn_ => (fB_ ad k_ hn_))⟩)) (below_size (hB_ HB))); have bA := Aside0.mk (Kd.R_lower (Kd.R_newM (M := fun k_ => (w.heap.size ≤ k_)) (Kd.R_mono (ok' := fun k_ => True) ho1 (fun _ hk_ => trivial)) (below_size (hB_ HB)) (fun k_ h_ => h_)) (below_size (hB_ HB))); have bB := Aside0.mk (Kd.R_lower (Kd.R_newM (M := fun k_ => (w.heap.size ≤ k_)) (Kd.R_mono (ok' := fun k_ => True) ho2 (fun _ hk_ => trivial)) (below_size (hB_ HB)) (fun k_ h_ => h_)) (below_size (hB_ HB))); replace ab := bB_ ab hb; replace HB := hS_ HB hb; replace aa := bB_ aa hb; replace ad := bB_ ad hb; (try clear hb); (try clear ho0); (try clear ho1); (try clear ho2); obtain ⟨fr, fs, ft, fu, fv, hF, hH, hI, hJ, hK⟩ := cz5_ (w := w36) ad; obtain ⟨bV, b2, eo38⟩ := Kd.R_slice bA.out; subst eo38; obtain ⟨cx, cF, eo39⟩ := Kd.R_slice bB.out; subst eo39))
    refine bodyPost_ret (results_tc rfl _ _ ae 34 #[.int .i64 aQ, .int .u32 aY, .bool a6, .slice bV be.length b2, .slice cx bm.length cF] (0, 0) _ rfl (by (with_reducible repeat (first | refine blk_drewN ?_ _ | refine blk_drew ?_ | refine blk_alloc ?_ _)); refine blk_put (cs := #[.int .i64 aQ, .int .u32 aY, .bool a6, .slice bV be.length b2, .slice none 0 0]) ?_ 4 _ rfl; refine blk_put (cs := #[.int .i64 aQ, .int .u32 aY, .bool a6, .slice none 0 0, .slice none 0 0]) ?_ 3 _ rfl; refine blk_put (cs := #[.int .i64 aQ, .int .u32 aY, .bool false, .slice none 0 0, .slice none 0 0]) ?_ 2 _ rfl; refine blk_put (cs := #[.int .i64 aQ, .int .u32 0, .bool false, .slice none 0 0, .slice none 0 0]) ?_ 1 _ rfl; refine blk_put (cs := #[.int .i64 0, .int .u32 0, .bool false, .slice none 0 0, .slice none 0 0]) ?_ 0 _ rfl; (with_reducible repeat (first | refine blk_drewN ?_ _ | refine blk_drew ?_ | refine blk_alloc ?_ _)); exact ad.out) Tryd.underlying34 rfl (by kernel_rfl)) rfl ?_
    exact ⟨_, _, _, er_, by (with_reducible repeat (first | apply Kd.V_alloc | apply Kd.V_drewN | apply Kd.V_drew)); exact Kd.V_mono (vF5_ (g := ae) (Kd.V_mono ch.out (fun k_ hk => (⟨hk, hk.2.2.2.2.2⟩ : _ ∧ k_ ≠ ae))) (fun _ hk => hk.2)) (fun _ hk => ⟨hk.1.1, ⟨hk.1.2.1, hk.1.2.2.1⟩⟩), by (with_reducible repeat (first | apply Kd.R_alloc | apply Kd.R_drewN | apply Kd.R_drew)); exact Kd.R_mono (rF5_ (g := ae) (Kd.R_types bA.out ad.out (by decide)) (fun _ hk => hk.2)) (fun _ hk => hk.1.1), by (with_reducible repeat (first | apply Kd.R_alloc | apply Kd.R_drewN | apply Kd.R_drew)); exact Kd.R_mono (rF5_ (g := ae) (Kd.R_types bB.out ad.out (by decide)) (fun _ hk => hk.2)) (fun _ hk => hk.1.1), hB_ HB⟩
   ·rw [if_neg c23] at H
    have bM : (ac == 2) = false := beq_eq_false_iff_ne.mpr c23
    have cn : (ac != 2) = true := bne_iff_ne.mpr c23
    by_cases c40 : ac = 3
    ·rw [if_pos c40] at H
     have bN : (ac == 3) = true := beq_iff_eq.mpr c40
     have co : (ac != 3) = false := bne_eq_false_iff_eq.mpr c40
     clear c40; replace H := bi_ H; obtain ⟨⟨b8, aR, aZ, a7, bf, bn⟩, A410, H⟩ := H
     replace H : (some (b8, aR, aZ, a7, bf, bn)) = some (r1, r2, r3, r4, r5, r6) := H
     have A41 := Aside0.mk A410; clear A410; simp only [Option.some.injEq, Prod.mk.injEq] at H; obtain ⟨rfl, rfl, rfl, rfl, rfl, rfl⟩ := H
     go_enter Tryd.func15, Tryd.ntmps15
     go_wp2_with (first | ((with_reducible refine gate_dst (N := 3) rfl ?_); refine box_event ?hg (N := 3) ?hd (cs := #[.int .u32 ai, .int .i64 aj, .slice az ag.length aB, .int .i64 ak, .int .i64 al, .int .i64 am, .int .i64 an]) (t := 27) ?hr ?_; (case hd => rfl); (case hg => rfl); (case hr => first | (go_simp; done) | (go_simp; rfl)); intro ax hg w42 hbox hb; replace af := vE_ af hg hb; have aa := Aside0.mk (hbox); have aL := gG_ hg HB; have aI := gG_ hg HB; replace HB := hS_ HB hb; clear hb hbox hg) | ((with_reducible refine gate_dst (N := 5) rfl ?_); refine box_event ?hg (N := 5) ?hd (cs := #[.int .i64 ac, .int .u32 ao, .slice aA ah.length aC]) (t := 30) ?hr ?_; (case hd => rfl); (case hg => rfl); (case hr => first | (go_simp; done) | (go_simp; rfl)); intro ay hg w43 hbox hb; replace af := vE_ af hg hb; have ab := Aside0.mk (hbox); have aM := gG_ hg HB; have aJ := gG_ hg HB; replace HB := hS_ HB hb; have ap := nL_ hg aa; have ar := nG_ hg aa; replace aa := bB_ aa hb; clear hb hbox hg) | ((with_reducible refine gate_dst (N := 7) rfl ?_); refine box_event ?hg (N := 7) ?hd (cs := #[.int .i64 0, .int .u32 0, .bool false, .slice none 0 0, .slice none 0 0]) (t := 34) ?hr ?_; (case hd => rfl); (case hg => rfl); (case hr => first | (go_simp; done) | (go_simp; rfl)); intro ae hg w44 hbox hb; replace af := vE_ af hg hb; have ad := Aside0.mk (hbox); have aN := gG_ hg HB; have aK := gG_ hg HB; have aq := nL_ hg aa; have av := nG_ hg aa; have au := nL_ hg ab; have aw := nG_ hg ab; replace ab := bB_ ab hb; replace aa := bB_ aa hb; replace HB := hS_ HB hb; clear hb hbox hg; have jt := ap.out; have jL := ar.out; have ju := aq.out; have jM := av.out; obtain ⟨fw, fx, fy, fz, fA, fB, fC, hL, hM, hN, hO, hP, hQ, hR⟩ := cz7_ (w := w44) aa; have jv := au.out; have jN := aw.out; obtain ⟨fD, fE, fF, hS, hT, hU⟩ := cz3_ (w := w44) ab) | ((with_reducible refine gate_callee (f := 32) rfl ?_); refine gL_ (some 11) Tryd.func32 #[.agg #[.int .u32 ai, .int .i64 aj, .slice az ag.length aB, .int .i64 ak, .int .i64 al, .int .i64 am, .int .i64 an], .agg #[.int .i64 ac, .int .u32 ao, .slice aA ah.length aC]] ?_; (with_reducible refine (ask_Check.calls k ai aj _ _ ag ak al am an ac ao _ _ ah aD _ ?side1 ?side2 ?side3 ?side4 ?side5 A4.out).mono ?_); (case side1 => exact cC_ aG HB); (case side2 => exact aE.out); (case side3 => exact cC_ aH HB); (case side4 => exact aF.out); (case side5 => exact Lg_below HG.out (hB_ HB)); rintro e w50 ⟨rfl, hb⟩; refine ⟨_, rfl, ?_⟩; replace af := vB_ af hb; replace ab := bB_ ab hb; replace HB := hS_ HB hb; replace aa := bB_ aa hb; replace ad := bB_ ad hb; (try clear hb); obtain ⟨fG, fH, fI, hV, hW, hX⟩ := cz3_ (w := w50) ab; obtain ⟨fJ, fK, fL, fM, fN, fO, fP, hY, hZ, h0, h1, h2, h3, h4⟩ := cz7_ (w := w50) aa; obtain ⟨bm_, hgm_, hlm_⟩ := Ld_at (Lg_below HG.out HB.out).2 (j := ac) (f := 76) (by have e_ := beq_iff_eq.mp bN; rw [e_]; simp [deeds])) | ((with_reducible refine gate_dst (N := 24) rfl ?_); refine goesV_ (some 24) rfl rfl Tryd.func76 (by kernel_rfl) rfl #[.agg #[.int .u32 ai, .int .i64 aj, .slice az ag.length aB, .int .i64 ak, .int .i64 al, .int .i64 am, .int .i64 an], .slice A1 l1.length c1, .agg #[.int .i64 ac, .int .u32 ao, .slice aA ah.length aC]] rfl (by first | rfl | (go_simp; done) | (go_simp; rfl)) am_ ?_; (with_reducible refine (spec_release.calls k ai aj _ _ ag ak al am an (fun k_ => ((((P1_ k_ ∨ w.heap.size ≤ k_) ∧ k_ ≠ ax) ∧ k_ ≠ ay) ∧ k_ ≠ ae)) _ _ l1 ac ao _ _ ah b8 aR aZ a7 bf bn _ ?side1 ?side2 ?side3 ?side4 ?side5 A41.out).mono ?_); (case side1 => exact cC_ aG HB); (case side2 => exact aE.out); (case side3 => exact af.out); (case side4 => exact cC_ aH HB); (case side5 => exact aF.out); rintro e w53 ⟨v283, v289, v292, rfl, ho0, ho1, ho2, hb⟩; refine ⟨_, rfl, ?_⟩; replace af := Aside0.mk (Kd.V_mono (Kd.V_told (Kd.V_told (Kd.V_old (vV_ af) hb) (Kd.R_base ho1)) (Kd.R_base ho2)) (fun _ h_ => h_.1)); have ci := Aside0.mk (Kd.V_lower (Kd.V_mono (ok' := fun k_ => (P1_ k_ ∨ w.heap.size ≤ k_) ∧ some k_ ≠ (v289 : Value).ownBlock ∧ some k_ ≠ (v292 : Value).ownBlock ∧ k_ ≠ ax ∧ k_ ≠ ay ∧ k_ ≠ ae) ho0 (fun k_ hk_ => ⟨Or.elim hk_.1 (fun hs_ => hs_.1.1.1) (fun hn_ => (.inr (Nat.le_trans (below_size (hB_ HB)) hn_))), hk_.2.1, hk_.2.2, Or.elim hk_.1 (fun hs_ => hs_.1.1.2) (fun hn_ => (fB_ aa k_ hn_)), Or.elim hk_.1 (fun hs_ => hs_.1.2) (fun hn_ => (fB_ ab k_ hn_)), Or.elim hk_.1 (fun hs_ => hs_.2) (fun hn_ => (fB_ ad k_ hn_))⟩)) (below_size (hB_ HB))); have bC := Aside0.mk (Kd.R_lower (Kd.R_newM (M := fun k_ => (w.heap.size ≤ k_)) (Kd.R_mono (ok' := fun k_ => True) ho1 (fun _ hk_ => trivial)) (below_size (hB_ HB)) (fun k_ h_ => h_)) (below_size (hB_ HB))); have bD := Aside0.mk (Kd.R_lower (Kd.R_newM (M := fun k_ => (w.heap.size ≤ k_)) (Kd.R_mono (ok' := fun k_ => True) ho2 (fun _ hk_ => trivial)) (below_size (hB_ HB)) (fun k_ h_ => h_)) (below_size (hB_ HB))); replace ab := bB_ ab hb; replace HB := hS_ HB hb; replace aa := bB_ aa hb; replace ad := bB_ ad hb; (try clear hb); (try clear ho0); (try clear ho1); (try clear ho2); obtain ⟨fQ, fR, fS, fT, fU, h5, h6, h7, h8, h9⟩ := cz5_ (w := w53) ad; obtain ⟨bW, b3, eo55⟩ := Kd.R_slice bC.out; subst eo55; obtain ⟨cy, cG, eo56⟩ := Kd.R_slice bD.out; subst eo56))
     refine bodyPost_ret (results_tc rfl _ _ ae 34 #[.int .i64 aR, .int .u32 aZ, .bool a7, .slice bW bf.length b3, .slice cy bn.length cG] (0, 0) _ rfl (by (with_reducible repeat (first | refine blk_drewN ?_ _ | refine blk_drew ?_ | refine blk_alloc ?_ _)); refine blk_put (cs := #[.int .i64 aR, .int .u32 aZ, .bool a7, .slice bW bf.length b3, .slice none 0 0]) ?_ 4 _ rfl; refine blk_put (cs := #[.int .i64 aR, .int .u32 aZ, .bool a7, .slice none 0 0, .slice none 0 0]) ?_ 3 _ rfl; refine blk_put (cs := #[.int .i64 aR, .int .u32 aZ, .bool false, .slice none 0 0, .slice none 0 0]) ?_ 2 _ rfl; refine blk_put (cs := #[.int .i64 aR, .int .u32 0, .bool false, .slice none 0 0, .slice none 0 0]) ?_ 1 _ rfl; refine blk_put (cs := #[.int .i64 0, .int .u32 0, .bool false, .slice none 0 0, .slice none 0 0]) ?_ 0 _ rfl; (with_reducible repeat (first | refine blk_drewN ?_ _ | refine blk_drew ?_ | refine blk_alloc ?_ _)); exact ad.out) Tryd.underlying34 rfl (by kernel_rfl)) rfl ?_
     exact ⟨_, _, _, er_, by (with_reducible repeat (first | apply Kd.V_alloc | apply Kd.V_drewN | apply Kd.V_drew)); exact Kd.V_mono (vF5_ (g := ae) (Kd.V_mono ci.out (fun k_ hk => (⟨hk, hk.2.2.2.2.2⟩ : _ ∧ k_ ≠ ae))) (fun _ hk => hk.2)) (fun _ hk => ⟨hk.1.1, ⟨hk.1.2.1, hk.1.2.2.1⟩⟩), by (with_reducible repeat (first | apply Kd.R_alloc | apply Kd.R_drewN | apply Kd.R_drew)); exact Kd.R_mono (rF5_ (g := ae) (Kd.R_types bC.out ad.out (by decide)) (fun _ hk => hk.2)) (fun _ hk => hk.1.1), by (with_reducible repeat (first | apply Kd.R_alloc | apply Kd.R_drewN | apply Kd.R_drew)); exact Kd.R_mono (rF5_ (g := ae) (Kd.R_types bD.out ad.out (by decide)) (fun _ hk => hk.2)) (fun _ hk => hk.1.1), hB_ HB⟩
    ·rw [if_neg c40] at H
     have bN : (ac == 3) = false := beq_eq_false_iff_ne.mpr c40
     have co : (ac != 3) = true := bne_iff_ne.mpr c40
     by_cases c57 : ac = 4
     ·rw [if_pos c57] at H
      have bO : (ac == 4) = true := beq_iff_eq.mpr c57
      have cp : (ac != 4) = false := bne_eq_false_iff_eq.mpr c57
      clear c57; replace H := bi_ H; obtain ⟨⟨b9, aS, a0, a8, bg, bo⟩, A580, H⟩ := H
      replace H : (some (b9, aS, a0, a8, bg, bo)) = some (r1, r2, r3, r4, r5, r6) := H
      have A58 := Aside0.mk A580; clear A580; simp only [Option.some.injEq, Prod.mk.injEq] at H; obtain ⟨rfl, rfl, rfl, rfl, rfl, rfl⟩ := H
      go_enter Tryd.func15, Tryd.ntmps15
      go_wp2_with (first | ((with_reducible refine gate_dst (N := 3) rfl ?_); refine box_event ?hg (N := 3) ?hd (cs := #[.int .u32 ai, .int .i64 aj, .slice az ag.length aB, .int .i64 ak, .int .i64 al, .int .i64 am, .int .i64 an]) (t := 27) ?hr ?_; (case hd => rfl); (case hg => rfl); (case hr => first | (go_simp; done) | (go_simp; rfl)); intro ax hg w59 hbox hb; replace af := vE_ af hg hb; have aa := Aside0.mk (hbox); have aL := gG_ hg HB; have aI := gG_ hg HB; replace HB := hS_ HB hb; clear hb hbox hg) | ((with_reducible refine gate_dst (N := 5) rfl ?_); refine box_event ?hg (N := 5) ?hd (cs := #[.int .i64 ac, .int .u32 ao, .slice aA ah.length aC]) (t := 30) ?hr ?_; (case hd => rfl); (case hg => rfl); (case hr => first | (go_simp; done) | (go_simp; rfl)); intro ay hg w60 hbox hb; replace af := vE_ af hg hb; have ab := Aside0.mk (hbox); have aM := gG_ hg HB; have aJ := gG_ hg HB; replace HB := hS_ HB hb; have ap := nL_ hg aa; have ar := nG_ hg aa; replace aa := bB_ aa hb; clear hb hbox hg) | ((with_reducible refine gate_dst (N := 7) rfl ?_); refine box_event ?hg (N := 7) ?hd (cs := #[.int .i64 0, .int .u32 0, .bool false, .slice none 0 0, .slice none 0 0]) (t := 34) ?hr ?_; (case hd => rfl); (case hg => rfl); (case hr => first | (go_simp; done) | (go_simp; rfl)); intro ae hg w61 hbox hb; replace af := vE_ af hg hb; have ad := Aside0.mk (hbox); have aN := gG_ hg HB; have aK := gG_ hg HB; have aq := nL_ hg aa; have av := nG_ hg aa; have au := nL_ hg ab; have aw := nG_ hg ab; replace ab := bB_ ab hb; replace aa := bB_ aa hb; replace HB := hS_ HB hb; clear hb hbox hg; have jw := ap.out; have jO := ar.out; have jx := aq.out; have jP := av.out; obtain ⟨fV, fW, fX, fY, fZ, f0, f1, ia, ib, ic, ie, ig, ii, ij⟩ := cz7_ (w := w61) aa; have jy := au.out; have jQ := aw.out; obtain ⟨f2, f3, f4, ik, il, im⟩ := cz3_ (w := w61) ab) | ((with_reducible refine gate_callee (f := 32) rfl ?_); refine gL_ (some 11) Tryd.func32 #[.agg #[.int .u32 ai, .int .i64 aj, .slice az ag.length aB, .int .i64 ak, .int .i64 al, .int .i64 am, .int .i64 an], .agg #[.int .i64 ac, .int .u32 ao, .slice aA ah.length aC]] ?_; (with_reducible refine (ask_Check.calls k ai aj _ _ ag ak al am an ac ao _ _ ah aD _ ?side1 ?side2 ?side3 ?side4 ?side5 A4.out).mono ?_); (case side1 => exact cC_ aG HB); (case side2 => exact aE.out); (case side3 => exact cC_ aH HB); (case side4 => exact aF.out); (case side5 => exact Lg_below HG.out (hB_ HB)); rintro e w67 ⟨rfl, hb⟩; refine ⟨_, rfl, ?_⟩; replace af := vB_ af hb; replace ab := bB_ ab hb; replace HB := hS_ HB hb; replace aa := bB_ aa hb; replace ad := bB_ ad hb; (try clear hb); obtain ⟨f5, f6, f7, io, ip, iq⟩ := cz3_ (w := w67) ab; obtain ⟨f8, f9, ga, gb, gc, gd, gf, ir, it, iu, iv, iw, ix, iy⟩ := cz7_ (w := w67) aa; obtain ⟨bm_, hgm_, hlm_⟩ := Ld_at (Lg_below HG.out HB.out).2 (j := ac) (f := 77) (by have e_ := beq_iff_eq.mp bO; rw [e_]; simp [deeds])) | ((with_reducible refine gate_dst (N := 24) rfl ?_); refine goesV_ (some 24) rfl rfl Tryd.func77 (by kernel_rfl) rfl #[.agg #[.int .u32 ai, .int .i64 aj, .slice az ag.length aB, .int .i64 ak, .int .i64 al, .int .i64 am, .int .i64 an], .slice A1 l1.length c1, .agg #[.int .i64 ac, .int .u32 ao, .slice aA ah.length aC]] rfl (by first | rfl | (go_simp; done) | (go_simp; rfl)) am_ ?_; (with_reducible refine (spec_batch.calls k ai aj _ _ ag ak al am an (fun k_ => ((((P1_ k_ ∨ w.heap.size ≤ k_) ∧ k_ ≠ ax) ∧ k_ ≠ ay) ∧ k_ ≠ ae)) _ _ l1 ac ao _ _ ah b9 aS a0 a8 bg bo _ ?side1 ?side2 ?side3 ?side4 ?side5 A58.out).mono ?_); (case side1 => exact cC_ aG HB); (case side2 => exact aE.out); (case side3 => exact af.out); (case side4 => exact cC_ aH HB); (case side5 => exact aF.out); rintro e w70 ⟨v295, v301, v304, rfl, ho0, ho1, ho2, hb⟩; refine ⟨_, rfl, ?_⟩; replace af := Aside0.mk (Kd.V_mono (Kd.V_told (Kd.V_told (Kd.V_old (vV_ af) hb) (Kd.R_base ho1)) (Kd.R_base ho2)) (fun _ h_ => h_.1)); have cj := Aside0.mk (Kd.V_lower (Kd.V_mono (ok' := fun k_ => (P1_ k_ ∨ w.heap.size ≤ k_) ∧ some k_ ≠ (v301 : Value).ownBlock ∧ some k_ ≠ (v304 : Value).ownBlock ∧ k_ ≠ ax ∧ k_ ≠ ay ∧ k_ ≠ ae) ho0 (fun k_ hk_ => ⟨Or.elim hk_.1 (fun hs_ => hs_.1.1.1) (fun hn_ => (.inr (Nat.le_trans (below_size (hB_ HB)) hn_))), hk_.2.1, hk_.2.2, Or.elim hk_.1 (fun hs_ => hs_.1.1.2) (fun hn_ => (fB_ aa k_ hn_)), Or.elim hk_.1 (fun hs_ => hs_.1.2) (fun hn_ => (fB_ ab k_ hn_)), Or.elim hk_.1 (fun hs_ => hs_.2) (fun hn_ => (fB_ ad k_ hn_))⟩)) (below_size (hB_ HB))); have bE := Aside0.mk (Kd.R_lower (Kd.R_newM (M := fun k_ => (w.heap.size ≤ k_)) (Kd.R_mono (ok' := fun k_ => True) ho1 (fun _ hk_ => trivial)) (below_size (hB_ HB)) (fun k_ h_ => h_)) (below_size (hB_ HB))); have bF := Aside0.mk (Kd.R_lower (Kd.R_newM (M := fun k_ => (w.heap.size ≤ k_)) (Kd.R_mono (ok' := fun k_ => True) ho2 (fun _ hk_ => trivial)) (below_size (hB_ HB)) (fun k_ h_ => h_)) (below_size (hB_ HB))); replace ab := bB_ ab hb; replace HB := hS_ HB hb; replace aa := bB_ aa hb; replace ad := bB_ ad hb; (try clear hb); (try clear ho0); (try clear ho1); (try clear ho2); obtain ⟨gg, gh, gi, gj, gk, iz, iA, iB, iC, iD⟩ := cz5_ (w := w70) ad; obtain ⟨bX, b4, eo72⟩ := Kd.R_slice bE.out; subst eo72; obtain ⟨cz, cH, eo73⟩ := Kd.R_slice bF.out; subst eo73))
      refine bodyPost_ret (results_tc rfl _ _ ae 34 #[.int .i64 aS, .int .u32 a0, .bool a8, .slice bX bg.length b4, .slice cz bo.length cH] (0, 0) _ rfl (by (with_reducible repeat (first | refine blk_drewN ?_ _ | refine blk_drew ?_ | refine blk_alloc ?_ _)); refine blk_put (cs := #[.int .i64 aS, .int .u32 a0, .bool a8, .slice bX bg.length b4, .slice none 0 0]) ?_ 4 _ rfl; refine blk_put (cs := #[.int .i64 aS, .int .u32 a0, .bool a8, .slice none 0 0, .slice none 0 0]) ?_ 3 _ rfl; refine blk_put (cs := #[.int .i64 aS, .int .u32 a0, .bool false, .slice none 0 0, .slice none 0 0]) ?_ 2 _ rfl; refine blk_put (cs := #[.int .i64 aS, .int .u32 0, .bool false, .slice none 0 0, .slice none 0 0]) ?_ 1 _ rfl; refine blk_put (cs := #[.int .i64 0, .int .u32 0, .bool false, .slice none 0 0, .slice none 0 0]) ?_ 0 _ rfl; (with_reducible repeat (first | refine blk_drewN ?_ _ | refine blk_drew ?_ | refine blk_alloc ?_ _)); exact ad.out) Tryd.underlying34 rfl (by kernel_rfl)) rfl ?_
      exact ⟨_, _, _, er_, by (with_reducible repeat (first | apply Kd.V_alloc | apply Kd.V_drewN | apply Kd.V_drew)); exact Kd.V_mono (vF5_ (g := ae) (Kd.V_mono cj.out (fun k_ hk => (⟨hk, hk.2.2.2.2.2⟩ : _ ∧ k_ ≠ ae))) (fun _ hk => hk.2)) (fun _ hk => ⟨hk.1.1, ⟨hk.1.2.1, hk.1.2.2.1⟩⟩), by (with_reducible repeat (first | apply Kd.R_alloc | apply Kd.R_drewN | apply Kd.R_drew)); exact Kd.R_mono (rF5_ (g := ae) (Kd.R_types bE.out ad.out (by decide)) (fun _ hk => hk.2)) (fun _ hk => hk.1.1), by (with_reducible repeat (first | apply Kd.R_alloc | apply Kd.R_drewN | apply Kd.R_drew)); exact Kd.R_mono (rF5_ (g := ae) (Kd.R_types bF.out ad.out (by decide)) (fun _ hk => hk.2)) (fun _ hk => hk.1.1), hB_ HB⟩
     ·rw [if_neg c57] at H
      have bO : (ac == 4) = false := beq_eq_false_iff_ne.mpr c57
      have cp : (ac != 4) = true := bne_iff_ne.mpr c57
      by_cases c74 : ac = 5
      ·rw [if_pos c74] at H
       have bP : (ac == 5) = true := beq_iff_eq.mpr c74
       have cq : (ac != 5) = false := bne_eq_false_iff_eq.mpr c74
       clear c74; replace H := bi_ H; obtain ⟨⟨ca, aT, a1, a9, bh, bp⟩, A750, H⟩ := H
       replace H : (some (ca, aT, a1, a9, bh, bp)) = some (r1, r2, r3, r4, r5, r6) := H
       have A75 := Aside0.mk A750; clear A750; simp only [Option.some.injEq, Prod.mk.injEq] at H; obtain ⟨rfl, rfl, rfl, rfl, rfl, rfl⟩ := H
       go_enter Tryd.func15, Tryd.ntmps15
       go_wp2_with (first | ((with_reducible refine gate_dst (N := 3) rfl ?_); refine box_event ?hg (N := 3) ?hd (cs := #[.int .u32 ai, .int .i64 aj, .slice az ag.length aB, .int .i64 ak, .int .i64 al, .int .i64 am, .int .i64 an]) (t := 27) ?hr ?_; (case hd => rfl); (case hg => rfl); (case hr => first | (go_simp; done) | (go_simp; rfl)); intro ax hg w76 hbox hb; replace af := vE_ af hg hb; have aa := Aside0.mk (hbox); have aL := gG_ hg HB; have aI := gG_ hg HB; replace HB := hS_ HB hb; clear hb hbox hg) | ((with_reducible refine gate_dst (N := 5) rfl ?_); refine box_event ?hg (N := 5) ?hd (cs := #[.int .i64 ac, .int .u32 ao, .slice aA ah.length aC]) (t := 30) ?hr ?_; (case hd => rfl); (case hg => rfl); (case hr => first | (go_simp; done) | (go_simp; rfl)); intro ay hg w77 hbox hb; replace af := vE_ af hg hb; have ab := Aside0.mk (hbox); have aM := gG_ hg HB; have aJ := gG_ hg HB; replace HB := hS_ HB hb; have ap := nL_ hg aa; have ar := nG_ hg aa; replace aa := bB_ aa hb; clear hb hbox hg) | ((with_reducible refine gate_dst (N := 7) rfl ?_); refine box_event ?hg (N := 7) ?hd (cs := #[.int .i64 0, .int .u32 0, .bool false, .slice none 0 0, .slice none 0 0]) (t := 34) ?hr ?_; (case hd => rfl); (case hg => rfl); (case hr => first | (go_simp; done) | (go_simp; rfl)); intro ae hg w78 hbox hb; replace af := vE_ af hg hb; have ad := Aside0.mk (hbox); have aN := gG_ hg HB; have aK := gG_ hg HB; have aq := nL_ hg aa; have av := nG_ hg aa; have au := nL_ hg ab; have aw := nG_ hg ab; replace ab := bB_ ab hb; replace aa := bB_ aa hb; replace HB := hS_ HB hb; clear hb hbox hg; have jz := ap.out; have jR := ar.out; have jA := aq.out; have jS := av.out; obtain ⟨gl, gm, gn, go, gp, gq, gr, iE, iF, iG, iH, iI, iJ, iK⟩ := cz7_ (w := w78) aa; have jB := au.out; have jT := aw.out; obtain ⟨gs, gt, gu, iL, iM, iN⟩ := cz3_ (w := w78) ab) | ((with_reducible refine gate_callee (f := 32) rfl ?_); refine gL_ (some 11) Tryd.func32 #[.agg #[.int .u32 ai, .int .i64 aj, .slice az ag.length aB, .int .i64 ak, .int .i64 al, .int .i64 am, .int .i64 an], .agg #[.int .i64 ac, .int .u32 ao, .slice aA ah.length aC]] ?_; (with_reducible refine (ask_Check.calls k ai aj _ _ ag ak al am an ac ao _ _ ah aD _ ?side1 ?side2 ?side3 ?side4 ?side5 A4.out).mono ?_); (case side1 => exact cC_ aG HB); (case side2 => exact aE.out); (case side3 => exact cC_ aH HB); (case side4 => exact aF.out); (case side5 => exact Lg_below HG.out (hB_ HB)); rintro e w84 ⟨rfl, hb⟩; refine ⟨_, rfl, ?_⟩; replace af := vB_ af hb; replace ab := bB_ ab hb; replace HB := hS_ HB hb; replace aa := bB_ aa hb; replace ad := bB_ ad hb; (try clear hb); obtain ⟨gv, gw, gx, iO, iP, iQ⟩ := cz3_ (w := w84) ab; obtain ⟨gy, gz, gA, gB, gC, gD, gE, iR, iS, iT, iU, iV, iW, iX⟩ := cz7_ (w := w84) aa; obtain ⟨bm_, hgm_, hlm_⟩ := Ld_at (Lg_below HG.out HB.out).2 (j := ac) (f := 78) (by have e_ := beq_iff_eq.mp bP; rw [e_]; simp [deeds])) | ((with_reducible refine gate_dst (N := 24) rfl ?_); refine goesV_ (some 24) rfl rfl Tryd.func78 (by kernel_rfl) rfl #[.agg #[.int .u32 ai, .int .i64 aj, .slice az ag.length aB, .int .i64 ak, .int .i64 al, .int .i64 am, .int .i64 an], .slice A1 l1.length c1, .agg #[.int .i64 ac, .int .u32 ao, .slice aA ah.length aC]] rfl (by first | rfl | (go_simp; done) | (go_simp; rfl)) am_ ?_; (with_reducible refine (spec_query.calls k ai aj _ _ ag ak al am an (fun k_ => ((((P1_ k_ ∨ w.heap.size ≤ k_) ∧ k_ ≠ ax) ∧ k_ ≠ ay) ∧ k_ ≠ ae)) _ _ l1 ac ao _ _ ah ca aT a1 a9 bh bp _ ?side1 ?side2 ?side3 ?side4 ?side5 A75.out).mono ?_); (case side1 => exact cC_ aG HB); (case side2 => exact aE.out); (case side3 => exact af.out); (case side4 => exact cC_ aH HB); (case side5 => exact aF.out); rintro e w87 ⟨v307, v313, v316, rfl, ho0, ho1, ho2, hb⟩; refine ⟨_, rfl, ?_⟩; replace af := Aside0.mk (Kd.V_mono (Kd.V_told (Kd.V_told (Kd.V_old (vV_ af) hb) (Kd.R_base ho1)) (Kd.R_base ho2)) (fun _ h_ => h_.1)); have ck := Aside0.mk (Kd.V_lower (Kd.V_mono (ok' := fun k_ => (P1_ k_ ∨ w.heap.size ≤ k_) ∧ some k_ ≠ (v313 : Value).ownBlock ∧ some k_ ≠ (v316 : Value).ownBlock ∧ k_ ≠ ax ∧ k_ ≠ ay ∧ k_ ≠ ae) ho0 (fun k_ hk_ => ⟨Or.elim hk_.1 (fun hs_ => hs_.1.1.1) (fun hn_ => (.inr (Nat.le_trans (below_size (hB_ HB)) hn_))), hk_.2.1, hk_.2.2, Or.elim hk_.1 (fun hs_ => hs_.1.1.2) (fun hn_ => (fB_ aa k_ hn_)), Or.elim hk_.1 (fun hs_ => hs_.1.2) (fun hn_ => (fB_ ab k_ hn_)), Or.elim hk_.1 (fun hs_ => hs_.2) (fun hn_ => (fB_ ad k_ hn_))⟩)) (below_size (hB_ HB))); have bG := Aside0.mk (Kd.R_lower (Kd.R_newM (M := fun k_ => (w.heap.size ≤ k_)) (Kd.R_mono (ok' := fun k_ => True) ho1 (fun _ hk_ => trivial)) (below_size (hB_ HB)) (fun k_ h_ => h_)) (below_size (hB_ HB))); have bH := Aside0.mk (Kd.R_lower (Kd.R_newM (M := fun k_ => (w.heap.size ≤ k_)) (Kd.R_mono (ok' := fun k_ => True) ho2 (fun _ hk_ => trivial)) (below_size (hB_ HB)) (fun k_ h_ => h_)) (below_size (hB_ HB))); replace ab := bB_ ab hb; replace HB := hS_ HB hb; replace aa := bB_ aa hb; replace ad := bB_ ad hb; (try clear hb); (try clear ho0); (try clear ho1); (try clear ho2); obtain ⟨gF, gG, gH, gI, gJ, iY, iZ, i0, i1, i2⟩ := cz5_ (w := w87) ad; obtain ⟨bY, b5, eo89⟩ := Kd.R_slice bG.out; subst eo89; obtain ⟨cA, cI, eo90⟩ := Kd.R_slice bH.out; subst eo90))
       refine bodyPost_ret (results_tc rfl _ _ ae 34 #[.int .i64 aT, .int .u32 a1, .bool a9, .slice bY bh.length b5, .slice cA bp.length cI] (0, 0) _ rfl (by (with_reducible repeat (first | refine blk_drewN ?_ _ | refine blk_drew ?_ | refine blk_alloc ?_ _)); refine blk_put (cs := #[.int .i64 aT, .int .u32 a1, .bool a9, .slice bY bh.length b5, .slice none 0 0]) ?_ 4 _ rfl; refine blk_put (cs := #[.int .i64 aT, .int .u32 a1, .bool a9, .slice none 0 0, .slice none 0 0]) ?_ 3 _ rfl; refine blk_put (cs := #[.int .i64 aT, .int .u32 a1, .bool false, .slice none 0 0, .slice none 0 0]) ?_ 2 _ rfl; refine blk_put (cs := #[.int .i64 aT, .int .u32 0, .bool false, .slice none 0 0, .slice none 0 0]) ?_ 1 _ rfl; refine blk_put (cs := #[.int .i64 0, .int .u32 0, .bool false, .slice none 0 0, .slice none 0 0]) ?_ 0 _ rfl; (with_reducible repeat (first | refine blk_drewN ?_ _ | refine blk_drew ?_ | refine blk_alloc ?_ _)); exact ad.out) Tryd.underlying34 rfl (by kernel_rfl)) rfl ?_
       exact ⟨_, _, _, er_, by (with_reducible repeat (first | apply Kd.V_alloc | apply Kd.V_drewN | apply Kd.V_drew)); exact Kd.V_mono (vF5_ (g := ae) (Kd.V_mono ck.out (fun k_ hk => (⟨hk, hk.2.2.2.2.2⟩ : _ ∧ k_ ≠ ae))) (fun _ hk => hk.2)) (fun _ hk => ⟨hk.1.1, ⟨hk.1.2.1, hk.1.2.2.1⟩⟩), by (with_reducible repeat (first | apply Kd.R_alloc | apply Kd.R_drewN | apply Kd.R_drew)); exact Kd.R_mono (rF5_ (g := ae) (Kd.R_types bG.out ad.out (by decide)) (fun _ hk => hk.2)) (fun _ hk => hk.1.1), by (with_reducible repeat (first | apply Kd.R_alloc | apply Kd.R_drewN | apply Kd.R_drew)); exact Kd.R_mono (rF5_ (g := ae) (Kd.R_types bH.out ad.out (by decide)) (fun _ hk => hk.2)) (fun _ hk => hk.1.1), hB_ HB⟩
      ·rw [if_neg c74] at H
       have bP : (ac == 5) = false := beq_eq_false_iff_ne.mpr c74
       have cq : (ac != 5) = true := bne_iff_ne.mpr c74
       by_cases c91 : ac = 6
       ·rw [if_pos c91] at H
        have bQ : (ac == 6) = true := beq_iff_eq.mpr c91
        have cr : (ac != 6) = false := bne_eq_false_iff_eq.mpr c91
        clear c91; replace H := bi_ H; obtain ⟨⟨cb, aU, a2, ba, bi, bq⟩, A920, H⟩ := H
        replace H : (some (cb, aU, a2, ba, bi, bq)) = some (r1, r2, r3, r4, r5, r6) := H
        have A92 := Aside0.mk A920; clear A920; simp only [Option.some.injEq, Prod.mk.injEq] at H; obtain ⟨rfl, rfl, rfl, rfl, rfl, rfl⟩ := H
        go_enter Tryd.func15, Tryd.ntmps15
        go_wp2_with (first | ((with_reducible refine gate_dst (N := 3) rfl ?_); refine box_event ?hg (N := 3) ?hd (cs := #[.int .u32 ai, .int .i64 aj, .slice az ag.length aB, .int .i64 ak, .int .i64 al, .int .i64 am, .int .i64 an]) (t := 27) ?hr ?_; (case hd => rfl); (case hg => rfl); (case hr => first | (go_simp; done) | (go_simp; rfl)); intro ax hg w93 hbox hb; replace af := vE_ af hg hb; have aa := Aside0.mk (hbox); have aL := gG_ hg HB; have aI := gG_ hg HB; replace HB := hS_ HB hb; clear hb hbox hg) | ((with_reducible refine gate_dst (N := 5) rfl ?_); refine box_event ?hg (N := 5) ?hd (cs := #[.int .i64 ac, .int .u32 ao, .slice aA ah.length aC]) (t := 30) ?hr ?_; (case hd => rfl); (case hg => rfl); (case hr => first | (go_simp; done) | (go_simp; rfl)); intro ay hg w94 hbox hb; replace af := vE_ af hg hb; have ab := Aside0.mk (hbox); have aM := gG_ hg HB; have aJ := gG_ hg HB; replace HB := hS_ HB hb; have ap := nL_ hg aa; have ar := nG_ hg aa; replace aa := bB_ aa hb; clear hb hbox hg) | ((with_reducible refine gate_dst (N := 7) rfl ?_); refine box_event ?hg (N := 7) ?hd (cs := #[.int .i64 0, .int .u32 0, .bool false, .slice none 0 0, .slice none 0 0]) (t := 34) ?hr ?_; (case hd => rfl); (case hg => rfl); (case hr => first | (go_simp; done) | (go_simp; rfl)); intro ae hg w95 hbox hb; replace af := vE_ af hg hb; have ad := Aside0.mk (hbox); have aN := gG_ hg HB; have aK := gG_ hg HB; have aq := nL_ hg aa; have av := nG_ hg aa; have au := nL_ hg ab; have aw := nG_ hg ab; replace ab := bB_ ab hb; replace aa := bB_ aa hb; replace HB := hS_ HB hb; clear hb hbox hg; have jC := ap.out; have jU := ar.out; have jD := aq.out; have jV := av.out; obtain ⟨gK, gL, gM, gN, gO, gP, gQ, i3, i4, i5, i6, i7, i8, i9⟩ := cz7_ (w := w95) aa; have jE := au.out; have jW := aw.out; obtain ⟨cJ, cK, cL, dK, dL, dM⟩ := cz3_ (w := w95) ab) | ((with_reducible refine gate_callee (f := 32) rfl ?_); refine gL_ (some 11) Tryd.func32 #[.agg #[.int .u32 ai, .int .i64 aj, .slice az ag.length aB, .int .i64 ak, .int .i64 al, .int .i64 am, .int .i64 an], .agg #[.int .i64 ac, .int .u32 ao, .slice aA ah.length aC]] ?_; (with_reducible refine (ask_Check.calls k ai aj _ _ ag ak al am an ac ao _ _ ah aD _ ?side1 ?side2 ?side3 ?side4 ?side5 A4.out).mono ?_); (case side1 => exact cC_ aG HB); (case side2 => exact aE.out); (case side3 => exact cC_ aH HB); (case side4 => exact aF.out); (case side5 => exact Lg_below HG.out (hB_ HB)); rintro e w101 ⟨rfl, hb⟩; refine ⟨_, rfl, ?_⟩; replace af := vB_ af hb; replace ab := bB_ ab hb; replace HB := hS_ HB hb; replace aa := bB_ aa hb; replace ad := bB_ ad hb; (try clear hb); obtain ⟨cM, cN, cO, dN, dO, dP⟩ := cz3_ (w := w101) ab; obtain ⟨cP, cQ, cR, cS, cT, cU, cV, dQ, dR, dS, dT, dU, dV, dW⟩ := cz7_ (w := w101) aa; obtain ⟨bm_, hgm_, hlm_⟩ := Ld_at (Lg_below HG.out HB.out).2 (j := ac) (f := 79) (by have e_ := beq_iff_eq.mp bQ; rw [e_]; simp [deeds])) | ((with_reducible refine gate_dst (N := 24) rfl ?_); refine goesV_ (some 24) rfl rfl Tryd.func79 (by kernel_rfl) rfl #[.agg #[.int .u32 ai, .int .i64 aj, .slice az ag.length aB, .int .i64 ak, .int .i64 al, .int .i64 am, .int .i64 an], .slice A1 l1.length c1, .agg #[.int .i64 ac, .int .u32 ao, .slice aA ah.length aC]] rfl (by first | rfl | (go_simp; done) | (go_simp; rfl)) am_ ?_; (with_reducible refine (spec_snapshot.calls k ai aj _ _ ag ak al am an (fun k_ => ((((P1_ k_ ∨ w.heap.size ≤ k_) ∧ k_ ≠ ax) ∧ k_ ≠ ay) ∧ k_ ≠ ae)) _ _ l1 ac ao _ _ ah cb aU a2 ba bi bq _ ?side1 ?side2 ?side3 ?side4 ?side5 A92.out).mono ?_); (case side1 => exact cC_ aG HB); (case side2 => exact aE.out); (case side3 => exact af.out); (case side4 => exact cC_ aH HB); (case side5 => exact aF.out); rintro e w104 ⟨v319, v325, v328, rfl, ho0, ho1, ho2, hb⟩; refine ⟨_, rfl, ?_⟩; replace af := Aside0.mk (Kd.V_mono (Kd.V_told (Kd.V_told (Kd.V_old (vV_ af) hb) (Kd.R_base ho1)) (Kd.R_base ho2)) (fun _ h_ => h_.1)); have cl := Aside0.mk (Kd.V_lower (Kd.V_mono (ok' := fun k_ => (P1_ k_ ∨ w.heap.size ≤ k_) ∧ some k_ ≠ (v325 : Value).ownBlock ∧ some k_ ≠ (v328 : Value).ownBlock ∧ k_ ≠ ax ∧ k_ ≠ ay ∧ k_ ≠ ae) ho0 (fun k_ hk_ => ⟨Or.elim hk_.1 (fun hs_ => hs_.1.1.1) (fun hn_ => (.inr (Nat.le_trans (below_size (hB_ HB)) hn_))), hk_.2.1, hk_.2.2, Or.elim hk_.1 (fun hs_ => hs_.1.1.2) (fun hn_ => (fB_ aa k_ hn_)), Or.elim hk_.1 (fun hs_ => hs_.1.2) (fun hn_ => (fB_ ab k_ hn_)), Or.elim hk_.1 (fun hs_ => hs_.2) (fun hn_ => (fB_ ad k_ hn_))⟩)) (below_size (hB_ HB))); have bI := Aside0.mk (Kd.R_lower (Kd.R_newM (M := fun k_ => (w.heap.size ≤ k_)) (Kd.R_mono (ok' := fun k_ => True) ho1 (fun _ hk_ => trivial)) (below_size (hB_ HB)) (fun k_ h_ => h_)) (below_size (hB_ HB))); have bJ := Aside0.mk (Kd.R_lower (Kd.R_newM (M := fun k_ => (w.heap.size ≤ k_)) (Kd.R_mono (ok' := fun k_ => True) ho2 (fun _ hk_ => trivial)) (below_size (hB_ HB)) (fun k_ h_ => h_)) (below_size (hB_ HB))); replace ab := bB_ ab hb; replace HB := hS_ HB hb; replace aa := bB_ aa hb; replace ad := bB_ ad hb; (try clear hb); (try clear ho0); (try clear ho1); (try clear ho2); obtain ⟨cW, cX, cY, cZ, c0, dX, dY, dZ, d0, d1⟩ := cz5_ (w := w104) ad; obtain ⟨bs, bR, eo106⟩ := Kd.R_slice bI.out; subst eo106; obtain ⟨cd, ct, eo107⟩ := Kd.R_slice bJ.out; subst eo107))
        refine bodyPost_ret (results_tc rfl _ _ ae 34 #[.int .i64 aU, .int .u32 a2, .bool ba, .slice bs bi.length bR, .slice cd bq.length ct] (0, 0) _ rfl (by (with_reducible repeat (first | refine blk_drewN ?_ _ | refine blk_drew ?_ | refine blk_alloc ?_ _)); refine blk_put (cs := #[.int .i64 aU, .int .u32 a2, .bool ba, .slice bs bi.length bR, .slice none 0 0]) ?_ 4 _ rfl; refine blk_put (cs := #[.int .i64 aU, .int .u32 a2, .bool ba, .slice none 0 0, .slice none 0 0]) ?_ 3 _ rfl; refine blk_put (cs := #[.int .i64 aU, .int .u32 a2, .bool false, .slice none 0 0, .slice none 0 0]) ?_ 2 _ rfl; refine blk_put (cs := #[.int .i64 aU, .int .u32 0, .bool false, .slice none 0 0, .slice none 0 0]) ?_ 1 _ rfl; refine blk_put (cs := #[.int .i64 0, .int .u32 0, .bool false, .slice none 0 0, .slice none 0 0]) ?_ 0 _ rfl; (with_reducible repeat (first | refine blk_drewN ?_ _ | refine blk_drew ?_ | refine blk_alloc ?_ _)); exact ad.out) Tryd.underlying34 rfl (by kernel_rfl)) rfl ?_
        exact ⟨_, _, _, er_, by (with_reducible repeat (first | apply Kd.V_alloc | apply Kd.V_drewN | apply Kd.V_drew)); exact Kd.V_mono (vF5_ (g := ae) (Kd.V_mono cl.out (fun k_ hk => (⟨hk, hk.2.2.2.2.2⟩ : _ ∧ k_ ≠ ae))) (fun _ hk => hk.2)) (fun _ hk => ⟨hk.1.1, ⟨hk.1.2.1, hk.1.2.2.1⟩⟩), by (with_reducible repeat (first | apply Kd.R_alloc | apply Kd.R_drewN | apply Kd.R_drew)); exact Kd.R_mono (rF5_ (g := ae) (Kd.R_types bI.out ad.out (by decide)) (fun _ hk => hk.2)) (fun _ hk => hk.1.1), by (with_reducible repeat (first | apply Kd.R_alloc | apply Kd.R_drewN | apply Kd.R_drew)); exact Kd.R_mono (rF5_ (g := ae) (Kd.R_types bJ.out ad.out (by decide)) (fun _ hk => hk.2)) (fun _ hk => hk.1.1), hB_ HB⟩
       ·rw [if_neg c91] at H
        have bQ : (ac == 6) = false := beq_eq_false_iff_ne.mpr c91
        have cr : (ac != 6) = true := bne_iff_ne.mpr c91
        by_cases c777 : ac = 7
        rotate_left
        ·rw [if_neg c777] at H
         exact absurd H (by simp)
        rw [if_pos c777] at H
        have b0 : (ac == 7) = true := beq_iff_eq.mpr c777
        clear c777; replace H := bi_ H; obtain ⟨⟨cc, aV, a3, bb, bj, br⟩, A1080, H⟩ := H
        replace H : (some (cc, aV, a3, bb, bj, br)) = some (r1, r2, r3, r4, r5, r6) := H
        have A108 := Aside0.mk A1080; clear A1080; simp only [Option.some.injEq, Prod.mk.injEq] at H; obtain ⟨rfl, rfl, rfl, rfl, rfl, rfl⟩ := H
        go_enter Tryd.func15, Tryd.ntmps15
        go_wp2_with (first | ((with_reducible refine gate_dst (N := 3) rfl ?_); refine box_event ?hg (N := 3) ?hd (cs := #[.int .u32 ai, .int .i64 aj, .slice az ag.length aB, .int .i64 ak, .int .i64 al, .int .i64 am, .int .i64 an]) (t := 27) ?hr ?_; (case hd => rfl); (case hg => rfl); (case hr => first | (go_simp; done) | (go_simp; rfl)); intro ax hg w109 hbox hb; replace af := vE_ af hg hb; have aa := Aside0.mk (hbox); have aL := gG_ hg HB; have aI := gG_ hg HB; replace HB := hS_ HB hb; clear hb hbox hg) | ((with_reducible refine gate_dst (N := 5) rfl ?_); refine box_event ?hg (N := 5) ?hd (cs := #[.int .i64 ac, .int .u32 ao, .slice aA ah.length aC]) (t := 30) ?hr ?_; (case hd => rfl); (case hg => rfl); (case hr => first | (go_simp; done) | (go_simp; rfl)); intro ay hg w110 hbox hb; replace af := vE_ af hg hb; have ab := Aside0.mk (hbox); have aM := gG_ hg HB; have aJ := gG_ hg HB; replace HB := hS_ HB hb; have ap := nL_ hg aa; have ar := nG_ hg aa; replace aa := bB_ aa hb; clear hb hbox hg) | ((with_reducible refine gate_dst (N := 7) rfl ?_); refine box_event ?hg (N := 7) ?hd (cs := #[.int .i64 0, .int .u32 0, .bool false, .slice none 0 0, .slice none 0 0]) (t := 34) ?hr ?_; (case hd => rfl); (case hg => rfl); (case hr => first | (go_simp; done) | (go_simp; rfl)); intro ae hg w111 hbox hb; replace af := vE_ af hg hb; have ad := Aside0.mk (hbox); have aN := gG_ hg HB; have aK := gG_ hg HB; have aq := nL_ hg aa; have av := nG_ hg aa; have au := nL_ hg ab; have aw := nG_ hg ab; replace ab := bB_ ab hb; replace aa := bB_ aa hb; replace HB := hS_ HB hb; clear hb hbox hg; have ja := ap.out; have jg := ar.out; have jb := aq.out; have jh := av.out; obtain ⟨c2, c3, c4, c7, c8, c9, da, d2, d3, d4, d5, d6, d7, d8⟩ := cz7_ (w := w111) aa; have jc := au.out; have ji := aw.out; obtain ⟨db, dc, dd, d9, ea, eb⟩ := cz3_ (w := w111) ab) | ((with_reducible refine gate_callee (f := 32) rfl ?_); refine gL_ (some 11) Tryd.func32 #[.agg #[.int .u32 ai, .int .i64 aj, .slice az ag.length aB, .int .i64 ak, .int .i64 al, .int .i64 am, .int .i64 an], .agg #[.int .i64 ac, .int .u32 ao, .slice aA ah.length aC]] ?_; (with_reducible refine (ask_Check.calls k ai aj _ _ ag ak al am an ac ao _ _ ah aD _ ?side1 ?side2 ?side3 ?side4 ?side5 A4.out).mono ?_); (case side1 => exact cC_ aG HB); (case side2 => exact aE.out); (case side3 => exact cC_ aH HB); (case side4 => exact aF.out); (case side5 => exact Lg_below HG.out (hB_ HB)); rintro e w117 ⟨rfl, hb⟩; refine ⟨_, rfl, ?_⟩; replace af := vB_ af hb; replace ab := bB_ ab hb; replace HB := hS_ HB hb; replace aa := bB_ aa hb; replace ad := bB_ ad hb; (try clear hb); obtain ⟨de, df, dg, ec, ed, ee⟩ := cz3_ (w := w117) ab; obtain ⟨dh, di, dj, dk, dl, dm, dn, ef, eg, eh, ei, ej, ek, el⟩ := cz7_ (w := w117) aa; obtain ⟨bm_, hgm_, hlm_⟩ := Ld_at (Lg_below HG.out HB.out).2 (j := ac) (f := 80) (by have e_ := beq_iff_eq.mp b0; rw [e_]; simp [deeds])) | ((with_reducible refine gate_dst (N := 24) rfl ?_); refine goesV_ (some 24) rfl rfl Tryd.func80 (by kernel_rfl) rfl #[.agg #[.int .u32 ai, .int .i64 aj, .slice az ag.length aB, .int .i64 ak, .int .i64 al, .int .i64 am, .int .i64 an], .slice A1 l1.length c1, .agg #[.int .i64 ac, .int .u32 ao, .slice aA ah.length aC]] rfl (by first | rfl | (go_simp; done) | (go_simp; rfl)) am_ ?_; (with_reducible refine (spec_closing.calls ai aj _ _ ag ak al am an (fun k_ => ((((P1_ k_ ∨ w.heap.size ≤ k_) ∧ k_ ≠ ax) ∧ k_ ≠ ay) ∧ k_ ≠ ae)) _ _ l1 ac ao _ _ ah cc aV a3 bb bj br _ ?side1 ?side2 ?side3 ?side4 ?side5 A108.out).mono ?_); (case side1 => exact cC_ aG HB); (case side2 => exact aE.out); (case side3 => exact af.out); (case side4 => exact cC_ aH HB); (case side5 => exact aF.out); rintro e w120 ⟨v331, v337, v340, rfl, ho0, ho1, ho2, hb⟩; refine ⟨_, rfl, ?_⟩; replace af := Aside0.mk (Kd.V_mono (Kd.V_told (Kd.V_told (Kd.V_old (vV_ af) hb) (Kd.R_base ho1)) (Kd.R_base ho2)) (fun _ h_ => h_.1)); have cm := Aside0.mk (Kd.V_lower (Kd.V_mono (ok' := fun k_ => (P1_ k_ ∨ w.heap.size ≤ k_) ∧ some k_ ≠ (v337 : Value).ownBlock ∧ some k_ ≠ (v340 : Value).ownBlock ∧ k_ ≠ ax ∧ k_ ≠ ay ∧ k_ ≠ ae) ho0 (fun k_ hk_ => ⟨Or.elim hk_.1 (fun hs_ => hs_.1.1.1) (fun hn_ => (.inr (Nat.le_trans (below_size (hB_ HB)) hn_))), hk_.2.1, hk_.2.2, Or.elim hk_.1 (fun hs_ => hs_.1.1.2) (fun hn_ => (fB_ aa k_ hn_)), Or.elim hk_.1 (fun hs_ => hs_.1.2) (fun hn_ => (fB_ ab k_ hn_)), Or.elim hk_.1 (fun hs_ => hs_.2) (fun hn_ => (fB_ ad k_ hn_))⟩)) (below_size (hB_ HB))); have bK := Aside0.mk (Kd.R_lower (Kd.R_newM (M := fun k_ => (w.heap.size ≤ k_)) (Kd.R_mono (ok' := fun k_ => True) ho1 (fun _ hk_ => trivial)) (below_size (hB_ HB)) (fun k_ h_ => h_)) (below_size (hB_ HB))); have bL := Aside0.mk (Kd.R_lower (Kd.R_newM (M := fun k_ => (w.heap.size ≤ k_)) (Kd.R_mono (ok' := fun k_ => True) ho2 (fun _ hk_ => trivial)) (below_size (hB_ HB)) (fun k_ h_ => h_)) (below_size (hB_ HB))); replace ab := bB_ ab hb; replace HB := hS_ HB hb; replace aa := bB_ aa hb; replace ad := bB_ ad hb; (try clear hb); (try clear ho0); (try clear ho1); (try clear ho2); obtain ⟨dp, dq, dr, dt, du, em, en, eo, ep, er⟩ := cz5_ (w := w120) ad; obtain ⟨bt, bS, eo122⟩ := Kd.R_slice bK.out; subst eo122; obtain ⟨ce, cu, eo123⟩ := Kd.R_slice bL.out; subst eo123))
        refine bodyPost_ret (results_tc rfl _ _ ae 34 #[.int .i64 aV, .int .u32 a3, .bool bb, .slice bt bj.length bS, .slice ce br.length cu] (0, 0) _ rfl (by (with_reducible repeat (first | refine blk_drewN ?_ _ | refine blk_drew ?_ | refine blk_alloc ?_ _)); refine blk_put (cs := #[.int .i64 aV, .int .u32 a3, .bool bb, .slice bt bj.length bS, .slice none 0 0]) ?_ 4 _ rfl; refine blk_put (cs := #[.int .i64 aV, .int .u32 a3, .bool bb, .slice none 0 0, .slice none 0 0]) ?_ 3 _ rfl; refine blk_put (cs := #[.int .i64 aV, .int .u32 a3, .bool false, .slice none 0 0, .slice none 0 0]) ?_ 2 _ rfl; refine blk_put (cs := #[.int .i64 aV, .int .u32 0, .bool false, .slice none 0 0, .slice none 0 0]) ?_ 1 _ rfl; refine blk_put (cs := #[.int .i64 0, .int .u32 0, .bool false, .slice none 0 0, .slice none 0 0]) ?_ 0 _ rfl; (with_reducible repeat (first | refine blk_drewN ?_ _ | refine blk_drew ?_ | refine blk_alloc ?_ _)); exact ad.out) Tryd.underlying34 rfl (by kernel_rfl)) rfl ?_
        exact ⟨_, _, _, er_, by (with_reducible repeat (first | apply Kd.V_alloc | apply Kd.V_drewN | apply Kd.V_drew)); exact Kd.V_mono (vF5_ (g := ae) (Kd.V_mono cm.out (fun k_ hk => (⟨hk, hk.2.2.2.2.2⟩ : _ ∧ k_ ≠ ae))) (fun _ hk => hk.2)) (fun _ hk => ⟨hk.1.1, ⟨hk.1.2.1, hk.1.2.2.1⟩⟩), by (with_reducible repeat (first | apply Kd.R_alloc | apply Kd.R_drewN | apply Kd.R_drew)); exact Kd.R_mono (rF5_ (g := ae) (Kd.R_types bK.out ad.out (by decide)) (fun _ hk => hk.2)) (fun _ hk => hk.1.1), by (with_reducible repeat (first | apply Kd.R_alloc | apply Kd.R_drewN | apply Kd.R_drew)); exact Kd.R_mono (rF5_ (g := ae) (Kd.R_types bL.out ad.out (by decide)) (fun _ hk => hk.2)) (fun _ hk => hk.1.1), hB_ HB⟩
 ·rw [if_neg c5] at H
  have cB : (aD == 0) = false := beq_eq_false_iff_ne.mpr c5
  have cC : (aD != 0) = true := bne_iff_ne.mpr c5
  replace H := bi_ H; obtain ⟨⟨aO, aW, a4, bc, bk⟩, A1240, H⟩ := H
  replace H : (some (l1, aO, aW, a4, bc, bk)) = some (r1, r2, r3, r4, r5, r6) := H
  have A124 := Aside0.mk A1240; clear A1240; simp only [Option.some.injEq, Prod.mk.injEq] at H; obtain ⟨rfl, rfl, rfl, rfl, rfl, rfl⟩ := H
  go_enter Tryd.func15, Tryd.ntmps15
  go_wp2_with (first | ((with_reducible refine gate_dst (N := 3) rfl ?_); refine box_event ?hg (N := 3) ?hd (cs := #[.int .u32 ai, .int .i64 aj, .slice az ag.length aB, .int .i64 ak, .int .i64 al, .int .i64 am, .int .i64 an]) (t := 27) ?hr ?_; (case hd => rfl); (case hg => rfl); (case hr => first | (go_simp; done) | (go_simp; rfl)); intro ax hg w125 hbox hb; replace af := vE_ af hg hb; have aa := Aside0.mk (hbox); have aL := gG_ hg HB; have aI := gG_ hg HB; replace HB := hS_ HB hb; clear hb hbox hg) | ((with_reducible refine gate_dst (N := 5) rfl ?_); refine box_event ?hg (N := 5) ?hd (cs := #[.int .i64 ac, .int .u32 ao, .slice aA ah.length aC]) (t := 30) ?hr ?_; (case hd => rfl); (case hg => rfl); (case hr => first | (go_simp; done) | (go_simp; rfl)); intro ay hg w126 hbox hb; replace af := vE_ af hg hb; have ab := Aside0.mk (hbox); have aM := gG_ hg HB; have aJ := gG_ hg HB; replace HB := hS_ HB hb; have ap := nL_ hg aa; have ar := nG_ hg aa; replace aa := bB_ aa hb; clear hb hbox hg) | ((with_reducible refine gate_dst (N := 7) rfl ?_); refine box_event ?hg (N := 7) ?hd (cs := #[.int .i64 0, .int .u32 0, .bool false, .slice none 0 0, .slice none 0 0]) (t := 34) ?hr ?_; (case hd => rfl); (case hg => rfl); (case hr => first | (go_simp; done) | (go_simp; rfl)); intro ae hg w127 hbox hb; replace af := vE_ af hg hb; have ad := Aside0.mk (hbox); have aN := gG_ hg HB; have aK := gG_ hg HB; have aq := nL_ hg aa; have av := nG_ hg aa; have au := nL_ hg ab; have aw := nG_ hg ab; replace ab := bB_ ab hb; replace aa := bB_ aa hb; replace HB := hS_ HB hb; clear hb hbox hg; have jd := ap.out; have jj := ar.out; have je := aq.out; have jk := av.out; obtain ⟨dv, dw, dx, dy, dz, dA, dB, et, eu, ev, ew, ex, ey, ez⟩ := cz7_ (w := w127) aa; have jf := au.out; have jl := aw.out; obtain ⟨dC, dD, dE, eA, eB, eC⟩ := cz3_ (w := w127) ab) | ((with_reducible refine gate_callee (f := 32) rfl ?_); refine gL_ (some 11) Tryd.func32 #[.agg #[.int .u32 ai, .int .i64 aj, .slice az ag.length aB, .int .i64 ak, .int .i64 al, .int .i64 am, .int .i64 an], .agg #[.int .i64 ac, .int .u32 ao, .slice aA ah.length aC]] ?_; (with_reducible refine (ask_Check.calls k ai aj _ _ ag ak al am an ac ao _ _ ah aD _ ?side1 ?side2 ?side3 ?side4 ?side5 A4.out).mono ?_); (case side1 => exact cC_ aG HB); (case side2 => exact aE.out); (case side3 => exact cC_ aH HB); (case side4 => exact aF.out); (case side5 => exact Lg_below HG.out (hB_ HB)); rintro e w133 ⟨rfl, hb⟩; refine ⟨_, rfl, ?_⟩; replace af := vB_ af hb; replace HB := hS_ HB hb; replace ad := bB_ ad hb; (try clear hb)) | ((with_reducible refine gate_callee (f := 31) rfl ?_); refine gL_ (some 16) Tryd.func31 #[.int .i64 aD] ?_; (with_reducible refine (spec_fail.calls aD aO aW a4 bc bk _ A124.out).mono ?_); rintro e w134 ⟨v253, v256, rfl, ho0, ho1, hb⟩; refine ⟨_, rfl, ?_⟩; replace af := Aside0.mk (Kd.V_mono (Kd.V_told (Kd.V_told (Kd.V_old (vV_ af) hb) (Kd.R_base ho0)) (Kd.R_base ho1)) (fun _ h_ => h_.1)); have bv := Aside0.mk (Kd.R_lower (Kd.R_newM (M := fun k_ => (w.heap.size ≤ k_)) ho0 (below_size (hB_ HB)) (fun k_ h_ => h_)) (below_size (hB_ HB))); have bw := Aside0.mk (Kd.R_lower (Kd.R_newM (M := fun k_ => (w.heap.size ≤ k_)) ho1 (below_size (hB_ HB)) (fun k_ h_ => h_)) (below_size (hB_ HB))); replace HB := hS_ HB hb; replace ad := bB_ ad hb; (try clear hb); (try clear ho0); (try clear ho1); obtain ⟨dF, dG, dH, dI, dJ, eD, eE, eF, eG, eH⟩ := cz5_ (w := w134) ad; obtain ⟨bu, bT, eo136⟩ := Kd.R_slice bv.out; subst eo136; obtain ⟨cf, cv, eo137⟩ := Kd.R_slice bw.out; subst eo137))
  refine bodyPost_ret (results_tc rfl _ _ ae 34 #[.int .i64 aO, .int .u32 aW, .bool a4, .slice bu bc.length bT, .slice cf bk.length cv] (0, 0) _ rfl (by (with_reducible repeat (first | refine blk_drewN ?_ _ | refine blk_drew ?_ | refine blk_alloc ?_ _)); refine blk_put (cs := #[.int .i64 aO, .int .u32 aW, .bool a4, .slice bu bc.length bT, .slice none 0 0]) ?_ 4 _ rfl; refine blk_put (cs := #[.int .i64 aO, .int .u32 aW, .bool a4, .slice none 0 0, .slice none 0 0]) ?_ 3 _ rfl; refine blk_put (cs := #[.int .i64 aO, .int .u32 aW, .bool false, .slice none 0 0, .slice none 0 0]) ?_ 2 _ rfl; refine blk_put (cs := #[.int .i64 aO, .int .u32 0, .bool false, .slice none 0 0, .slice none 0 0]) ?_ 1 _ rfl; refine blk_put (cs := #[.int .i64 0, .int .u32 0, .bool false, .slice none 0 0, .slice none 0 0]) ?_ 0 _ rfl; (with_reducible repeat (first | refine blk_drewN ?_ _ | refine blk_drew ?_ | refine blk_alloc ?_ _)); exact ad.out) Tryd.underlying34 rfl (by kernel_rfl)) rfl ?_
  exact ⟨_, _, _, er_, by (with_reducible repeat (first | apply Kd.V_alloc | apply Kd.V_drewN | apply Kd.V_drew)); exact Kd.V_mono (vF5_ (g := ae) (Kd.V_mono af.out (fun k_ hk => (⟨hk, hk.1.1.2⟩ : _ ∧ k_ ≠ ae))) (fun _ hk => hk.2)) (fun _ hk => ⟨hk.1.1.1.1.1.1, ⟨hk.1.1.2, hk.1.2⟩⟩), by (with_reducible repeat (first | apply Kd.R_alloc | apply Kd.R_drewN | apply Kd.R_drew)); exact Kd.R_mono (rF5_ (g := ae) (Kd.R_types bv.out ad.out (by decide)) (fun _ hk => hk.2)) (fun _ hk => hk.1.1), by (with_reducible repeat (first | apply Kd.R_alloc | apply Kd.R_drewN | apply Kd.R_drew)); exact Kd.R_mono (rF5_ (g := ae) (Kd.R_types bw.out ad.out (by decide)) (fun _ hk => hk.2)) (fun _ hk => hk.1.1), hB_ HB⟩

/-! ### slices_Equal_uint32_uint32: function 41 -/
def slices_Equal_uint32_uint32.l0 : Nat → List Int → List Int → Int → Int → Option (Bool)
 | 0, _, _, _, _ => none
 | k + 1, x0, x1, x12, x13 => if x13 < x12 then (if 0 ≤ x13 then (if x13 < (x0.length : Int) then (if x13 < (x1.length : Int) then (if (rd x0 x13) = (rd x1 x13) then (slices_Equal_uint32_uint32.l0 k x0 x1 x12 (wrap64 (x13 + 1))) else (some false)) else (none)) else (none)) else (none)) else (some true)
def slices_Equal_uint32_uint32.f (k : Nat) (l0 l1 : List Int) : Option (Bool) := if (l0.length : Int) = (l1.length : Int) then (slices_Equal_uint32_uint32.l0 k l0 l1 (l0.length : Int) 0) else (some false)
theorem slices_Equal_uint32_uint32.mono_l : ∀ k, (∀ y0 y1 y2 y3, LeO (slices_Equal_uint32_uint32.l0 k y0 y1 y2 y3) (slices_Equal_uint32_uint32.l0 (k + 1) y0 y1 y2 y3))
 | 0 => fun _ _ _ _ r h => by simp [slices_Equal_uint32_uint32.l0] at h
 | k + 1 => by
  have ih0 := slices_Equal_uint32_uint32.mono_l k
  ·intro y0 y1 y2 y3
   unfold slices_Equal_uint32_uint32.l0
   repeat' (with_reducible first | apply ih0 | exact LeO.refl _ | exact LeO.none _ | refine LeO.ite ?_ ?_ | refine LeO.bind ?_ (fun _ => ?_))
theorem slices_Equal_uint32_uint32.mono : ∀ a0 a1 k, LeO (slices_Equal_uint32_uint32.f k a0 a1) (slices_Equal_uint32_uint32.f (k + 1) a0 a1) := by
 intro a0 a1 k
 have ih0 := slices_Equal_uint32_uint32.mono_l k
 unfold slices_Equal_uint32_uint32.f
 repeat' (with_reducible first | apply ih0 | exact LeO.refl _ | exact LeO.none _ | refine LeO.ite ?_ ?_ | refine LeO.bind ?_ (fun _ => ?_))
set_option maxHeartbeats 8000000 in
set_option maxRecDepth 100000 in
theorem slices_Equal_uint32_uint32.calls (k : Nat) (A0 : Option Addr) (c0 : Nat) (l0 : List Int) (A1 : Option Addr) (c1 : Nat) (l1 : List Int) (r : Bool) (w : World) (hr0 : Kd.C (Kd.int .u32) w A0 l0.length l0) (hc0 : l0.length ≤ c0) (hr1 : Kd.C (Kd.int .u32) w A1 l1.length l1) (hc1 : l1.length ≤ c1) (h : slices_Equal_uint32_uint32.f k l0 l1 = some r) :
  Calls Tryd.prog 41 #[.slice A0 l0.length c0, .slice A1 l1.length c1] w fun e w' => e = .returned (.bool r) ∧ Drawn0 w w' := by
 have ae := Aside0.mk hr0
 have am := Aside0.mk hc0
 clear hr0 hc0
 have af := Aside0.mk hr1
 have an := Aside0.mk hc1
 clear hr1 hc1
 have H : (if (l0.length : Int) = (l1.length : Int) then (slices_Equal_uint32_uint32.l0 k l0 l1 (l0.length : Int) 0) else (some false)) = some r := h
 clear h
 by_cases c3 : (l0.length : Int) = (l1.length : Int)
 ·rw [if_pos c3] at H
  have ab : ((l0.length : Int) == (l1.length : Int)) = true := beq_iff_eq.mpr c3
  have ac : ((l0.length : Int) != (l1.length : Int)) = false := bne_eq_false_iff_eq.mpr c3
  have ad : (l0.length == l1.length) = true := by first | simpa using c3 | (simp at c3 ⊢; omega)
  clear c3
  have H' := Aside0.mk H
  clear H
  go_enter Tryd.func41, Tryd.ntmps41
  go_wp2
  repeat (go_quiet (fail); try go_wp2)
  go_loopg [13] k (fun kq v13 w' => ∃ (aa : Int), v13 = .int .i64 aa ∧ Aside0 (slices_Equal_uint32_uint32.l0 kq l0 l1 (l0.length : Int) aa = some r) ∧ Aside0 (kq ≤ k) ∧ Drawn0 w w')
  case atStart => exact ⟨(0), rs_, H', ⟨Nat.le_refl _⟩, dn_⟩
  case round =>
   clear H'
   try clear c1
   try clear p2
   try clear c3
   try clear ab
   try clear ac
   try clear ad
   obtain ⟨aa, rfl, HA, HK1, ⟨m1, rfl⟩⟩ := hrel
   cases gk with
   | zero => exact absurd HA.out (by simp [slices_Equal_uint32_uint32.l0])
   | succ k1 =>
    have H := HA.out; clear HA; simp only [slices_Equal_uint32_uint32.l0] at H
    by_cases c4 : aa < (l0.length : Int)
    ·rw [if_pos c4] at H
     have ag : decide (aa < (l0.length : Int)) = true := decide_eq_true c4
     clear c4
     by_cases c5 : 0 ≤ aa
     ·rw [if_pos c5] at H
      have aj : decide (0 ≤ aa) = true := decide_eq_true c5
      clear c5
      by_cases c6 : aa < (l0.length : Int)
      ·rw [if_pos c6] at H
       have ak : decide (aa < (l0.length : Int)) = true := decide_eq_true c6
       clear c6
       by_cases c7 : aa < (l1.length : Int)
       ·rw [if_pos c7] at H
        have al : decide (aa < (l1.length : Int)) = true := decide_eq_true c7
        clear c7
        by_cases c8 : (rd l0 aa) = (rd l1 aa)
        ·rw [if_pos c8] at H
         have ah : ((rd l0 aa) == (rd l1 aa)) = true := beq_iff_eq.mpr c8
         have ai : ((rd l0 aa) != (rd l1 aa)) = false := bne_eq_false_iff_eq.mpr c8
         clear c8
         have H' := Aside0.mk H
         clear H
         have p342 : 0 ≤ (aa : Int) := od_
         have q342 : aa < (l0.length : Int) := od_
         obtain ⟨ad342, e342, hx342_0⟩ := Kd.at_int ae.out aa p342 q342
         cases e342
         replace p342 := eq_true p342; replace q342 := eq_true q342
         have p343 : 0 ≤ (aa : Int) := od_
         have q343 : aa < (l1.length : Int) := od_
         obtain ⟨ad343, e343, hx343_0⟩ := Kd.at_int af.out aa p343 q343
         cases e343
         replace p343 := eq_true p343; replace q343 := eq_true q343
         go_wp2
         repeat (go_quiet (fail); try go_wp2)
         go_roundg k1
         case measure => have := HK1.out; omega
         case rel => exact ⟨(wrap64 (aa + 1)), rs_, H', ⟨om_ HK1⟩, dn_⟩
        ·rw [if_neg c8] at H
         have ah : ((rd l0 aa) == (rd l1 aa)) = false := beq_eq_false_iff_ne.mpr c8
         have ai : ((rd l0 aa) != (rd l1 aa)) = true := bne_iff_ne.mpr c8
         obtain rfl := Option.some.inj H
         have p342 : 0 ≤ (aa : Int) := od_
         have q342 : aa < (l0.length : Int) := od_
         obtain ⟨ad342, e342, hx342_0⟩ := Kd.at_int ae.out aa p342 q342
         cases e342
         replace p342 := eq_true p342; replace q342 := eq_true q342
         have p343 : 0 ≤ (aa : Int) := od_
         have q343 : aa < (l1.length : Int) := od_
         obtain ⟨ad343, e343, hx343_0⟩ := Kd.at_int af.out aa p343 q343
         cases e343
         replace p343 := eq_true p343; replace q343 := eq_true q343
         go_wp2
         repeat (go_quiet (fail); try go_wp2)
         go_ret
         exact ⟨rs_, dn_⟩
       ·rw [if_neg c7] at H
        exact absurd H (by simp)
      ·rw [if_neg c6] at H
       exact absurd H (by simp)
     ·rw [if_neg c5] at H
      exact absurd H (by simp)
    ·rw [if_neg c4] at H
     have ag : decide (aa < (l0.length : Int)) = false := decide_eq_false c4
     clear c4
     obtain rfl := Option.some.inj H
     go_wp2
     repeat (go_quiet (fail); try go_wp2)
     go_ret
     exact ⟨rs_, dn_⟩
 ·rw [if_neg c3] at H
  have ab : ((l0.length : Int) == (l1.length : Int)) = false := beq_eq_false_iff_ne.mpr c3
  have ac : ((l0.length : Int) != (l1.length : Int)) = true := bne_iff_ne.mpr c3
  have ad : (l0.length == l1.length) = false := by first | simpa using c3 | (simp at c3 ⊢; omega)
  obtain rfl := Option.some.inj H
  go_enter Tryd.func41, Tryd.ntmps41
  go_wp2
  repeat (go_quiet (fail); try go_wp2)
  go_ret
  exact ⟨rs_, dn_⟩

/-! ### api_Errno: function 42 -/
def api_Errno.l0 : Nat → List Int → List Int → Int → Int → Option (Bool)
 | 0, _, _, _, _ => none
 | k + 1, x0, x1, x12, x13 => if x13 < x12 then (if 0 ≤ x13 then (if x13 < (x0.length : Int) then (if x13 < (x1.length : Int) then (if (rd x0 x13) = (rd x1 x13) then (api_Errno.l0 k x0 x1 x12 (wrap64 (x13 + 1))) else (some false)) else (none)) else (none)) else (none)) else (some true)
def api_Errno.f (k : Nat) (l0 l1 : List Int) : Option (Bool) := if (l0.length : Int) = (l1.length : Int) then (api_Errno.l0 k l0 l1 (l0.length : Int) 0) else (some false)
theorem api_Errno.mono_l : ∀ k, (∀ y0 y1 y2 y3, LeO (api_Errno.l0 k y0 y1 y2 y3) (api_Errno.l0 (k + 1) y0 y1 y2 y3))
 | 0 => fun _ _ _ _ r h => by simp [api_Errno.l0] at h
 | k + 1 => by
  have ih0 := api_Errno.mono_l k
  ·intro y0 y1 y2 y3
   unfold api_Errno.l0
   repeat' (with_reducible first | apply ih0 | exact LeO.refl _ | exact LeO.none _ | refine LeO.ite ?_ ?_ | refine LeO.bind ?_ (fun _ => ?_))
theorem api_Errno.mono : ∀ a0 a1 k, LeO (api_Errno.f k a0 a1) (api_Errno.f (k + 1) a0 a1) := by
 intro a0 a1 k
 have ih0 := api_Errno.mono_l k
 unfold api_Errno.f
 repeat' (with_reducible first | apply ih0 | exact LeO.refl _ | exact LeO.none _ | refine LeO.ite ?_ ?_ | refine LeO.bind ?_ (fun _ => ?_))
set_option maxHeartbeats 8000000 in
set_option maxRecDepth 100000 in
theorem api_Errno.calls (k : Nat) (A0 : Option Addr) (c0 : Nat) (l0 : List Int) (A1 : Option Addr) (c1 : Nat) (l1 : List Int) (r : Bool) (w : World) (hr0 : Kd.C (Kd.int .i64) w A0 l0.length l0) (hc0 : l0.length ≤ c0) (hr1 : Kd.C (Kd.int .i64) w A1 l1.length l1) (hc1 : l1.length ≤ c1) (h : api_Errno.f k l0 l1 = some r) :
  Calls Tryd.prog 42 #[.slice A0 l0.length c0, .slice A1 l1.length c1] w fun e w' => e = .returned (.bool r) ∧ Drawn0 w w' := by
 have ae := Aside0.mk hr0
 have am := Aside0.mk hc0
 clear hr0 hc0
 have af := Aside0.mk hr1
 have an := Aside0.mk hc1
 clear hr1 hc1
 have H : (if (l0.length : Int) = (l1.length : Int) then (api_Errno.l0 k l0 l1 (l0.length : Int) 0) else (some false)) = some r := h
 clear h
 by_cases c3 : (l0.length : Int) = (l1.length : Int)
 ·rw [if_pos c3] at H
  have ab : ((l0.length : Int) == (l1.length : Int)) = true := beq_iff_eq.mpr c3
  have ac : ((l0.length : Int) != (l1.length : Int)) = false := bne_eq_false_iff_eq.mpr c3
  have ad : (l0.length == l1.length) = true := by first | simpa using c3 | (simp at c3 ⊢; omega)
  clear c3
  have H' := Aside0.mk H
  clear H
  go_enter Tryd.func42, Tryd.ntmps42
  go_wp2
  repeat (go_quiet (fail); try go_wp2)
  go_loopg [13] k (fun kq v13 w' => ∃ (aa : Int), v13 = .int .i64 aa ∧ Aside0 (api_Errno.l0 kq l0 l1 (l0.length : Int) aa = some r) ∧ Aside0 (kq ≤ k) ∧ Drawn0 w w')
  case atStart => exact ⟨(0), rs_, H', ⟨Nat.le_refl _⟩, dn_⟩
  case round =>
   clear H'
   try clear c1
   try clear p2
   try clear c3
   try clear ab
   try clear ac
   try clear ad
   obtain ⟨aa, rfl, HA, HK1, ⟨m1, rfl⟩⟩ := hrel
   cases gk with
   | zero => exact absurd HA.out (by simp [api_Errno.l0])
   | succ k1 =>
    have H := HA.out; clear HA; simp only [api_Errno.l0] at H
    by_cases c4 : aa < (l0.length : Int)
    ·rw [if_pos c4] at H
     have ag : decide (aa < (l0.length : Int)) = true := decide_eq_true c4
     clear c4
     by_cases c5 : 0 ≤ aa
     ·rw [if_pos c5] at H
      have aj : decide (0 ≤ aa) = true := decide_eq_true c5
      clear c5
      by_cases c6 : aa < (l0.length : Int)
      ·rw [if_pos c6] at H
       have ak : decide (aa < (l0.length : Int)) = true := decide_eq_true c6
       clear c6
       by_cases c7 : aa < (l1.length : Int)
       ·rw [if_pos c7] at H
        have al : decide (aa < (l1.length : Int)) = true := decide_eq_true c7
        clear c7
        by_cases c8 : (rd l0 aa) = (rd l1 aa)
        ·rw [if_pos c8] at H
         have ah : ((rd l0 aa) == (rd l1 aa)) = true := beq_iff_eq.mpr c8
         have ai : ((rd l0 aa) != (rd l1 aa)) = false := bne_eq_false_iff_eq.mpr c8
         clear c8
         have H' := Aside0.mk H
         clear H
         have p344 : 0 ≤ (aa : Int) := od_
         have q344 : aa < (l0.length : Int) := od_
         obtain ⟨ad344, e344, hx344_0⟩ := Kd.at_int ae.out aa p344 q344
         cases e344
         replace p344 := eq_true p344; replace q344 := eq_true q344
         have p345 : 0 ≤ (aa : Int) := od_
         have q345 : aa < (l1.length : Int) := od_
         obtain ⟨ad345, e345, hx345_0⟩ := Kd.at_int af.out aa p345 q345
         cases e345
         replace p345 := eq_true p345; replace q345 := eq_true q345
         go_wp2
         repeat (go_quiet (fail); try go_wp2)
         go_roundg k1
         case measure => have := HK1.out; omega
         case rel => exact ⟨(wrap64 (aa + 1)), rs_, H', ⟨om_ HK1⟩, dn_⟩
        ·rw [if_neg c8] at H
         have ah : ((rd l0 aa) == (rd l1 aa)) = false := beq_eq_false_iff_ne.mpr c8
         have ai : ((rd l0 aa) != (rd l1 aa)) = true := bne_iff_ne.mpr c8
         obtain rfl := Option.some.inj H
         have p344 : 0 ≤ (aa : Int) := od_
         have q344 : aa < (l0.length : Int) := od_
         obtain ⟨ad344, e344, hx344_0⟩ := Kd.at_int ae.out aa p344 q344
         cases e344
         replace p344 := eq_true p344; replace q344 := eq_true q344
         have p345 : 0 ≤ (aa : Int) := od_
         have q345 : aa < (l1.length : Int) := od_
         obtain ⟨ad345, e345, hx345_0⟩ := Kd.at_int af.out aa p345 q345
         cases e345
         replace p345 := eq_true p345; replace q345 := eq_true q345
         go_wp2
         repeat (go_quiet (fail); try go_wp2)
         go_ret
         exact ⟨rs_, dn_⟩
       ·rw [if_neg c7] at H
        exact absurd H (by simp)
      ·rw [if_neg c6] at H
       exact absurd H (by simp)
     ·rw [if_neg c5] at H
      exact absurd H (by simp)
    ·rw [if_neg c4] at H
     have ag : decide (aa < (l0.length : Int)) = false := decide_eq_false c4
     clear c4
     obtain rfl := Option.some.inj H
     go_wp2
     repeat (go_quiet (fail); try go_wp2)
     go_ret
     exact ⟨rs_, dn_⟩
 ·rw [if_neg c3] at H
  have ab : ((l0.length : Int) == (l1.length : Int)) = false := beq_eq_false_iff_ne.mpr c3
  have ac : ((l0.length : Int) != (l1.length : Int)) = true := bne_iff_ne.mpr c3
  have ad : (l0.length == l1.length) = false := by first | simpa using c3 | (simp at c3 ⊢; omega)
  obtain rfl := Option.some.inj H
  go_enter Tryd.func42, Tryd.ntmps42
  go_wp2
  repeat (go_quiet (fail); try go_wp2)
  go_ret
  exact ⟨rs_, dn_⟩

/-! ### spec_Same: function 19 -/
def spec_Same.f (k : Nat) (a0_0 a0_1 : Int) (a0_2 : Bool) (l0_3 l0_4 : List Int) (a1_0 a1_1 : Int) (a1_2 : Bool) (l1_3 l1_4 : List Int) : Option (Bool) := if a0_0 = a1_0 then (if a0_1 = a1_1 then (if (a0_2 == a1_2) = true then ((slices_Equal_uint32_uint32.f k l0_3 l1_3).bind fun t348 => (if t348 = true then ((api_Errno.f k l0_4 l1_4).bind fun t349 => (some t349)) else (some false))) else (some false)) else (some false)) else (some false)
theorem spec_Same.mono : ∀ a0 a1 a2 a3 a4 a5 a6 a7 a8 a9 k, LeO (spec_Same.f k a0 a1 a2 a3 a4 a5 a6 a7 a8 a9) (spec_Same.f (k + 1) a0 a1 a2 a3 a4 a5 a6 a7 a8 a9) := by
 intro a0 a1 a2 a3 a4 a5 a6 a7 a8 a9 k
 unfold spec_Same.f
 repeat' (with_reducible first | apply api_Errno.mono | apply slices_Equal_uint32_uint32.mono | exact LeO.refl _ | exact LeO.none _ | refine LeO.ite ?_ ?_ | refine LeO.bind ?_ (fun _ => ?_))
set_option maxHeartbeats 8000000 in
set_option maxRecDepth 100000 in
theorem spec_Same.calls (k : Nat) (ah ai : Int) (ad : Bool) (ap : Option Addr) (av : Nat) (al : List Int) (aq : Option Addr) (aw : Nat) (af : List Int) (aj ak : Int) (ae : Bool) (ar : Option Addr) (ax : Nat) (am : List Int) (au : Option Addr) (ay : Nat) (ag : List Int) (r : Bool) (w : World) (hr0_3 : Kd.C (Kd.int .u32) w ap al.length al) (hc0_3 : al.length ≤ av) (hr0_4 : Kd.C (Kd.int .i64) w aq af.length af) (hc0_4 : af.length ≤ aw) (hr1_3 : Kd.C (Kd.int .u32) w ar am.length am) (hc1_3 : am.length ≤ ax) (hr1_4 : Kd.C (Kd.int .i64) w au ag.length ag) (hc1_4 : ag.length ≤ ay) (h : spec_Same.f k ah ai ad al af aj ak ae am ag = some r) :
  Calls Tryd.prog 19 #[.agg #[.int .i64 ah, .int .u32 ai, .bool ad, .slice ap al.length av, .slice aq af.length aw], .agg #[.int .i64 aj, .int .u32 ak, .bool ae, .slice ar am.length ax, .slice au ag.length ay]] w fun e w' => e = .returned (.bool r) ∧ Below w.heap.size w w' := by
 have hu34 := Tryd.underlying34
 have aI := Aside0.mk hr0_3
 have aG := Aside0.mk hc0_3
 clear hr0_3 hc0_3
 have aM := Aside0.mk hr0_4
 have aK := Aside0.mk hc0_4
 clear hr0_4 hc0_4
 have aJ := Aside0.mk hr1_3
 have aH := Aside0.mk hc1_3
 clear hr1_3 hc1_3
 have aN := Aside0.mk hr1_4
 have aL := Aside0.mk hc1_4
 clear hr1_4 hc1_4
 have HB := Aside0.mk (Below.refl w.heap.size w)
 have H : (if ah = aj then (if ai = ak then (if (ad == ae) = true then ((slices_Equal_uint32_uint32.f k al am).bind fun aF => (if aF = true then ((api_Errno.f k af ag).bind fun ao => (some ao)) else (some false))) else (some false)) else (some false)) else (some false)) = some r := h
 clear h
 by_cases c3 : ah = aj
 ·rw [if_pos c3] at H
  have aO : (ah == aj) = true := beq_iff_eq.mpr c3
  have aP : (ah != aj) = false := bne_eq_false_iff_eq.mpr c3
  clear c3
  by_cases c4 : ai = ak
  ·rw [if_pos c4] at H
   have aQ : (ai == ak) = true := beq_iff_eq.mpr c4
   have aR : (ai != ak) = false := bne_eq_false_iff_eq.mpr c4
   clear c4
   by_cases c5 : (ad == ae) = true
   ·rw [if_pos c5] at H
    have aS : (ad == ae) = true := c5
    (try (have aT : decide (ad = ae) = true := by simpa using c5))
    (try (have aU : (ad == ae) = true := by simpa using c5))
    clear c5; replace H := bi_ H; obtain ⟨aF, A60, H⟩ := H
    replace H : (if aF = true then ((api_Errno.f k af ag).bind fun ao => (some ao)) else (some false)) = some r := H
    have A6 := Aside0.mk A60; clear A60
    by_cases c7 : aF = true
    ·subst c7
     have H1 : ((api_Errno.f k af ag).bind fun ao => (some ao)) = some r := by rw [if_pos rfl] at H; exact H
     clear H; have H := H1; clear H1; replace H := bi_ H; obtain ⟨ao, A80, H⟩ := H
     replace H : (some ao) = some r := H
     have A8 := Aside0.mk A80; clear A80
     obtain rfl := Option.some.inj H
     go_enter Tryd.func19, Tryd.ntmps19
     go_wp2_with (first | ((with_reducible refine gate_dst (N := 2) rfl ?_); refine bx_ (N := 2) (cs := #[.int .i64 ah, .int .u32 ai, .bool ad, .slice ap al.length av, .slice aq af.length aw]) (t := 34) ?_; intro aD hg w9 aa hb; have aB := gG_ hg HB; have az := gG_ hg HB; replace HB := hS_ HB hb; clear hb hg) | ((with_reducible refine gate_dst (N := 3) rfl ?_); refine bx_ (N := 3) (cs := #[.int .i64 aj, .int .u32 ak, .bool ae, .slice ar am.length ax, .slice au ag.length ay]) (t := 34) ?_; intro aE hg w10 an hb; have aC := gG_ hg HB; have aA := gG_ hg HB; replace HB := hS_ HB hb; have ab := nL_ hg aa; have ac := nG_ hg aa; replace aa := bB_ aa hb; clear hb hg; have cz := ab.out; have cE := ac.out; obtain ⟨aV, aW, aX, aY, aZ, bK, bL, bM, bN, bO⟩ := cz5_ (w := w10) aa; obtain ⟨a0, a1, a2, a3, a4, bP, bQ, bR, bS, bT⟩ := cz5_ (w := w10) an) | (go_at_call 41; (with_reducible refine (slices_Equal_uint32_uint32.calls k _ _ al _ _ am true _ ?side1 ?side2 ?side3 ?side4 A6.out).mono ?_); (case side1 => exact cC_ aI HB); (case side2 => exact aG.out); (case side3 => exact cC_ aJ HB); (case side4 => exact aH.out); rintro e w' ⟨rfl, ⟨nd, rfl⟩⟩) | (go_at_call 42; (with_reducible refine (api_Errno.calls k _ _ af _ _ ag ao _ ?side1 ?side2 ?side3 ?side4 A8.out).mono ?_); (case side1 => exact cD_ (Kd.C_below aM.out (hB_ HB))); (case side2 => exact aK.out); (case side3 => exact cD_ (Kd.C_below aN.out (hB_ HB))); (case side4 => exact aL.out); rintro e w' ⟨rfl, ⟨nd, rfl⟩⟩))
     go_ret
     exact ⟨er_, hB_ HB⟩
    ·replace c7 := Bool.eq_false_iff.mpr c7
     subst c7
     have H1 : (some false) = some r := by rw [if_neg (show ¬ (false = true) by decide)] at H; exact H
     clear H; have H := H1; clear H1
     obtain rfl := Option.some.inj H
     go_enter Tryd.func19, Tryd.ntmps19
     go_wp2_with (first | ((with_reducible refine gate_dst (N := 2) rfl ?_); refine bx_ (N := 2) (cs := #[.int .i64 ah, .int .u32 ai, .bool ad, .slice ap al.length av, .slice aq af.length aw]) (t := 34) ?_; intro aD hg w14 aa hb; have aB := gG_ hg HB; have az := gG_ hg HB; replace HB := hS_ HB hb; clear hb hg) | ((with_reducible refine gate_dst (N := 3) rfl ?_); refine bx_ (N := 3) (cs := #[.int .i64 aj, .int .u32 ak, .bool ae, .slice ar am.length ax, .slice au ag.length ay]) (t := 34) ?_; intro aE hg w15 an hb; have aC := gG_ hg HB; have aA := gG_ hg HB; replace HB := hS_ HB hb; have ab := nL_ hg aa; have ac := nG_ hg aa; replace aa := bB_ aa hb; clear hb hg; have cA := ab.out; have cF := ac.out; obtain ⟨a5, a6, a7, a8, a9, bU, bV, bW, bX, bY⟩ := cz5_ (w := w15) aa; obtain ⟨ba, bb, bc, bd, be, bZ, b0, b1, b2, b3⟩ := cz5_ (w := w15) an) | (go_at_call 41; (with_reducible refine (slices_Equal_uint32_uint32.calls k _ _ al _ _ am false _ ?side1 ?side2 ?side3 ?side4 A6.out).mono ?_); (case side1 => exact cC_ aI HB); (case side2 => exact aG.out); (case side3 => exact cC_ aJ HB); (case side4 => exact aH.out); rintro e w' ⟨rfl, ⟨nd, rfl⟩⟩))
     go_ret
     exact ⟨er_, hB_ HB⟩
   ·rw [if_neg c5] at H
    have aS : (ad == ae) = false := by simpa using c5
    (try (have aT : decide (ad = ae) = false := by simpa using c5))
    (try (have aU : (ad == ae) = false := by simpa using c5))
    (try (have cJ : ¬ (ad = ae) := by simpa using c5))
    clear c5
    obtain rfl := Option.some.inj H
    go_enter Tryd.func19, Tryd.ntmps19
    go_wp2_with (first | ((with_reducible refine gate_dst (N := 2) rfl ?_); refine bx_ (N := 2) (cs := #[.int .i64 ah, .int .u32 ai, .bool ad, .slice ap al.length av, .slice aq af.length aw]) (t := 34) ?_; intro aD hg w19 aa hb; have aB := gG_ hg HB; have az := gG_ hg HB; replace HB := hS_ HB hb; clear hb hg) | ((with_reducible refine gate_dst (N := 3) rfl ?_); refine bx_ (N := 3) (cs := #[.int .i64 aj, .int .u32 ak, .bool ae, .slice ar am.length ax, .slice au ag.length ay]) (t := 34) ?_; intro aE hg w20 an hb; have aC := gG_ hg HB; have aA := gG_ hg HB; replace HB := hS_ HB hb; have ab := nL_ hg aa; have ac := nG_ hg aa; replace aa := bB_ aa hb; clear hb hg; have cB := ab.out; have cG := ac.out; obtain ⟨bf, bg, bh, bi, bj, b4, b5, b6, b7, b8⟩ := cz5_ (w := w20) aa; obtain ⟨bk, bl, bm, bn, bo, b9, ca, cb, cc, cd⟩ := cz5_ (w := w20) an))
    go_ret
    exact ⟨er_, hB_ HB⟩
  ·rw [if_neg c4] at H
   have aQ : (ai == ak) = false := beq_eq_false_iff_ne.mpr c4
   have aR : (ai != ak) = true := bne_iff_ne.mpr c4
   obtain rfl := Option.some.inj H
   go_enter Tryd.func19, Tryd.ntmps19
   go_wp2_with (first | ((with_reducible refine gate_dst (N := 2) rfl ?_); refine bx_ (N := 2) (cs := #[.int .i64 ah, .int .u32 ai, .bool ad, .slice ap al.length av, .slice aq af.length aw]) (t := 34) ?_; intro aD hg w24 aa hb; have aB := gG_ hg HB; have az := gG_ hg HB; replace HB := hS_ HB hb; clear hb hg) | ((with_reducible refine gate_dst (N := 3) rfl ?_); refine bx_ (N := 3) (cs := #[.int .i64 aj, .int .u32 ak, .bool ae, .slice ar am.length ax, .slice au ag.length ay]) (t := 34) ?_; intro aE hg w25 an hb; have aC := gG_ hg HB; have aA := gG_ hg HB; replace HB := hS_ HB hb; have ab := nL_ hg aa; have ac := nG_ hg aa; replace aa := bB_ aa hb; clear hb hg; have cC := ab.out; have cH := ac.out; obtain ⟨bp, bq, br, bs, bt, ce, cf, cg, ch, ci⟩ := cz5_ (w := w25) aa; obtain ⟨bu, bv, bw, bx, bz, cj, ck, cl, cm, cn⟩ := cz5_ (w := w25) an))
   go_ret
   exact ⟨er_, hB_ HB⟩
 ·rw [if_neg c3] at H
  have aO : (ah == aj) = false := beq_eq_false_iff_ne.mpr c3
  have aP : (ah != aj) = true := bne_iff_ne.mpr c3
  obtain rfl := Option.some.inj H
  go_enter Tryd.func19, Tryd.ntmps19
  go_wp2_with (first | ((with_reducible refine gate_dst (N := 2) rfl ?_); refine bx_ (N := 2) (cs := #[.int .i64 ah, .int .u32 ai, .bool ad, .slice ap al.length av, .slice aq af.length aw]) (t := 34) ?_; intro aD hg w29 aa hb; have aB := gG_ hg HB; have az := gG_ hg HB; replace HB := hS_ HB hb; clear hb hg) | ((with_reducible refine gate_dst (N := 3) rfl ?_); refine bx_ (N := 3) (cs := #[.int .i64 aj, .int .u32 ak, .bool ae, .slice ar am.length ax, .slice au ag.length ay]) (t := 34) ?_; intro aE hg w30 an hb; have aC := gG_ hg HB; have aA := gG_ hg HB; replace HB := hS_ HB hb; have ab := nL_ hg aa; have ac := nG_ hg aa; replace aa := bB_ aa hb; clear hb hg; have cD := ab.out; have cI := ac.out; obtain ⟨bA, bB, bC, bD, bE, co, cp, cq, cr, ct⟩ := cz5_ (w := w30) aa; obtain ⟨bF, bG, bH, bI, bJ, cu, cv, cw, cx, cy⟩ := cz5_ (w := w30) an))
  go_ret
  exact ⟨er_, hB_ HB⟩

end Go.Proofs.YtkiimboedgnoiaaDoor.PSpecBack
