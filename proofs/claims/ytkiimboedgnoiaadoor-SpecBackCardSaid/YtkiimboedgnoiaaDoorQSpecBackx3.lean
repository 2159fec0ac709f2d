/- The walk of SpecBack, part of it: what the Go functions answer; no condition. -/
import Derived.Test.YtkiimboedgnoiaaDoorQSpecBackx0
import Derived.Test.YtkiimboedgnoiaaDoorQSpecBackx1
import Derived.Test.YtkiimboedgnoiaaDoorQSpecBackx2
namespace Go.Proofs.YtkiimboedgnoiaaDoor.PSpecBack
open Go.RowKit Go.Proofs.YtkiimboedgnoiaaDoorW.PrintWords Go.Proofs.YtkiimboedgnoiaaDoorW.PrintLast Go.Proofs.YtkiimboedgnoiaaDoorW.PrintMore
attribute [local go_sem] max2_int min2_int max_two min_two max_three min_three max_four min_four   -- for this text's walks alone
set_option linter.unusedVariables false
set_option linter.unusedSimpArgs false

/-! ### model_With: function 35 -/
def model_With.f (k : Nat) (l0 : List Int) (a1 : Int) : Option (List Int) := (slices_BinarySearch_int_int.f k l0 a1).bind fun bt131 => (if bt131.2 = true then (some l0) else (if 0 ≤ bt131.1 then (if bt131.1 ≤ (l0.length : Int) then ((some (l0.take (bt131.1 : Int).toNat : List Int)).bind fun y133 => (if y133.length < 17592186044416 then ((some (y133 ++ [a1] : List Int)).bind fun y136 => ((some (l0.drop (bt131.1 : Int).toNat : List Int)).bind fun y139 => (if y136.length + y139.length < 17592186044416 then (some (y136 ++ y139)) else (none)))) else (none))) else (none)) else (none)))
theorem model_With.mono : ∀ a0 a1 k, LeO (model_With.f k a0 a1) (model_With.f (k + 1) a0 a1) := by
 intro a0 a1 k
 unfold model_With.f
 repeat' (with_reducible first | apply slices_BinarySearch_int_int.mono | exact LeO.refl _ | exact LeO.none _ | refine LeO.ite ?_ ?_ | refine LeO.bind ?_ (fun _ => ?_))
def model_With.T4 : Bool × List (List Nat × List Nat) := (true, [([], []), ([], []), ([], []), ([0, 1, 2], [0, 1, 2]), ([], []), ([4], [4]), ([3, 5], [3, 5]), ([], []), ([], []), ([7, 8], [7, 8]), ([6, 9, 6], [6, 9]), ([10, 10, 0, 1, 2, 3, 4, 5, 6, 7, 8, 9, 10], [10])])
def model_With.B4 : List Nat := [0, 0, 0, 7, 0, 16, 63, 0, 0, 384, 1023, 2047]
theorem model_With.tab4 : rtab .any (opsOf Tryd.f35 4) = model_With.T4 := by kernel_rfl
theorem model_With.bits4 : waitsOk model_With.T4.2 model_With.B4 = true := by kernel_rfl
set_option maxHeartbeats 8000000 in
set_option maxRecDepth 100000 in
theorem model_With.calls (k : Nat) (P0_ : Nat → Prop) (A0 : Option Addr) (c0 : Nat) (l0 : List Int) (a1 : Int) (r : List Int) (w : World) (ak : Kd.V (Kd.int .i64) 3 w w.heap.size (fun k_ => P0_ k_) (.slice A0 l0.length c0) l0) (h : model_With.f k l0 a1 = some r) :
  Calls Tryd.prog 35 #[.slice A0 l0.length c0, .int .i64 a1] w fun e w' => ∃ v0_ : Value, e = .returned (v0_) ∧ Kd.V (Kd.int .i64) 3 w' w.heap.size (fun k_ => (P0_ k_ ∨ w.heap.size ≤ k_)) v0_ r ∧ Below w.heap.size w w' := by
 have ae := Aside0.mk (show Kd.V (Kd.int .i64) 3 w w.heap.size (fun k_ => (P0_ k_ ∨ w.heap.size ≤ k_)) (.slice A0 l0.length c0) l0 from Kd.V_mono ak (fun k_ hk => .inl hk))
 have HB := Aside0.mk (Below.refl w.heap.size w)
 have H : ((slices_BinarySearch_int_int.f k l0 a1).bind fun bt131 => (if bt131.2 = true then (some l0) else (if 0 ≤ bt131.1 then (if bt131.1 ≤ (l0.length : Int) then ((some (l0.take (bt131.1 : Int).toNat : List Int)).bind fun ad => (if ad.length < 17592186044416 then ((some (ad ++ [a1] : List Int)).bind fun ac => ((some (l0.drop (bt131.1 : Int).toNat : List Int)).bind fun ab => (if ac.length + ab.length < 17592186044416 then (some (ac ++ ab)) else (none)))) else (none))) else (none)) else (none)))) = some r := h
 clear h
 replace H := bi_ H
 obtain ⟨⟨aa, ah⟩, A30, H⟩ := H
 replace H : (if ah = true then (some l0) else (if 0 ≤ aa then (if aa ≤ (l0.length : Int) then ((some (l0.take (aa : Int).toNat : List Int)).bind fun ad => (if ad.length < 17592186044416 then ((some (ad ++ [a1] : List Int)).bind fun ac => ((some (l0.drop (aa : Int).toNat : List Int)).bind fun ab => (if ac.length + ab.length < 17592186044416 then (some (ac ++ ab)) else (none)))) else (none))) else (none)) else (none))) = some r := H
 have A3 := Aside0.mk A30
 clear A30
 by_cases c4 : ah = true
 ·subst c4
  have H1 : (some l0) = some r := by rw [if_pos rfl] at H; exact H
  clear H; have H := H1; clear H1
  obtain rfl := Option.some.inj H
  go_enter Tryd.func35, Tryd.ntmps35
  go_wp2_with (first | ((with_reducible refine gate_callee (f := 50) rfl ?_); refine gL_ (some 10) Tryd.func50 #[.slice A0 l0.length c0, .int .i64 a1] ?_; (with_reducible refine (slices_BinarySearch_int_int.calls k _ _ l0 a1 aa true _ ?side1 ?side2 A3.out).mono ?_); (case side1 => exact cD_ (Kd.V_reads' ae.out).2.2); (case side2 => exact (Kd.V_reads' ae.out).2.1); rintro e w' ⟨rfl, ⟨nd, rfl⟩⟩; refine ⟨_, rfl, ?_⟩))
  go_ret
  exact ⟨_, er_, vV_ ae, hB_ HB⟩
 ·replace c4 := Bool.eq_false_iff.mpr c4
  subst c4
  have H1 : (if 0 ≤ aa then (if aa ≤ (l0.length : Int) then ((some (l0.take (aa : Int).toNat : List Int)).bind fun ad => (if ad.length < 17592186044416 then ((some (ad ++ [a1] : List Int)).bind fun ac => ((some (l0.drop (aa : Int).toNat : List Int)).bind fun ab => (if ac.length + ab.length < 17592186044416 then (some (ac ++ ab)) else (none)))) else (none))) else (none)) else (none)) = some r := by rw [if_neg (show ¬ (false = true) by decide)] at H; exact H
  clear H; have H := H1; clear H1
  by_cases c5 : 0 ≤ aa
  ·rw [if_pos c5] at H
   have am := eq_true c5
   have an : decide (0 ≤ aa) = true := decide_eq_true c5
   clear c5
   by_cases c6 : aa ≤ (l0.length : Int)
   ·rw [if_pos c6] at H
    have ao := eq_true c6
    have ap : decide (aa ≤ (l0.length : Int)) = true := decide_eq_true c6
    clear c6; obtain ⟨ad, hy133⟩ : ∃ y_ : List Int, y_ = (l0.take (aa : Int).toNat) := ⟨_, rfl⟩
    replace H : (if ad.length < 17592186044416 then ((some (ad ++ [a1] : List Int)).bind fun ac => ((some (l0.drop (aa : Int).toNat : List Int)).bind fun ab => (if ac.length + ab.length < 17592186044416 then (some (ac ++ ab)) else (none)))) else (none)) = some r := by first | (rw [hy133]; with_reducible exact H) | (have H2_ := (Option.bind_some _ _).symm.trans H; rw [hy133]; with_reducible exact H2_) | (have H2_ := (Option.bind_some _ _).symm.trans H; with_reducible exact H2_) | with_reducible exact H | (rw [hy133]; exact H) | exact H
    have Ny133 := Aside0.mk hy133; clear hy133
    by_cases c7 : ad.length < 17592186044416
    ·rw [if_pos c7] at H
     have LMc7 := Aside0.mk c7; clear c7; obtain ⟨ac, hy136⟩ : ∃ y_ : List Int, y_ = (ad ++ [a1]) := ⟨_, rfl⟩
     replace H : ((some (l0.drop (aa : Int).toNat : List Int)).bind fun ab => (if ac.length + ab.length < 17592186044416 then (some (ac ++ ab)) else (none))) = some r := by first | (rw [hy136]; with_reducible exact H) | (have H2_ := (Option.bind_some _ _).symm.trans H; rw [hy136]; with_reducible exact H2_) | (have H2_ := (Option.bind_some _ _).symm.trans H; with_reducible exact H2_) | with_reducible exact H | (rw [hy136]; exact H) | exact H
     have Ny136 := Aside0.mk hy136; clear hy136; have aq := eq_true (od_ : 0 ≤ aa); have ar := eq_true (od_ : aa ≤ (l0.length : Int)); obtain ⟨ab, hy139⟩ : ∃ y_ : List Int, y_ = (l0.drop (aa : Int).toNat) := ⟨_, rfl⟩
     replace H : (if ac.length + ab.length < 17592186044416 then (some (ac ++ ab)) else (none)) = some r := by first | (rw [hy139]; with_reducible exact H) | (have H2_ := (Option.bind_some _ _).symm.trans H; rw [hy139]; with_reducible exact H2_) | (have H2_ := (Option.bind_some _ _).symm.trans H; with_reducible exact H2_) | with_reducible exact H | (rw [hy139]; exact H) | exact H
     have Ny139 := Aside0.mk hy139; clear hy139
     by_cases c10 : ac.length + ab.length < 17592186044416
     ·rw [if_pos c10] at H
      have LMc10 := Aside0.mk c10; clear c10; obtain ⟨aj, hy144⟩ : ∃ y_ : List Int, y_ = (ac ++ ab) := ⟨_, rfl⟩
      replace H : (some aj) = some r := by first | (rw [hy144]; with_reducible exact H) | (have H2_ := (Option.bind_some _ _).symm.trans H; rw [hy144]; with_reducible exact H2_) | (have H2_ := (Option.bind_some _ _).symm.trans H; with_reducible exact H2_) | with_reducible exact H | (rw [hy144]; exact H) | exact H
      have Ny144 := Aside0.mk hy144; clear hy144
      obtain rfl := Option.some.inj H
      go_enter Tryd.func35, Tryd.ntmps35
      try go_wp2_with (first | ((with_reducible refine gate_callee (f := 50) rfl ?_); refine gL_ (some 10) Tryd.func50 #[.slice A0 l0.length c0, .int .i64 a1] ?_; (with_reducible refine (slices_BinarySearch_int_int.calls k _ _ l0 a1 aa false _ ?side1 ?side2 A3.out).mono ?_); (case side1 => exact cD_ (Kd.V_reads' ae.out).2.2); (case side2 => exact (Kd.V_reads' ae.out).2.1); rintro e w' ⟨rfl, ⟨nd, rfl⟩⟩; refine ⟨_, rfl, ?_⟩))
      generalize hq_ : World.drewN w _ = w11
      replace ae := Aside0.mk (V_atq hq_ ae.out); replace HB := Aside0.mk (below_at hq_ HB.out); clear hq_; replace ae := Aside0.mk (Kd.V_drew ae.out); replace HB := Aside0.mk (below_drew1 HB.out)
      have q13 : (aa : Int) ≤ ((l0.length : Int) : Int) := od_
      have q013 : (0 : Int) ≤ (aa : Int) := od_
      obtain ⟨i013, hi013, _, hsz13, _⟩ := info_parts info3
      have hroom13 : l0.length ≤ c0 := (Kd.V_reads' ae.out).2.1
      have hcut13 := cut_fullh (P := Tryd.prog) 25 3 Tryd.underlying25 hi013 A0 l0.length c0 aa q013 q13 hroom13
      have hy13 : ad.length = (aa : Int).toNat := (by rw [Ny133.out, List.length_take]; omega)
      rw [← hy13] at hcut13
      have HL13 := Aside0.mk (show (aa : Int).toNat ≤ l0.length from by omega); clear hi013 hsz13 hroom13; have KY13 := Aside0.mk hy13; clear hy13; replace q13 := eq_true q13; replace q013 := eq_true q013
      have q14 : (aa : Int) ≤ ((l0.length : Int) : Int) := od_
      obtain ⟨i014, hi014, _, hsz14, _⟩ := info_parts info3
      have hroom14 : l0.length ≤ c0 := (Kd.V_reads' ae.out).2.1
      have hC14 : Kd.F (Kd.int .i64) _ _ A0 l0.length l0 := (Kd.V_at (base := w.heap.size) ae.out).2.2
      have q014 : (0 : Int) ≤ (aa : Int) := od_
      have hcut14 := cut_from (P := Tryd.prog) 25 3 .i64 Tryd.underlying25 hi014 1 hsz14 A0 l0.length c0 aa q014 q14; have hr14 := Kd.F_cut (m := (aa : Int).toNat) (c := c0) hC14 (by omega) hroom14; obtain ⟨A14, hA14⟩ : ∃ A1, A1 = (if c0 = (aa : Int).toNat then A0 else (A0 : Option Addr).map (·.add ((aa : Int).toNat * 1))) := ⟨_, rfl⟩; obtain ⟨c14, hc14⟩ : ∃ c1, c1 = c0 - (aa : Int).toNat := ⟨_, rfl⟩
      have hy14 : ab.length = l0.length - (aa : Int).toNat := (by rw [Ny139.out, List.length_drop] <;> omega)
      rw [show (l0).drop (aa : Int).toNat = ab from Ny139.out.symm] at hr14
      replace hr14 : Kd.F (Kd.int .i64) _ _ A14 ab.length ab := (by rw [hA14]; exact hr14)
      rw [← hy14, ← hA14, ← hc14] at hcut14
      have af := Aside0.mk (show Kd.V (Kd.int .i64) 3 _ w.heap.size _ (.slice A14 ab.length c14) ab from Kd.V_mk (by rw [hy14, hc14]; exact Nat.sub_le_sub_right hroom14 _) hr14); have al := Aside0.mk (show ab.length ≤ c14 from by rw [hy14, hc14]; exact Nat.sub_le_sub_right hroom14 _); clear hr14 hC14 hroom14 hi014 hsz14 hc14; have KY14 := Aside0.mk hy14; have KA14 := Aside0.mk hA14; clear hy14 hA14; replace q14 := eq_true q14
      refine start_ (n := 12) (S := fun w' => True) (ds := []) (tf 12 0) (by kernel_rfl) rfl rfl trivial (fun hHeld => ?_); refine with_tabW model_With.tab4 model_With.bits4 (fun HT_ HW_ => ?_)
      generalize w11.drew = w12 at ae HB af hHeld ⊢
      refine pu_ (i := 0) (N := some 15) (tf 12 1) HT_ ?_; refine pu_ (i := 1) (N := some 16) (tf 12 3) HT_ ?_; refine pu_ (i := 2) (N := some 17) (tf 12 7) HT_ ?_; refine pu_ (i := 3) (N := some 18) (tf 12 15) HT_ ?_; refine pu_ (i := 4) (N := some 19) (tf 12 31) HT_ ?_; refine pu_ (i := 7) (N := some 22) (tf 12 159) HT_ ?_; refine pu_ (i := 8) (N := some 23) (tf 12 415) HT_ ?_; refine pu_ (i := 9) (N := some 24) (tf 12 927) HT_ ?_
      refine on_ (i := 5) (N := some 20) (tf 12 959) HT_ (fun K hK => ?_)
      refine value_ (w1 := ?_) (v := ?_) (by rfl) rfl ?_ ?_
      rotate_left 2
      ·go_simp
       constructor
       ·rfl
       ·rfl
      refine hK.out _ _ trivial (fun hHeld => ?_)
      clear hK K
      refine norm_ (a' := ?_) ?_ ?_
      rotate_left
      ·show Act.put _ (some 20) _ = _
       simp only [Act.put, List.setIfInBounds_toArray, List.set_cons_zero, List.set_cons_succ, i64_w, i32_w]
       rfl
      refine on_ (i := 6) (N := some 21) (tf 12 1023) HT_ (fun K hK => ?_)
      refine R_append_full_step .i64 (w0 := w) w.heap.size (by rfl) (.tmp 18) (.tmp 20) 25 3 (.int .i64 0) 8 rfl Tryd.underlying25 info3 rfl (by decide) (by omega) A0 ad a1 [.int .i64 a1] (fun k_ => (w.heap.size ≤ k_)) (fun _ => False) rfl ?aX ?aP (fun _ hk => hk.elim) ?aF ?aO ?aB ?aS ?aL ?_
      (case aX => rfl)
      (case aP => exact rfl)
      (case aB => exact (hB_ HB))
      (case aF => exact (fun k_ hk => (Nat.le_trans (below_size (hB_ HB)) hk)))
      (case aO => refine C_take_full Ny133.out HL13.out ?_; exact cD_ (Kd.V_reads' ae.out).2.2)
      (case aS => exact (below_size (hB_ HB)))
      (case aL => have := LMc7.out; omega)
      intro v137 w15 ho hb hg hat
      rw [← Ny136.out] at ho
      replace ae := Aside0.mk (Kd.V_afterv (Kd.V_apart_nil (vV_ ae)) hg hat); replace af := Aside0.mk (Kd.V_afterv (Kd.V_apart_nil (vV_ af)) hg hat); replace HB := Aside0.mk (hb); have ag := Aside0.mk (ho); clear ho hb hg hat
      refine hK.out _ _ trivial (fun hHeld => ?_)
      clear hK K
      refine norm_ (a' := ?_) ?_ ?_
      rotate_left
      ·show Act.put _ (some 21) _ = _
       simp only [Act.put, List.setIfInBounds_toArray, List.set_cons_zero, List.set_cons_succ, i64_w, i32_w]
       rfl
      refine on_ (i := 10) (N := some 25) (tf 12 2047) HT_ (fun K hK => ?_)
      refine Kd.R_append_rows_step (Kd.int .i64) (w0 := w) w.heap.size (by rfl) (.tmp 21) (.tmp 24) 25 3 (.int .i64 0) 8 rfl Tryd.underlying25 info3 rfl (by decide) (by omega) v137 ac ab _ _ _ (fun k_ => (w.heap.size ≤ k_)) (fun _ => False) rfl rfl ?aO ?aR (fun _ _ h => h) (fun _ h => h.elim) ?aF ?aB ?aS ?aL ?_
      (case aR => exact cD_ (Kd.V_reads' af.out).2.2)
      (case aB => exact (hB_ HB))
      (case aF => exact (fun k_ hk => (Nat.le_trans (below_size (hB_ HB)) hk)))
      (case aO => exact (rR_ ag))
      (case aS => exact (below_size (hB_ HB)))
      (case aL => have := LMc10.out; omega)
      intro v145 w16 ho hb hg hat
      rw [← Ny144.out] at ho
      replace ae := Aside0.mk (Kd.V_afterv (ok := (fun k_ => (P0_ k_ ∨ w.heap.size ≤ k_))) (vV_ ae) hg hat); replace af := Aside0.mk (Kd.V_afterv (ok := (fun k_ => (P0_ k_ ∨ w.heap.size ≤ k_))) (vV_ af) hg hat); replace HB := Aside0.mk (hb); have ai := Aside0.mk (ho); clear ag ho hb hg hat
      refine hK.out _ _ trivial (fun hHeld => ?_)
      clear hK K
      refine norm_ (a' := ?_) ?_ ?_
      rotate_left
      ·show Act.put _ (some 25) _ = _
       simp only [Act.put, List.setIfInBounds_toArray, List.set_cons_zero, List.set_cons_succ, i64_w, i32_w]
       rfl
      refine pu_ (i := 11) (N := some 4) (tf 12 4095) HT_ ?_
      refine done_ (done_of HT_.out (by kernel_rfl)) ?_
      try go_wp2
      go_ret
      exact ⟨_, er_, Kd.V_mono (Kd.R_V (rR_ ai)) (fun k_ hk => by first | exact ⟨(.inr (hk.1)), hk.2⟩ | exact (.inr (hk))), hB_ HB⟩
     ·rw [if_neg c10] at H
      exact absurd H (by simp)
    ·rw [if_neg c7] at H
     exact absurd H (by simp)
   ·rw [if_neg c6] at H
    exact absurd H (by simp)
  ·rw [if_neg c5] at H
   exact absurd H (by simp)

/-! ### block_Address: function 81 -/
def block_Address.f (a0_0 a0_1 a1 : Int) : Option (Int) := some ((a0_0 + (a1)) % 4294967296)
set_option maxHeartbeats 8000000 in
set_option maxRecDepth 100000 in
theorem block_Address.calls (aa ab : Int) (a1 r : Int) (w : World) (h : block_Address.f aa ab a1 = some r) :
  Calls Tryd.prog 81 #[.agg #[.int .u32 aa, .int .i64 ab], .int .i64 a1] w fun e w' => e = .returned (.int .u32 r) ∧ Below w.heap.size w w' := by
 have hu24 := Tryd.underlying24
 have HB := Aside0.mk (Below.refl w.heap.size w)
 have H : (some ((aa + (a1)) % 4294967296)) = some r := h
 clear h
 obtain rfl := Option.some.inj H
 go_enter Tryd.func81, Tryd.ntmps81
 go_wp2_with (first | ((with_reducible refine gate_dst (N := 2) rfl ?_); refine bx_ (N := 2) (cs := #[.int .u32 aa, .int .i64 ab]) (t := 24) ?_; intro aj hg w3 ac hb; have ai := gG_ hg HB; have ah := gG_ hg HB; replace HB := hS_ HB hb; clear hb hg; obtain ⟨ad, ae, af, ag⟩ := cz2_ (w := w3) ac))
 go_ret
 exact ⟨er_, hB_ HB⟩

/-! ### spec_least: function 74 -/
mutual
def spec_least.l0 : Nat → List Int → Int → Int → Int → Int → List Int → Int → Int → Int → Int → Option (List Int × Int × Int × Bool × List Int × List Int)
 | 0, _, _, _, _, _, _, _, _, _, _ => none
 | k + 1, x1, x11, x12, x149000, x149001, x149002, x149003, x149004, x149005, x149006 => if x12 < x11 then ((block_Held.f k x149000 x149001 x149002 x149003 x149004 x149005 x149006 x12).bind fun t161 => (if t161 = true then (spec_least.j1 k x1 x12 x11 x12 false x149000 x149001 x149002 x149003 x149004 x149005 x149006) else ((model_Has.f k x1 x12).bind fun t162 => (spec_least.j1 k x1 x12 x11 x12 (!t162) x149000 x149001 x149002 x149003 x149004 x149005 x149006)))) else ((spec_fail.f 9).bind fun bt152 => (some (x1, bt152.1, bt152.2.1, bt152.2.2.1, bt152.2.2.2.1, bt152.2.2.2.2)))
def spec_least.j1 : Nat → List Int → Int → Int → Int → Bool → Int → Int → List Int → Int → Int → Int → Int → Option (List Int × Int × Int × Bool × List Int × List Int)
 | 0, _, _, _, _, _, _, _, _, _, _, _, _ => none
 | k + 1, x1, x8, x11, x12, x24, x149000, x149001, x149002, x149003, x149004, x149005, x149006 => if x24 = true then ((model_With.f k x1 x8).bind fun t163 => ((block_Address.f x149000 x149001 x8).bind fun t166 => (some (t163, 0, t166, false, ([] : List Int), ([] : List Int))))) else (spec_least.l0 k x1 x11 (wrap64 (x12 + 1)) x149000 x149001 x149002 x149003 x149004 x149005 x149006)
end
def spec_least.f (k : Nat) (a0_0 a0_1 : Int) (l0_2 : List Int) (a0_3 a0_4 : Int) (a0_5 a0_6 : Int) (l1 : List Int) (a2_0 a2_1 : Int) (l2_2 : List Int) : Option (List Int × Int × Int × Bool × List Int × List Int) := (block_Many.f a0_0 a0_1).bind fun t151 => (spec_least.l0 k l1 t151 0 a0_0 a0_1 l0_2 a0_3 a0_4 a0_5 a0_6)
theorem spec_least.mono_l : ∀ k, (∀ y0 y1 y2 y3 y4 y5 y6 y7 y8 y9, LeO (spec_least.l0 k y0 y1 y2 y3 y4 y5 y6 y7 y8 y9) (spec_least.l0 (k + 1) y0 y1 y2 y3 y4 y5 y6 y7 y8 y9)) ∧ (∀ y0 y1 y2 y3 y4 y5 y6 y7 y8 y9 y10 y11, LeO (spec_least.j1 k y0 y1 y2 y3 y4 y5 y6 y7 y8 y9 y10 y11) (spec_least.j1 (k + 1) y0 y1 y2 y3 y4 y5 y6 y7 y8 y9 y10 y11))
 | 0 => ⟨fun _ _ _ _ _ _ _ _ _ _ r h => by simp [spec_least.l0] at h, fun _ _ _ _ _ _ _ _ _ _ _ _ r h => by simp [spec_least.j1] at h⟩
 | k + 1 => by
  obtain ⟨ih0, ih1⟩ := spec_least.mono_l k
  refine ⟨?_, ?_⟩
  ·intro y0 y1 y2 y3 y4 y5 y6 y7 y8 y9
   unfold spec_least.l0
   repeat' (with_reducible first | apply ih0 | apply ih1 | apply block_Held.mono | apply model_Has.mono | apply model_With.mono | exact LeO.refl _ | exact LeO.none _ | refine LeO.ite ?_ ?_ | refine LeO.bind ?_ (fun _ => ?_))
  ·intro y0 y1 y2 y3 y4 y5 y6 y7 y8 y9 y10 y11
   unfold spec_least.j1
   repeat' (with_reducible first | apply ih0 | apply ih1 | apply block_Held.mono | apply model_Has.mono | apply model_With.mono | exact LeO.refl _ | exact LeO.none _ | refine LeO.ite ?_ ?_ | refine LeO.bind ?_ (fun _ => ?_))
theorem spec_least.mono : ∀ a0 a1 a2 a3 a4 a5 a6 a7 a8 a9 a10 k, LeO (spec_least.f k a0 a1 a2 a3 a4 a5 a6 a7 a8 a9 a10) (spec_least.f (k + 1) a0 a1 a2 a3 a4 a5 a6 a7 a8 a9 a10) := by
 intro a0 a1 a2 a3 a4 a5 a6 a7 a8 a9 a10 k
 obtain ⟨ih0, ih1⟩ := spec_least.mono_l k
 unfold spec_least.f
 repeat' (with_reducible first | apply ih0 | apply ih1 | apply block_Held.mono | apply model_Has.mono | apply model_With.mono | exact LeO.refl _ | exact LeO.none _ | refine LeO.ite ?_ ?_ | refine LeO.bind ?_ (fun _ => ?_))
def spec_least.T5 : Bool × List (List Nat × List Nat) := (true, [([], []), ([], []), ([0, 1], [0, 1]), ([], []), ([3], [3]), ([], []), ([4, 5, 2], [4, 5]), ([6], [6]), ([2, 6, 0, 1, 2], [2]), ([7, 8, 0, 1, 2, 3, 4, 5, 6, 7, 8], [7])])
def spec_least.B5 : List Nat := [0, 0, 3, 0, 8, 0, 63, 127, 127, 511]
theorem spec_least.tab5 : rtab .any (opsOf Tryd.f74 5) = spec_least.T5 := by kernel_rfl
theorem spec_least.bits5 : waitsOk spec_least.T5.2 spec_least.B5 = true := by kernel_rfl
set_option maxHeartbeats 8000000 in
set_option maxRecDepth 100000 in
theorem spec_least.calls (k : Nat) (ag ah : Int) (az : Option Addr) (aC : Nat) (aj : List Int) (an ao : Int) (ap aq : Int) (P1_ : Nat → Prop) (A1 : Option Addr) (c1 : Nat) (l1 : List Int) (aL aM : Int) (aK : Option Addr) (aN : Nat) (aD r1 : List Int) (r2 r3 : Int) (r4 : Bool) (r5 r6 : List Int) (w : World) (hr0_2 : Kd.C (Kd.int .i64) w az aj.length aj) (hc0_2 : aj.length ≤ aC) (cg : Kd.V (Kd.int .i64) 3 w w.heap.size (fun k_ => P1_ k_) (.slice A1 l1.length c1) l1) (hr2_2 : Kd.C (Kd.int .u32) w aK aD.length aD) (hc2_2 : aD.length ≤ aN) (h : spec_least.f k ag ah aj an ao ap aq l1 aL aM aD = some (r1, r2, r3, r4, r5, r6)) :
  Calls Tryd.prog 74 #[.agg #[.int .u32 ag, .int .i64 ah, .slice az aj.length aC, .int .i64 an, .int .i64 ao, .int .i64 ap, .int .i64 aq], .slice A1 l1.length c1, .agg #[.int .i64 aL, .int .u32 aM, .slice aK aD.length aN]] w fun e w' => ∃ v0_ v4_ v5_ : Value, e = .returned (.tuple #[v0_, .agg #[.int .i64 r2, .int .u32 r3, .bool r4, v4_, v5_]]) ∧ Kd.V (Kd.int .i64) 3 w' w.heap.size (fun k_ => (P1_ k_ ∨ w.heap.size ≤ k_) ∧ some k_ ≠ (v4_ : Value).ownBlock ∧ some k_ ≠ (v5_ : Value).ownBlock) v0_ r1 ∧ Kd.R (Kd.int .u32) 22 w' w.heap.size (fun k_ => (w.heap.size ≤ k_)) v4_ r5 ∧ Kd.R (Kd.int .i64) 31 w' w.heap.size (fun k_ => (w.heap.size ≤ k_)) v5_ r6 ∧ Below w.heap.size w w' := by
 have hu27 := Tryd.underlying27
 have hu30 := Tryd.underlying30
 have hu34 := Tryd.underlying34
 have hu24 := Tryd.underlying24
 have bb := Aside0.mk hr0_2
 have a8 := Aside0.mk hc0_2
 clear hr0_2 hc0_2
 have aH := Aside0.mk (show Kd.V (Kd.int .i64) 3 w w.heap.size (fun k_ => (P1_ k_ ∨ w.heap.size ≤ k_)) (.slice A1 l1.length c1) l1 from Kd.V_mono cg (fun k_ hk => .inl hk))
 have co := Aside0.mk hr2_2
 have cn := Aside0.mk hc2_2
 clear hr2_2 hc2_2
 have HB := Aside0.mk (Below.refl w.heap.size w)
 have H : ((block_Many.f ag ah).bind fun av => (spec_least.l0 k l1 av 0 ag ah aj an ao ap aq)) = some (r1, r2, r3, r4, r5, r6) := h
 clear h
 replace H := bi_ H
 obtain ⟨av, A40, H⟩ := H
 replace H : (spec_least.l0 k l1 av 0 ag ah aj an ao ap aq) = some (r1, r2, r3, r4, r5, r6) := H
 have A4 := Aside0.mk A40
 clear A40
 have H' := Aside0.mk H
 clear H
 go_enter Tryd.func74, Tryd.ntmps74
 go_wp2_with (first | ((with_reducible refine gate_dst (N := 3) rfl ?_); refine box_event ?hg (N := 3) ?hd (cs := #[.int .u32 ag, .int .i64 ah, .slice az aj.length aC, .int .i64 an, .int .i64 ao, .int .i64 ap, .int .i64 aq]) (t := 27) ?hr ?_; (case hd => rfl); (case hg => rfl); (case hr => first | (go_simp; done) | (go_simp; rfl)); intro au hg w5 hbox hb; replace aH := vE_ aH hg hb; have ac := Aside0.mk (hbox); have ck := gG_ hg HB; have ch := gG_ hg HB; replace HB := hS_ HB hb; clear hb hbox hg) | ((with_reducible refine gate_dst (N := 5) rfl ?_); refine box_event ?hg (N := 5) ?hd (cs := #[.int .i64 aL, .int .u32 aM, .slice aK aD.length aN]) (t := 30) ?hr ?_; (case hd => rfl); (case hg => rfl); (case hr => first | (go_simp; done) | (go_simp; rfl)); intro aE hg w6 hbox hb; replace aH := vE_ aH hg hb; have af := Aside0.mk (hbox); have cl := gG_ hg HB; have ci := gG_ hg HB; replace HB := hS_ HB hb; have aA := nL_ hg ac; have aB := nG_ hg ac; replace ac := bB_ ac hb; clear hb hbox hg) | ((with_reducible refine gate_dst (N := 7) rfl ?_); refine box_event ?hg (N := 7) ?hd (cs := #[.int .i64 0, .int .u32 0, .bool false, .slice none 0 0, .slice none 0 0]) (t := 34) ?hr ?_; (case hd => rfl); (case hg => rfl); (case hr => first | (go_simp; done) | (go_simp; rfl)); intro ab hg w7 hbox hb; replace aH := vE_ aH hg hb; have ad := Aside0.mk (hbox); have cm := gG_ hg HB; have cj := gG_ hg HB; have aa := nL_ hg ac; have ak := nG_ hg ac; have aw := nL_ hg af; have ax := nG_ hg af; replace af := bB_ af hb; replace ac := bB_ ac hb; replace HB := hS_ HB hb; clear hb hbox hg; have cH := aA.out; have cJ := aB.out; have cI := aa.out; have cK := ak.out; obtain ⟨aQ, aR, aS, aT, aU, aV, aW, aX, aY, aZ, a0, a1, a2, a3⟩ := cz7_ (w := w7) ac) | ((with_reducible refine gate_callee (f := 52) rfl ?_); refine gL_ (some 11) Tryd.func52 #[.agg #[.int .u32 ag, .int .i64 ah]] ?_; (with_reducible refine (block_Many.calls ag ah av _ A4.out).mono ?_); rintro e w11 ⟨rfl, hb⟩; refine ⟨_, rfl, ?_⟩; replace aH := vB_ aH hb; replace af := bB_ af hb; replace HB := hS_ HB hb; replace ac := bB_ ac hb; replace ad := bB_ ad hb; (try clear hb)))
 go_loopg [12] k (fun kq v12 w' => ∃ (ae ar al : Int) (ai : Bool), v12 = .int .i64 ae ∧ Aside0 (spec_least.l0 kq l1 av ae ag ah aj an ao ap aq = some (r1, r2, r3, r4, r5, r6)) ∧ Aside0 (kq ≤ k) ∧ Aside0 (Kd.V (Kd.int .i64) 3 w' w.heap.size (fun k_ => (P1_ k_ ∨ w.heap.size ≤ k_) ∧ k_ ≠ au ∧ k_ ≠ aE ∧ k_ ≠ ab) (.slice A1 l1.length c1) l1) ∧ Aside0 (w'.heap[au]? = some (.cells #[.int .u32 ag, .int .i64 ah, (.slice az aj.length aC), .int .i64 an, .int .i64 ao, .int .i64 ap, .int .i64 aq] 27 (0, 0))) ∧ Aside0 (w'.heap[aE]? = some (.cells #[.int .i64 aL, .int .u32 aM, (.slice aK aD.length aN)] 30 (0, 0))) ∧ Aside0 (w'.heap[ab]? = some (.cells #[.int .i64 ar, .int .u32 al, .bool ai, (.slice none 0 0), (.slice none 0 0)] 34 (0, 0))) ∧ Aside0 (Below w.heap.size w w'))
 case atStart => exact ⟨(0), (0), (0), (false), rs_, H', ⟨Nat.le_refl _⟩, ⟨Kd.V_mono (vV_ aH) (fun _ hk => ⟨hk.1.1.1, ⟨hk.1.1.2, ⟨hk.1.2, hk.2⟩⟩⟩)⟩, ⟨bk_ ac⟩, ⟨bk_ af⟩, ⟨bk_ ad⟩, ⟨hB_ HB⟩⟩
 case round =>
  clear H'
  try clear c1
  try clear c2
  try clear p2
  try clear c5
  try clear c7
  try clear c8
  try clear c9
  try clear aQ aR aS aT aU aV aW
  try clear aX aY aZ a0 a1 a2 a3
  obtain ⟨ae, ar, al, ai, rfl, HA, HK1, am, ac, af, ad, HB⟩ := hrel
  cases gk with
  | zero => exact absurd HA.out (by simp [spec_least.l0])
  | succ k1 =>
   have H := HA.out; clear HA; simp only [spec_least.l0] at H
   by_cases c12 : ae < av
   ·rw [if_pos c12] at H
    have bc : decide (ae < av) = true := decide_eq_true c12
    clear c12; have a6 := Aside0.mk H; clear H
    go_upto_region 4 with (fail)
    go_cut [24] (fun v24 wc => ∃ (kq : Nat) (aI : Bool), v24 = .bool aI ∧ Aside0 (spec_least.j1 kq l1 ae av ae aI ag ah aj an ao ap aq = some (r1, r2, r3, r4, r5, r6)) ∧ Aside0 (kq ≤ k1) ∧ Aside0 (Kd.V (Kd.int .i64) 3 wc w.heap.size (fun k_ => (P1_ k_ ∨ w.heap.size ≤ k_) ∧ k_ ≠ au ∧ k_ ≠ aE ∧ k_ ≠ ab) (.slice A1 l1.length c1) l1) ∧ Aside0 (wc.heap[au]? = some (.cells #[.int .u32 ag, .int .i64 ah, (.slice az aj.length aC), .int .i64 an, .int .i64 ao, .int .i64 ap, .int .i64 aq] 27 (0, 0))) ∧ Aside0 (wc.heap[aE]? = some (.cells #[.int .i64 aL, .int .u32 aM, (.slice aK aD.length aN)] 30 (0, 0))) ∧ Aside0 (wc.heap[ab]? = some (.cells #[.int .i64 ar, .int .u32 al, .bool ai, (.slice none 0 0), (.slice none 0 0)] 34 (0, 0))) ∧ Aside0 (Below w.heap.size w wc))
    case first =>
     have H := a6.out; clear a6; replace H := bi_ H; obtain ⟨bJ, A140, H⟩ := H
     replace H : (if bJ = true then (spec_least.j1 k1 l1 ae av ae false ag ah aj an ao ap aq) else ((model_Has.f k1 l1 ae).bind fun aG => (spec_least.j1 k1 l1 ae av ae (!aG) ag ah aj an ao ap aq))) = some (r1, r2, r3, r4, r5, r6) := H
     have A14 := Aside0.mk A140; clear A140
     by_cases c15 : bJ = true
     ·subst c15
      have H1 : (spec_least.j1 k1 l1 ae av ae false ag ah aj an ao ap aq) = some (r1, r2, r3, r4, r5, r6) := by rw [if_pos rfl] at H; exact H
      clear H; have H := H1; clear H1
      have H' := Aside0.mk H
      clear H; have cv := aA.out; have cB := aB.out; have cw := aa.out; have cC := ak.out; obtain ⟨bd, be, bf, bg, bh, bi, bj, br, bs, bt, bu, bv, bw, bx⟩ := cz7_ (w := wr) ac
      go_wp2_with (first | ((with_reducible refine gate_callee (f := 49) rfl ?_); refine gL_ (some 17) Tryd.func49 #[.agg #[.int .u32 ag, .int .i64 ah, .slice az aj.length aC, .int .i64 an, .int .i64 ao, .int .i64 ap, .int .i64 aq], .int .i64 ae] ?_; (with_reducible refine (block_Held.calls k1 ag ah _ _ aj an ao ap aq ae true _ ?side1 ?side2 A14.out).mono ?_); (case side1 => exact cC_ bb HB); (case side2 => exact a8.out); rintro e w19 ⟨rfl, hb⟩; refine ⟨_, rfl, ?_⟩; replace am := vB_ am hb; replace af := bB_ af hb; replace HB := hS_ HB hb; replace ac := bB_ ac hb; replace ad := bB_ ad hb; (try clear hb)))
      go_meet
      case rel => exact ⟨_, (false), rs_, H', ⟨by have := HK1.out; first | omega | exact Nat.le_refl _⟩, ⟨vV_ am⟩, ⟨bk_ ac⟩, ⟨bk_ af⟩, ⟨bk_ ad⟩, ⟨hB_ HB⟩⟩
     ·replace c15 := Bool.eq_false_iff.mpr c15
      subst c15
      have H1 : ((model_Has.f k1 l1 ae).bind fun aG => (spec_least.j1 k1 l1 ae av ae (!aG) ag ah aj an ao ap aq)) = some (r1, r2, r3, r4, r5, r6) := by rw [if_neg (show ¬ (false = true) by decide)] at H; exact H
      clear H; have H := H1; clear H1; replace H := bi_ H; obtain ⟨aG, A200, H⟩ := H
      replace H : (spec_least.j1 k1 l1 ae av ae (!aG) ag ah aj an ao ap aq) = some (r1, r2, r3, r4, r5, r6) := H
      have A20 := Aside0.mk A200; clear A200
      have H' := Aside0.mk H
      clear H; have cx := aA.out; have cD := aB.out; have cy := aa.out; have cE := ak.out; obtain ⟨bk, bl, bm, bn, bo, bp, bq, bz, bA, bB, bC, bD, bE, bF⟩ := cz7_ (w := wr) ac
      go_wp2_with (first | ((with_reducible refine gate_callee (f := 49) rfl ?_); refine gL_ (some 17) Tryd.func49 #[.agg #[.int .u32 ag, .int .i64 ah, .slice az aj.length aC, .int .i64 an, .int .i64 ao, .int .i64 ap, .int .i64 aq], .int .i64 ae] ?_; (with_reducible refine (block_Held.calls k1 ag ah _ _ aj an ao ap aq ae false _ ?side1 ?side2 A14.out).mono ?_); (case side1 => exact cC_ bb HB); (case side2 => exact a8.out); rintro e w24 ⟨rfl, hb⟩; refine ⟨_, rfl, ?_⟩; replace am := vB_ am hb; replace af := bB_ af hb; replace HB := hS_ HB hb; replace ac := bB_ ac hb; replace ad := bB_ ad hb; (try clear hb)) | (go_at_call 34; (with_reducible refine (model_Has.calls k1 _ _ l1 ae aG _ ?side1 ?side2 A20.out).mono ?_); (case side1 => exact cD_ (Kd.V_reads' am.out).2.2); (case side2 => exact (Kd.V_reads' am.out).2.1); rintro e w' ⟨rfl, ⟨nd, rfl⟩⟩))
      go_meet
      case rel => exact ⟨_, (!aG), rs_, H', ⟨by have := HK1.out; first | omega | exact Nat.le_refl _⟩, ⟨vV_ am⟩, ⟨bk_ ac⟩, ⟨bk_ af⟩, ⟨bk_ ad⟩, ⟨hB_ HB⟩⟩
    case rest =>
     clear a6
     try clear c1
     try clear c2
     try clear p2
     try clear c4
     try clear c5
     try clear c7
     try clear c8
     try clear c9
     try clear c12
     try clear bc
     try clear c15
     try clear c16
     try clear c17
     try clear c21
     try clear c22
     try clear aQ aR aS aT aU aV aW
     try clear bd be bf bg bh bi bj
     try clear bk bl bm bn bo bp bq
     try clear aX aY aZ a0 a1 a2 a3
     try clear br bs bt bu bv bw bx
     try clear bz bA bB bC bD bE bF
     try clear p2
     obtain ⟨kq, aI, rfl, HA, bH, am, ac, af, ad, HB⟩ := hcut
     cases kq with
     | zero => exact absurd HA.out (by simp [spec_least.j1])
     | succ kj12 =>
      have H := HA.out; clear HA; simp only [spec_least.j1] at H
      by_cases c25 : aI = true
      ·subst c25
       have H1 : ((model_With.f kj12 l1 ae).bind fun aP => ((block_Address.f ag ah ae).bind fun ay => (some (aP, 0, ay, false, ([] : List Int), ([] : List Int))))) = some (r1, r2, r3, r4, r5, r6) := by rw [if_pos rfl] at H; exact H
       clear H; have H := H1; clear H1; replace H := bi_ H; obtain ⟨aP, A260, H⟩ := H
       replace H : ((block_Address.f ag ah ae).bind fun ay => (some (aP, 0, ay, false, ([] : List Int), ([] : List Int)))) = some (r1, r2, r3, r4, r5, r6) := H
       have A26 := Aside0.mk A260; clear A260; replace H := bi_ H; obtain ⟨ay, A270, H⟩ := H
       replace H : (some (aP, 0, ay, false, ([] : List Int), ([] : List Int))) = some (r1, r2, r3, r4, r5, r6) := H
       have A27 := Aside0.mk A270; clear A270; simp only [Option.some.injEq, Prod.mk.injEq] at H; obtain ⟨rfl, rfl, rfl, rfl, rfl, rfl⟩ := H
       try go_wp2
       replace am := Aside0.mk (Kd.V_drew am.out); replace ac := Aside0.mk (blk_drew ac.out); replace af := Aside0.mk (blk_drew af.out); replace ad := Aside0.mk (blk_drew ad.out); replace HB := Aside0.mk (below_drew1 HB.out)
       refine start_ (n := 10) (S := fun w' => w'.cell? ⟨au, 0, none⟩ = some (.int .u32 ag) ∧ w'.cell? ⟨au, 1, none⟩ = some (.int .i64 ah) ∧ w'.cell? ⟨au, 2, none⟩ = some (.slice az aj.length aC) ∧ w'.cell? ⟨au, 3, none⟩ = some (.int .i64 an) ∧ w'.cell? ⟨au, 4, none⟩ = some (.int .i64 ao) ∧ w'.cell? ⟨au, 5, none⟩ = some (.int .i64 ap) ∧ w'.cell? ⟨au, 6, none⟩ = some (.int .i64 aq)) (ds := []) (tf 10 0) (by kernel_rfl) rfl rfl ⟨(blk_cell ac.out 0).trans rfl, (blk_cell ac.out 1).trans rfl, (blk_cell ac.out 2).trans rfl, (blk_cell ac.out 3).trans rfl, (blk_cell ac.out 4).trans rfl, (blk_cell ac.out 5).trans rfl, (blk_cell ac.out 6).trans rfl⟩ (fun hHeld => ?_); refine with_tabW spec_least.tab5 spec_least.bits5 (fun HT_ HW_ => ?_)
       generalize wc.drew = w28 at am ac af ad HB hHeld ⊢
       refine pu_ (i := 0) (N := some 25) (tf 10 1) HT_ ?_; refine pu_ (i := 1) (N := some 26) (tf 10 3) HT_ ?_; refine pu_ (i := 3) (N := some 28) (tf 10 11) HT_ ?_; refine pu_ (i := 5) (N := some 30) (tf 10 43) HT_ ?_; refine tk_ (i := 4) (N := some 29) (tf 10 59) rfl rfl HT_ HW_ hHeld (by rintro w' ⟨s0, s1, s2, s3, s4, s5, s6⟩; go_simp; with_reducible rfl) ?_
       refine on_ (i := 2) (N := some 27) (tf 10 63) HT_ (fun K hK => ?_)
       refine goes_ Tryd.func35 (by kernel_rfl) rfl #[.slice A1 l1.length c1, .int .i64 ae] (by rfl) rfl rfl am_ ?_
       with_reducible refine (model_With.calls kj12 (fun k_ => ((P1_ k_ ∨ w.heap.size ≤ k_) ∧ (k_ ≠ au ∧ (k_ ≠ aE ∧ k_ ≠ ab)))) _ _ l1 ae aP _ ?side1 A26.out).mono ?_
       (case side1 => exact am.out)
       rintro e w29 ⟨v164, rfl, ho0, hb⟩
       refine ⟨_, rfl, ?_⟩
       replace am := vB_ am hb; have a4 := Aside0.mk (Kd.V_lower (Kd.V_mono (ok' := fun k_ => (P1_ k_ ∨ w.heap.size ≤ k_) ∧ k_ ≠ au ∧ k_ ≠ aE ∧ k_ ≠ ab) ho0 (fun k_ hk_ => ⟨Or.elim hk_ (fun hs_ => hs_.1) (fun hn_ => (.inr (Nat.le_trans (below_size (hB_ HB)) hn_))), Or.elim hk_ (fun hs_ => hs_.2.1) (fun hn_ => (fB_ ac k_ hn_)), Or.elim hk_ (fun hs_ => hs_.2.2.1) (fun hn_ => (fB_ af k_ hn_)), Or.elim hk_ (fun hs_ => hs_.2.2.2) (fun hn_ => (fB_ ad k_ hn_))⟩)) (below_size (hB_ HB))); replace ac := bB_ ac hb; replace af := bB_ af hb; replace ad := bB_ ad hb; replace HB := hS_ HB hb
       (try clear hb)
       (try clear hb2)
       (try clear hk)
       (try clear hi)
       (try clear ho0)
       refine hK.out _ _ (cl7_ ac) (fun hHeld => ?_)
       clear hK K
       refine norm_ (a' := ?_) ?_ ?_
       rotate_left
       ·show Act.put _ (some 27) _ = _
        simp only [Act.put, List.setIfInBounds_toArray, List.set_cons_zero, List.set_cons_succ, i64_w, i32_w]
        rfl
       refine on_ (i := 6) (N := some 31) (tf 10 127) HT_ (fun K hK => ?_)
       refine goes_ Tryd.func81 (by kernel_rfl) rfl #[.agg #[.int .u32 ag, .int .i64 ah], .int .i64 ae] (by rfl) rfl rfl am_ ?_
       with_reducible refine (block_Address.calls ag ah ae ay _ A27.out).mono ?_
       rintro e w30 ⟨rfl, hb⟩
       refine ⟨_, rfl, ?_⟩
       replace am := vB_ am hb; replace a4 := vB_ a4 hb; replace ac := bB_ ac hb; replace af := bB_ af hb; replace ad := bB_ ad hb; replace HB := hS_ HB hb
       (try clear hb)
       (try clear hb2)
       (try clear hk)
       (try clear hi)
       refine hK.out _ _ (cl7_ ac) (fun hHeld => ?_)
       clear hK K
       refine norm_ (a' := ?_) ?_ ?_
       rotate_left
       ·show Act.put _ (some 31) _ = _
        simp only [Act.put, List.setIfInBounds_toArray, List.set_cons_zero, List.set_cons_succ, i64_w, i32_w]
        rfl
       refine pu_ (i := 7) (N := some 32) (tf 10 255) HT_ ?_; refine pu_ (i := 8) (N := some 6) (tf 10 511) HT_ ?_
       refine on_ (i := 9) (N := none) (tf 10 1023) HT_ (fun K hK => ?_)
       have cL : w30.cell? ⟨ab, 0, none⟩ = some (.int .i64 ar) := (blk_cell ad.out 0).trans rfl
       have cp := blk_frozen ad.out 0; have b6 := aa.out; have b7 := aw.out; have bW := ak.out; have bX := ax.out
       have cM : w30.cell? ⟨ab, 1, none⟩ = some (.int .u32 al) := (blk_cell ad.out 1).trans rfl
       have cq := blk_frozen ad.out 1; have b8 := aa.out; have b9 := aw.out; have bY := ak.out; have bZ := ax.out
       have cN : w30.cell? ⟨ab, 2, none⟩ = some (.bool ai) := (blk_cell ad.out 2).trans rfl
       have cr := blk_frozen ad.out 2; have ca := aa.out; have cb := aw.out; have b0 := ak.out; have b1 := ax.out
       have cO : w30.cell? ⟨ab, 3, none⟩ = some (.slice none 0 0) := (blk_cell ad.out 3).trans rfl
       have ct := blk_frozen ad.out 3; have cc := aa.out; have cd := aw.out; have b2 := ak.out; have b3 := ax.out
       have cP : w30.cell? ⟨ab, 4, none⟩ = some (.slice none 0 0) := (blk_cell ad.out 4).trans rfl
       have cu := blk_frozen ad.out 4; have ce := aa.out; have cf := aw.out; have b4 := ak.out; have b5 := ax.out
       refine skip_ (w1 := ?_) (by rfl) rfl ?_ ?_
       rotate_left
       ·go_simp
        rfl
       refine hK.out _ _ ⟨((cell_far (p := ⟨ab, _, none⟩) aa.out _).trans (((cell_far (p := ⟨ab, _, none⟩) aa.out _).trans (((cell_far (p := ⟨ab, _, none⟩) aa.out _).trans (((cell_far (p := ⟨ab, _, none⟩) aa.out _).trans (((cell_far (p := ⟨ab, _, none⟩) aa.out _).trans (hHeld.1)))))))))), ((cell_far (p := ⟨ab, _, none⟩) aa.out _).trans (((cell_far (p := ⟨ab, _, none⟩) aa.out _).trans (((cell_far (p := ⟨ab, _, none⟩) aa.out _).trans (((cell_far (p := ⟨ab, _, none⟩) aa.out _).trans (((cell_far (p := ⟨ab, _, none⟩) aa.out _).trans (hHeld.2.1)))))))))), ((cell_far (p := ⟨ab, _, none⟩) aa.out _).trans (((cell_far (p := ⟨ab, _, none⟩) aa.out _).trans (((cell_far (p := ⟨ab, _, none⟩) aa.out _).trans (((cell_far (p := ⟨ab, _, none⟩) aa.out _).trans (((cell_far (p := ⟨ab, _, none⟩) aa.out _).trans (hHeld.2.2.1)))))))))), ((cell_far (p := ⟨ab, _, none⟩) aa.out _).trans (((cell_far (p := ⟨ab, _, none⟩) aa.out _).trans (((cell_far (p := ⟨ab, _, none⟩) aa.out _).trans (((cell_far (p := ⟨ab, _, none⟩) aa.out _).trans (((cell_far (p := ⟨ab, _, none⟩) aa.out _).trans (hHeld.2.2.2.1)))))))))), ((cell_far (p := ⟨ab, _, none⟩) aa.out _).trans (((cell_far (p := ⟨ab, _, none⟩) aa.out _).trans (((cell_far (p := ⟨ab, _, none⟩) aa.out _).trans (((cell_far (p := ⟨ab, _, none⟩) aa.out _).trans (((cell_far (p := ⟨ab, _, none⟩) aa.out _).trans (hHeld.2.2.2.2.1)))))))))), ((cell_far (p := ⟨ab, _, none⟩) aa.out _).trans (((cell_far (p := ⟨ab, _, none⟩) aa.out _).trans (((cell_far (p := ⟨ab, _, none⟩) aa.out _).trans (((cell_far (p := ⟨ab, _, none⟩) aa.out _).trans (((cell_far (p := ⟨ab, _, none⟩) aa.out _).trans (hHeld.2.2.2.2.2.1)))))))))), ((cell_far (p := ⟨ab, _, none⟩) aa.out _).trans (((cell_far (p := ⟨ab, _, none⟩) aa.out _).trans (((cell_far (p := ⟨ab, _, none⟩) aa.out _).trans (((cell_far (p := ⟨ab, _, none⟩) aa.out _).trans (((cell_far (p := ⟨ab, _, none⟩) aa.out _).trans (hHeld.2.2.2.2.2.2))))))))))⟩ (fun hHeld => ?_)
       clear hK K
       refine done_ (done_of HT_.out (by kernel_rfl)) ?_
       try go_wp2
       refine bodyPost_ret (results_tc rfl _ _ ab 34 #[.int .i64 0, .int .u32 ay, .bool false, .slice none 0 0, .slice none 0 0] (0, 0) _ rfl (by (with_reducible repeat (first | refine blk_drewN ?_ _ | refine blk_drew ?_ | refine blk_alloc ?_ _)); refine blk_put (cs := #[.int .i64 0, .int .u32 ay, .bool false, .slice none 0 0, .slice none 0 0]) ?_ 4 _ rfl; refine blk_put (cs := #[.int .i64 0, .int .u32 ay, .bool false, .slice none 0 0, .slice none 0 0]) ?_ 3 _ rfl; refine blk_put (cs := #[.int .i64 0, .int .u32 ay, .bool ai, .slice none 0 0, .slice none 0 0]) ?_ 2 _ rfl; refine blk_put (cs := #[.int .i64 0, .int .u32 al, .bool ai, .slice none 0 0, .slice none 0 0]) ?_ 1 _ rfl; refine blk_put (cs := #[.int .i64 ar, .int .u32 al, .bool ai, .slice none 0 0, .slice none 0 0]) ?_ 0 _ rfl; (with_reducible repeat (first | refine blk_drewN ?_ _ | refine blk_drew ?_ | refine blk_alloc ?_ _)); exact ad.out) Tryd.underlying34 rfl (by kernel_rfl)) rfl ?_
       exact ⟨_, _, _, er_, by (with_reducible repeat (first | apply Kd.V_alloc | apply Kd.V_drewN | apply Kd.V_drew)); exact Kd.V_mono (vF5_ (g := ab) (Kd.V_mono a4.out (fun k_ hk => (⟨hk, hk.2.2.2⟩ : _ ∧ k_ ≠ ab))) (fun _ hk => hk.2)) (fun _ hk => ⟨hk.1.1, ⟨(by simp [Value.ownBlock]), (by simp [Value.ownBlock])⟩⟩), by first | exact Kd.R_nil _ _ _ _ _ | exact Kd.N_nil _ _ _ _ _ | exact Kd.V_nil _ _ _ _ _ | exact Kd.Q_nil _ _ _ _ _ | exact Kd.S_nil _ _ _ _ _, by first | exact Kd.R_nil _ _ _ _ _ | exact Kd.N_nil _ _ _ _ _ | exact Kd.V_nil _ _ _ _ _ | exact Kd.Q_nil _ _ _ _ _ | exact Kd.S_nil _ _ _ _ _, hB_ HB⟩
      ·replace c25 := Bool.eq_false_iff.mpr c25
       subst c25
       have H1 : (spec_least.l0 kj12 l1 av (wrap64 (ae + 1)) ag ah aj an ao ap aq) = some (r1, r2, r3, r4, r5, r6) := by rw [if_neg (show ¬ (false = true) by decide)] at H; exact H
       clear H; have H := H1; clear H1
       have H' := Aside0.mk H
       clear H
       go_wp2
       go_roundg kj12
       case measure => have := HK1.out; have := bH.out; omega
       case rel => exact ⟨(wrap64 (ae + 1)), (ar), (al), (ai), rs_, H', ⟨om2_ HK1 bH⟩, ⟨vV_ am⟩, ⟨bk_ ac⟩, ⟨bk_ af⟩, ⟨bk_ ad⟩, ⟨hB_ HB⟩⟩
   ·rw [if_neg c12] at H
    have bc : decide (ae < av) = false := decide_eq_false c12
    clear c12; replace H := bi_ H; obtain ⟨⟨aF, aJ, aO, a5, a7⟩, A360, H⟩ := H
    replace H : (some (l1, aF, aJ, aO, a5, a7)) = some (r1, r2, r3, r4, r5, r6) := H
    have A36 := Aside0.mk A360; clear A360; simp only [Option.some.injEq, Prod.mk.injEq] at H; obtain ⟨rfl, rfl, rfl, rfl, rfl, rfl⟩ := H
    go_wp2_with (first | ((with_reducible refine gate_callee (f := 31) rfl ?_); refine gL_ (some 35) Tryd.func31 #[.int .i64 9] ?_; (with_reducible refine (spec_fail.calls 9 aF aJ aO a5 a7 _ A36.out).mono ?_); rintro e w37 ⟨v156, v159, rfl, ho0, ho1, hb⟩; refine ⟨_, rfl, ?_⟩; replace am := Aside0.mk (Kd.V_mono (Kd.V_told (Kd.V_told (Kd.V_old (vV_ am) hb) (Kd.R_base ho0)) (Kd.R_base ho1)) (fun _ h_ => h_.1)); have a9 := Aside0.mk (Kd.R_lower (Kd.R_newM (M := fun k_ => (w.heap.size ≤ k_)) ho0 (below_size (hB_ HB)) (fun k_ h_ => h_)) (below_size (hB_ HB))); have ba := Aside0.mk (Kd.R_lower (Kd.R_newM (M := fun k_ => (w.heap.size ≤ k_)) ho1 (below_size (hB_ HB)) (fun k_ h_ => h_)) (below_size (hB_ HB))); replace HB := hS_ HB hb; replace ad := bB_ ad hb; (try clear hb); (try clear ho0); (try clear ho1); have cz := ak.out; have cF := aa.out; have cA := ax.out; have cG := aw.out; obtain ⟨bM, bN, bO, bP, bQ, bR, bS, bT, bU, bV⟩ := cz5_ (w := w37) ad; obtain ⟨bG, bI, eo41⟩ := Kd.R_slice a9.out; subst eo41; obtain ⟨bK, bL, eo42⟩ := Kd.R_slice ba.out; subst eo42))
    refine bodyPost_ret (results_tc rfl _ _ ab 34 #[.int .i64 aF, .int .u32 aJ, .bool aO, .slice bG a5.length bI, .slice bK a7.length bL] (0, 0) _ rfl (by (with_reducible repeat (first | refine blk_drewN ?_ _ | refine blk_drew ?_ | refine blk_alloc ?_ _)); refine blk_put (cs := #[.int .i64 aF, .int .u32 aJ, .bool aO, .slice bG a5.length bI, .slice none 0 0]) ?_ 4 _ rfl; refine blk_put (cs := #[.int .i64 aF, .int .u32 aJ, .bool aO, .slice none 0 0, .slice none 0 0]) ?_ 3 _ rfl; refine blk_put (cs := #[.int .i64 aF, .int .u32 aJ, .bool ai, .slice none 0 0, .slice none 0 0]) ?_ 2 _ rfl; refine blk_put (cs := #[.int .i64 aF, .int .u32 al, .bool ai, .slice none 0 0, .slice none 0 0]) ?_ 1 _ rfl; refine blk_put (cs := #[.int .i64 ar, .int .u32 al, .bool ai, .slice none 0 0, .slice none 0 0]) ?_ 0 _ rfl; (with_reducible repeat (first | refine blk_drewN ?_ _ | refine blk_drew ?_ | refine blk_alloc ?_ _)); exact ad.out) Tryd.underlying34 rfl (by kernel_rfl)) rfl ?_
    exact ⟨_, _, _, er_, by (with_reducible repeat (first | apply Kd.V_alloc | apply Kd.V_drewN | apply Kd.V_drew)); exact Kd.V_mono (vF5_ (g := ab) (Kd.V_mono am.out (fun k_ hk => (⟨hk, hk.1.1.2.2.2⟩ : _ ∧ k_ ≠ ab))) (fun _ hk => hk.2)) (fun _ hk => ⟨hk.1.1.1.1, ⟨hk.1.1.2, hk.1.2⟩⟩), by (with_reducible repeat (first | apply Kd.R_alloc | apply Kd.R_drewN | apply Kd.R_drew)); exact Kd.R_mono (rF5_ (g := ab) (Kd.R_types a9.out ad.out (by decide)) (fun _ hk => hk.2)) (fun _ hk => hk.1.1), by (with_reducible repeat (first | apply Kd.R_alloc | apply Kd.R_drewN | apply Kd.R_drew)); exact Kd.R_mono (rF5_ (g := ab) (Kd.R_types ba.out ad.out (by decide)) (fun _ hk => hk.2)) (fun _ hk => hk.1.1), hB_ HB⟩

/-! ### spec_offset: function 82 -/
def spec_offset.f (k : Nat) (a0_0 a0_1 : Int) (l0_2 : List Int) (a0_3 a0_4 : Int) (a0_5 a0_6 a1 : Int) : Option (Int) := (block_Find.f k a0_0 a0_1 l0_2 a0_3 a0_4 a0_5 a0_6 a1).bind fun bt168 => (some bt168.1)
theorem spec_offset.mono : ∀ a0 a1 a2 a3 a4 a5 a6 a7 k, LeO (spec_offset.f k a0 a1 a2 a3 a4 a5 a6 a7) (spec_offset.f (k + 1) a0 a1 a2 a3 a4 a5 a6 a7) := by
 intro a0 a1 a2 a3 a4 a5 a6 a7 k
 unfold spec_offset.f
 repeat' (with_reducible first | apply block_Find.mono | exact LeO.refl _ | exact LeO.none _ | refine LeO.ite ?_ ?_ | refine LeO.bind ?_ (fun _ => ?_))
set_option maxHeartbeats 8000000 in
set_option maxRecDepth 100000 in
theorem spec_offset.calls (k : Nat) (ab ac : Int) (ah : Option Addr) (ai : Nat) (aa : List Int) (ad ae : Int) (af ag : Int) (a1 r : Int) (w : World) (hr0_2 : Kd.C (Kd.int .i64) w ah aa.length aa) (hc0_2 : aa.length ≤ ai) (h : spec_offset.f k ab ac aa ad ae af ag a1 = some r) :
  Calls Tryd.prog 82 #[.agg #[.int .u32 ab, .int .i64 ac, .slice ah aa.length ai, .int .i64 ad, .int .i64 ae, .int .i64 af, .int .i64 ag], .int .u32 a1] w fun e w' => e = .returned (.int .i64 r) ∧ Below w.heap.size w w' := by
 have hu27 := Tryd.underlying27
 have am := Aside0.mk hr0_2
 have al := Aside0.mk hc0_2
 clear hr0_2 hc0_2
 have HB := Aside0.mk (Below.refl w.heap.size w)
 have H : ((block_Find.f k ab ac aa ad ae af ag a1).bind fun bt168 => (some bt168.1)) = some r := h
 clear h
 replace H := bi_ H
 obtain ⟨⟨aj, an⟩, A30, H⟩ := H
 replace H : (some aj) = some r := H
 have A3 := Aside0.mk A30
 clear A30
 obtain rfl := Option.some.inj H
 go_enter Tryd.func82, Tryd.ntmps82
 go_wp2_with (first | ((with_reducible refine gate_dst (N := 2) rfl ?_); refine bx_ (N := 2) (cs := #[.int .u32 ab, .int .i64 ac, .slice ah aa.length ai, .int .i64 ad, .int .i64 ae, .int .i64 af, .int .i64 ag]) (t := 27) ?_; intro aG hg w4 ak hb; have aF := gG_ hg HB; have aE := gG_ hg HB; replace HB := hS_ HB hb; clear hb hg; obtain ⟨ao, ap, aq, ar, au, av, aw, ax, ay, az, aA, aB, aC, aD⟩ := cz7_ (w := w4) ak) | ((with_reducible refine gate_callee (f := 33) rfl ?_); refine gL_ (some 10) Tryd.func33 #[.agg #[.int .u32 ab, .int .i64 ac, .slice ah aa.length ai, .int .i64 ad, .int .i64 ae, .int .i64 af, .int .i64 ag], .int .u32 a1] ?_; (with_reducible refine (block_Find.calls k ab ac _ _ aa ad ae af ag a1 aj an _ ?side1 ?side2 A3.out).mono ?_); (case side1 => exact cC_ am HB); (case side2 => exact al.out); rintro e w6 ⟨rfl, hb⟩; refine ⟨_, rfl, ?_⟩; replace HB := hS_ HB hb; (try clear hb)))
 go_ret
 exact ⟨er_, hB_ HB⟩

end Go.Proofs.YtkiimboedgnoiaaDoor.PSpecBack
