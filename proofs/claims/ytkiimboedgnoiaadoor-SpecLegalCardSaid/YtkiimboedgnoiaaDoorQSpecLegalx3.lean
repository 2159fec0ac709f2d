/- The walk of SpecLegal, part of it: what the Go functions answer; no condition. -/
import Derived.Test.YtkiimboedgnoiaaDoorQSpecLegalx0
import Derived.Test.YtkiimboedgnoiaaDoorQSpecLegalx1
import Derived.Test.YtkiimboedgnoiaaDoorQSpecLegalx2
namespace Go.Proofs.YtkiimboedgnoiaaDoor.PSpecLegal
open Go.RowKit Go.Proofs.YtkiimboedgnoiaaDoorW.PrintWords Go.Proofs.YtkiimboedgnoiaaDoorW.PrintLast Go.Proofs.YtkiimboedgnoiaaDoorW.PrintMore
attribute [local go_sem] max2_int min2_int max_two min_two max_three min_three max_four min_four   -- for this text's walks alone
set_option linter.unusedVariables false
set_option linter.unusedSimpArgs false

/-! ### model_With: function 35 -/
def model_With.f (k : Nat) (l0 : List Int) (a1 : Int) : Option (List Int) := (slices_BinarySearch_int_int.f k l0 a1).bind fun bt131 => (if bt131.2 = true then (some l0) else (if 0 ≤ bt131.1 then (if bt131.1 ≤ (l0.length : Int) then ((some (l0.take (bt131.1 : Int).toNat : List Int)).bind fun y133 => (if y133.length < 17592186044416 then ((some (y133 ++ [a1] : List Int)).bind fun y136 => ((some (l0.drop (bt131.1 : Int).toNat : List Int)).bind fun y139 => (if y136.length + y139.length < 17592186044416 then (some (y136 ++ y139)) else (none)))) else (none))) else (none)) else (none)))
theorem model_With.mono : ∀ a0 a1 k, LeO (model_With.f k a0 a1) (model_With.f (k + 1) a0 a1) := by
 intro a0 a1 k
 unfold model_With.f
 repeat' first
   | (with_reducible exact slices_BinarySearch_int_int.mono _ _ _)
   | (with_reducible exact LeO.refl _)
   | (with_reducible exact LeO.none _)
   | (with_reducible refine LeO.ite ?_ ?_)
   | (with_reducible refine LeO.bind ?_ (fun _ => ?_))
   | exact slices_BinarySearch_int_int.mono _ _ _
   | exact LeO.none _
   | refine LeO.ite ?_ ?_
   | refine LeO.bind ?_ (fun _ => ?_)
def model_With.T4 : Bool × List (List Nat × List Nat) := (true, [([], []), ([], []), ([], []), ([0, 1, 2], [0, 1, 2]), ([], []), ([4], [4]), ([3, 5], [3, 5]), ([], []), ([], []), ([7, 8], [7, 8]), ([6, 9, 6], [6, 9]), ([10, 10, 0, 1, 2, 3, 4, 5, 6, 7, 8, 9, 10], [10])])
def model_With.B4 : List Nat := [0, 0, 0, 7, 0, 16, 63, 0, 0, 384, 1023, 2047]
theorem model_With.tab4 : rtab .any (opsOf Tryd.f35 4) = model_With.T4 := by kernel_rfl
theorem model_With.bits4 : waitsOk model_With.T4.2 model_With.B4 = true := by kernel_rfl
set_option maxHeartbeats 8000000 in
set_option maxRecDepth 100000 in
theorem model_With.calls (k : Nat) (P0_ : Nat → Prop) (A0 : Option Addr) (c0 : Nat) (l0 : List Int) (a1 : Int) (r : List Int) (w : World) (hs0 : Kd.V (Kd.int .i64) 3 w w.heap.size (fun k_ => P0_ k_) (.slice A0 l0.length c0) l0) (h : model_With.f k l0 a1 = some r) :
  Calls Tryd.prog 35 #[.slice A0 l0.length c0, .int .i64 a1] w fun e w' => ∃ v0_ : Value, e = .returned (v0_) ∧ Kd.V (Kd.int .i64) 3 w' w.heap.size (fun k_ => (P0_ k_ ∨ w.heap.size ≤ k_)) v0_ r ∧ Below w.heap.size w w' := by
 have HO0 := Aside0.mk (show Kd.V (Kd.int .i64) 3 w w.heap.size (fun k_ => (P0_ k_ ∨ w.heap.size ≤ k_)) (.slice A0 l0.length c0) l0 from Kd.V_mono hs0 (fun k_ hk => .inl hk))
 have HB := Aside0.mk (Below.refl w.heap.size w)
 have H : ((slices_BinarySearch_int_int.f k l0 a1).bind fun bt131 => (if bt131.2 = true then (some l0) else (if 0 ≤ bt131.1 then (if bt131.1 ≤ (l0.length : Int) then ((some (l0.take (bt131.1 : Int).toNat : List Int)).bind fun y133 => (if y133.length < 17592186044416 then ((some (y133 ++ [a1] : List Int)).bind fun y136 => ((some (l0.drop (bt131.1 : Int).toNat : List Int)).bind fun y139 => (if y136.length + y139.length < 17592186044416 then (some (y136 ++ y139)) else (none)))) else (none))) else (none)) else (none)))) = some r := h
 clear h
 replace H := Option.bind_eq_some_iff.mp H
 obtain ⟨⟨t131, t132⟩, A30, H⟩ := H
 replace H : (if t132 = true then (some l0) else (if 0 ≤ t131 then (if t131 ≤ (l0.length : Int) then ((some (l0.take (t131 : Int).toNat : List Int)).bind fun y133 => (if y133.length < 17592186044416 then ((some (y133 ++ [a1] : List Int)).bind fun y136 => ((some (l0.drop (t131 : Int).toNat : List Int)).bind fun y139 => (if y136.length + y139.length < 17592186044416 then (some (y136 ++ y139)) else (none)))) else (none))) else (none)) else (none))) = some r := H
 have A3 := Aside0.mk A30
 clear A30
 by_cases c4 : t132 = true
 ·subst c4
  have H1 : (some l0) = some r := by rw [if_pos rfl] at H; exact H
  clear H; have H := H1; clear H1
  obtain rfl := Option.some.inj H
  go_enter Tryd.func35, Tryd.ntmps35
  go_wp2_with (first | ((with_reducible refine gate_callee (f := 50) rfl ?_); refine goesL_ (some 10) rfl rfl Tryd.func50 (by kernel_rfl) rfl #[.slice A0 l0.length c0, .int .i64 a1] rfl am_ ?_; (with_reducible refine (slices_BinarySearch_int_int.calls k _ _ l0 a1 t131 true _ ?side1 ?side2 A3.out).mono ?_); (case side1 => repeat (first | exact (Kd.V_reads' HO0.out).2.2 | (with_reducible refine Kd.C_alloc ?_ _) | (with_reducible refine Kd.C_drewN ?_ _) | (with_reducible refine Kd.C_drew ?_))); (case side2 => exact (Kd.V_reads' HO0.out).2.1); rintro e w' ⟨rfl, ⟨nd, rfl⟩⟩; refine ⟨_, rfl, ?_⟩))
  go_ret
  exact ⟨_, er_, by (with_reducible repeat (first | apply Kd.V_alloc | apply Kd.V_drewN | apply Kd.V_drew)); exact HO0.out, hB_ HB⟩
 ·replace c4 := Bool.eq_false_iff.mpr c4
  subst c4
  have H1 : (if 0 ≤ t131 then (if t131 ≤ (l0.length : Int) then ((some (l0.take (t131 : Int).toNat : List Int)).bind fun y133 => (if y133.length < 17592186044416 then ((some (y133 ++ [a1] : List Int)).bind fun y136 => ((some (l0.drop (t131 : Int).toNat : List Int)).bind fun y139 => (if y136.length + y139.length < 17592186044416 then (some (y136 ++ y139)) else (none)))) else (none))) else (none)) else (none)) = some r := by rw [if_neg (show ¬ (false = true) by decide)] at H; exact H
  clear H; have H := H1; clear H1
  by_cases c5 : 0 ≤ t131
  ·rw [if_pos c5] at H
   have c5b0 := eq_true c5
   have c5b1 : decide (0 ≤ t131) = true := decide_eq_true c5
   clear c5
   by_cases c6 : t131 ≤ (l0.length : Int)
   ·rw [if_pos c6] at H
    have c6b0 := eq_true c6
    have c6b1 : decide (t131 ≤ (l0.length : Int)) = true := decide_eq_true c6
    clear c6; obtain ⟨y133, hy133⟩ : ∃ y_ : List Int, y_ = (l0.take (t131 : Int).toNat) := ⟨_, rfl⟩
    replace H : (if y133.length < 17592186044416 then ((some (y133 ++ [a1] : List Int)).bind fun y136 => ((some (l0.drop (t131 : Int).toNat : List Int)).bind fun y139 => (if y136.length + y139.length < 17592186044416 then (some (y136 ++ y139)) else (none)))) else (none)) = some r := by first | (rw [hy133]; with_reducible exact H) | (have H2_ := (Option.bind_some _ _).symm.trans H; rw [hy133]; with_reducible exact H2_) | (have H2_ := (Option.bind_some _ _).symm.trans H; with_reducible exact H2_) | with_reducible exact H | (rw [hy133]; exact H) | exact H
    have Ny133 := Aside0.mk hy133; clear hy133
    by_cases c7 : y133.length < 17592186044416
    ·rw [if_pos c7] at H
     have LMc7 := Aside0.mk c7; clear c7; obtain ⟨y136, hy136⟩ : ∃ y_ : List Int, y_ = (y133 ++ [a1]) := ⟨_, rfl⟩
     replace H : ((some (l0.drop (t131 : Int).toNat : List Int)).bind fun y139 => (if y136.length + y139.length < 17592186044416 then (some (y136 ++ y139)) else (none))) = some r := by first | (rw [hy136]; with_reducible exact H) | (have H2_ := (Option.bind_some _ _).symm.trans H; rw [hy136]; with_reducible exact H2_) | (have H2_ := (Option.bind_some _ _).symm.trans H; with_reducible exact H2_) | with_reducible exact H | (rw [hy136]; exact H) | exact H
     have Ny136 := Aside0.mk hy136; clear hy136; have c8b0 := eq_true (od_ : 0 ≤ t131); have c9b0 := eq_true (od_ : t131 ≤ (l0.length : Int)); obtain ⟨y139, hy139⟩ : ∃ y_ : List Int, y_ = (l0.drop (t131 : Int).toNat) := ⟨_, rfl⟩
     replace H : (if y136.length + y139.length < 17592186044416 then (some (y136 ++ y139)) else (none)) = some r := by first | (rw [hy139]; with_reducible exact H) | (have H2_ := (Option.bind_some _ _).symm.trans H; rw [hy139]; with_reducible exact H2_) | (have H2_ := (Option.bind_some _ _).symm.trans H; with_reducible exact H2_) | with_reducible exact H | (rw [hy139]; exact H) | exact H
     have Ny139 := Aside0.mk hy139; clear hy139
     by_cases c10 : y136.length + y139.length < 17592186044416
     ·rw [if_pos c10] at H
      have LMc10 := Aside0.mk c10; clear c10; obtain ⟨y144, hy144⟩ : ∃ y_ : List Int, y_ = (y136 ++ y139) := ⟨_, rfl⟩
      replace H : (some y144) = some r := by first | (rw [hy144]; with_reducible exact H) | (have H2_ := (Option.bind_some _ _).symm.trans H; rw [hy144]; with_reducible exact H2_) | (have H2_ := (Option.bind_some _ _).symm.trans H; with_reducible exact H2_) | with_reducible exact H | (rw [hy144]; exact H) | exact H
      have Ny144 := Aside0.mk hy144; clear hy144
      obtain rfl := Option.some.inj H
      go_enter Tryd.func35, Tryd.ntmps35
      try go_wp2_with (first | ((with_reducible refine gate_callee (f := 50) rfl ?_); refine goesL_ (some 10) rfl rfl Tryd.func50 (by kernel_rfl) rfl #[.slice A0 l0.length c0, .int .i64 a1] rfl am_ ?_; (with_reducible refine (slices_BinarySearch_int_int.calls k _ _ l0 a1 t131 false _ ?side1 ?side2 A3.out).mono ?_); (case side1 => repeat (first | exact (Kd.V_reads' HO0.out).2.2 | (with_reducible refine Kd.C_alloc ?_ _) | (with_reducible refine Kd.C_drewN ?_ _) | (with_reducible refine Kd.C_drew ?_))); (case side2 => exact (Kd.V_reads' HO0.out).2.1); rintro e w' ⟨rfl, ⟨nd, rfl⟩⟩; refine ⟨_, rfl, ?_⟩))
      generalize hq_ : World.drewN w _ = w11
      have n0_ := Aside0.mk (V_atq hq_ HO0.out); have n1_ := Aside0.mk (below_at hq_ HB.out); clear HO0; clear HB; have HO0 := n0_; have HB := n1_; clear n0_ n1_; clear hq_; have n0_ := Aside0.mk (Kd.V_drew HO0.out); have n1_ := Aside0.mk (below_drew1 HB.out); clear HO0; clear HB; have HO0 := n0_; have HB := n1_; clear n0_ n1_
      have q13 : (t131 : Int) ≤ ((l0.length : Int) : Int) := od_
      have q013 : (0 : Int) ≤ (t131 : Int) := od_
      obtain ⟨i013, hi013, _, hsz13, _⟩ := info_parts info3
      have hroom13 : l0.length ≤ c0 := (Kd.V_reads' HO0.out).2.1
      have hcut13 := cut_fullh (P := Tryd.prog) 25 3 Tryd.underlying25 hi013 A0 l0.length c0 t131 q013 q13 hroom13
      have hy13 : y133.length = (t131 : Int).toNat := (by rw [Ny133.out, List.length_take]; omega)
      rw [← hy13] at hcut13
      have HL13 := Aside0.mk (show (t131 : Int).toNat ≤ l0.length from by omega); clear hi013 hsz13 hroom13; have KY13 := Aside0.mk hy13; clear hy13; replace q13 := eq_true q13; replace q013 := eq_true q013
      have q14 : (t131 : Int) ≤ ((l0.length : Int) : Int) := od_
      obtain ⟨i014, hi014, _, hsz14, _⟩ := info_parts info3
      have hroom14 : l0.length ≤ c0 := (Kd.V_reads' HO0.out).2.1
      have hC14 : Kd.F (Kd.int .i64) _ _ A0 l0.length l0 := (Kd.V_at (base := w.heap.size) HO0.out).2.2
      have q014 : (0 : Int) ≤ (t131 : Int) := od_
      have hcut14 := cut_from (P := Tryd.prog) 25 3 .i64 Tryd.underlying25 hi014 1 hsz14 A0 l0.length c0 t131 q014 q14; have hr14 := Kd.F_cut (m := (t131 : Int).toNat) (c := c0) hC14 (by omega) hroom14; obtain ⟨A14, hA14⟩ : ∃ A1, A1 = (if c0 = (t131 : Int).toNat then A0 else (A0 : Option Addr).map (·.add ((t131 : Int).toNat * 1))) := ⟨_, rfl⟩; obtain ⟨c14, hc14⟩ : ∃ c1, c1 = c0 - (t131 : Int).toNat := ⟨_, rfl⟩
      have hy14 : y139.length = l0.length - (t131 : Int).toNat := (by rw [Ny139.out, List.length_drop] <;> omega)
      rw [show (l0).drop (t131 : Int).toNat = y139 from Ny139.out.symm] at hr14
      replace hr14 : Kd.F (Kd.int .i64) _ _ A14 y139.length y139 := (by rw [hA14]; exact hr14)
      rw [← hy14, ← hA14, ← hc14] at hcut14
      have HO143 := Aside0.mk (show Kd.V (Kd.int .i64) 3 _ w.heap.size _ (.slice A14 y139.length c14) y139 from Kd.V_mk (by rw [hy14, hc14]; exact Nat.sub_le_sub_right hroom14 _) hr14); have HC143 := Aside0.mk (show y139.length ≤ c14 from by rw [hy14, hc14]; exact Nat.sub_le_sub_right hroom14 _); clear hr14 hC14 hroom14 hi014 hsz14 hc14; have KY14 := Aside0.mk hy14; have KA14 := Aside0.mk hA14; clear hy14 hA14; replace q14 := eq_true q14
      refine start_ (n := 12) (S := fun w' => True) (ds := []) (tf 12 0) (by kernel_rfl) rfl rfl trivial (fun hHeld => ?_); refine with_tabW model_With.tab4 model_With.bits4 (fun HT_ HW_ => ?_)
      generalize w11.drew = w12 at HO0 HB HO143 hHeld ⊢
      refine pu_ (i := 0) (N := some 15) (tf 12 1) HT_ ?_; refine pu_ (i := 1) (N := some 16) (tf 12 3) HT_ ?_; refine pu_ (i := 2) (N := some 17) (tf 12 7) HT_ ?_; refine pu_ (i := 3) (N := some 18) (tf 12 15) HT_ ?_; refine pu_ (i := 4) (N := some 19) (tf 12 31) HT_ ?_; refine pu_ (i := 7) (N := some 22) (tf 12 159) HT_ ?_; refine pu_ (i := 8) (N := some 23) (tf 12 415) HT_ ?_; refine pu_ (i := 9) (N := some 24) (tf 12 927) HT_ ?_
      refine one_ (i := 5) (N := some 20) (tf 12 959) rfl rfl (one_of HT_.out (by kernel_rfl)) (by decide) (fun K hK => ?_)
      refine value_ (w1 := ?_) (v := ?_) (by rfl) rfl ?_ ?_
      rotate_left 2
      ·go_simp
       constructor
       ·rfl
       ·rfl
      refine hK.out _ _ trivial (fun hHeld => ?_)
      clear hK K
      refine norm_ (a' := ?_) ?_ ?_
      rotate_left
      ·show Act.put _ (some 20) _ = _
       simp only [Act.put, List.setIfInBounds_toArray, List.set_cons_zero, List.set_cons_succ, i64_w, i32_w]
       rfl
      refine one_ (i := 6) (N := some 21) (tf 12 1023) rfl rfl (one_of HT_.out (by kernel_rfl)) (by decide) (fun K hK => ?_)
      refine R_append_full_step .i64 (w0 := w) w.heap.size (by rfl) (.tmp 18) (.tmp 20) 25 3 (.int .i64 0) 8 rfl Tryd.underlying25 info3 rfl (by decide) (by omega) A0 y133 a1 [.int .i64 a1] (fun k_ => (w.heap.size ≤ k_)) (fun _ => False) rfl ?aX ?aP (fun _ hk => hk.elim) ?aF ?aO ?aB ?aS ?aL ?_
      (case aX => rfl)
      (case aP => exact rfl)
      (case aB => exact (hB_ HB))
      (case aF => exact (fun k_ hk => (Nat.le_trans (below_size (hB_ HB)) hk)))
      (case aO => refine C_take_full Ny133.out HL13.out ?_; repeat (first | exact (Kd.V_reads' HO0.out).2.2 | (with_reducible refine Kd.C_alloc ?_ _) | (with_reducible refine Kd.C_drewN ?_ _) | (with_reducible refine Kd.C_drew ?_)))
      (case aS => exact (below_size (hB_ HB)))
      (case aL => have := LMc7.out; omega)
      intro v137 w15 ho hb hg hat
      rw [← Ny136.out] at ho
      have n0_ := Aside0.mk (Kd.V_afterv (Kd.V_apart_nil (vV_ HO0)) hg hat); have n1_ := Aside0.mk (Kd.V_afterv (Kd.V_apart_nil (vV_ HO143)) hg hat); have n2_ := Aside0.mk (hb); have n3_ := Aside0.mk (ho); clear HO0; clear HO143; clear HB; have HO0 := n0_; have HO143 := n1_; have HB := n2_; have HO138 := n3_; clear n0_ n1_ n2_ n3_; clear ho hb hg hat
      refine hK.out _ _ trivial (fun hHeld => ?_)
      clear hK K
      refine norm_ (a' := ?_) ?_ ?_
      rotate_left
      ·show Act.put _ (some 21) _ = _
       simp only [Act.put, List.setIfInBounds_toArray, List.set_cons_zero, List.set_cons_succ, i64_w, i32_w]
       rfl
      refine one_ (i := 10) (N := some 25) (tf 12 2047) rfl rfl (one_of HT_.out (by kernel_rfl)) (by decide) (fun K hK => ?_)
      refine Kd.R_append_rows_step (Kd.int .i64) (w0 := w) w.heap.size (by rfl) (.tmp 21) (.tmp 24) 25 3 (.int .i64 0) 8 rfl Tryd.underlying25 info3 rfl (by decide) (by omega) v137 y136 y139 _ _ _ (fun k_ => (w.heap.size ≤ k_)) (fun _ => False) rfl rfl ?aO ?aR (fun _ _ h => h) (fun _ h => h.elim) ?aF ?aB ?aS ?aL ?_
      (case aR => repeat (first | exact (Kd.V_reads' HO143.out).2.2 | (with_reducible refine Kd.C_alloc ?_ _) | (with_reducible refine Kd.C_drewN ?_ _) | (with_reducible refine Kd.C_drew ?_)))
      (case aB => exact (hB_ HB))
      (case aF => exact (fun k_ hk => (Nat.le_trans (below_size (hB_ HB)) hk)))
      (case aO => exact (rR_ HO138))
      (case aS => exact (below_size (hB_ HB)))
      (case aL => have := LMc10.out; omega)
      intro v145 w16 ho hb hg hat
      rw [← Ny144.out] at ho
      have n0_ := Aside0.mk (Kd.V_afterv (ok := (fun k_ => (P0_ k_ ∨ w.heap.size ≤ k_))) (vV_ HO0) hg hat); have n1_ := Aside0.mk (Kd.V_afterv (ok := (fun k_ => (P0_ k_ ∨ w.heap.size ≤ k_))) (vV_ HO143) hg hat); have n2_ := Aside0.mk (hb); have n3_ := Aside0.mk (ho); clear HO0; clear HO143; clear HB; clear HO138; have HO0 := n0_; have HO143 := n1_; have HB := n2_; have HO146 := n3_; clear n0_ n1_ n2_ n3_; clear ho hb hg hat
      refine hK.out _ _ trivial (fun hHeld => ?_)
      clear hK K
      refine norm_ (a' := ?_) ?_ ?_
      rotate_left
      ·show Act.put _ (some 25) _ = _
       simp only [Act.put, List.setIfInBounds_toArray, List.set_cons_zero, List.set_cons_succ, i64_w, i32_w]
       rfl
      refine pu_ (i := 11) (N := some 4) (tf 12 4095) HT_ ?_
      refine done_ (done_of HT_.out (by kernel_rfl)) ?_
      try go_wp2
      go_ret
      exact ⟨_, er_, Kd.V_mono (Kd.R_V (rR_ HO146)) (fun k_ hk => by first | exact ⟨(.inr (hk.1)), hk.2⟩ | exact (.inr (hk))), hB_ HB⟩
     ·rw [if_neg c10] at H
      exact absurd H (by simp)
    ·rw [if_neg c7] at H
     exact absurd H (by simp)
   ·rw [if_neg c6] at H
    exact absurd H (by simp)
  ·rw [if_neg c5] at H
   exact absurd H (by simp)

/-! ### block_Address: function 81 -/
def block_Address.f (a0_0 : Int) (a0_1 : Int) (a1 : Int) : Option (Int) := some ((a0_0 + (a1)) % 4294967296)
set_option maxHeartbeats 8000000 in
set_option maxRecDepth 100000 in
theorem block_Address.calls (a0_0 : Int) (a0_1 : Int) (a1 : Int) (r : Int) (w : World) (h : block_Address.f a0_0 a0_1 a1 = some r) :
  Calls Tryd.prog 81 #[.agg #[.int .u32 a0_0, .int .i64 a0_1], .int .i64 a1] w fun e w' => e = .returned (.int .u32 r) ∧ Below w.heap.size w w' := by
 have hu24 := Tryd.underlying24
 have HB := Aside0.mk (Below.refl w.heap.size w)
 have H : (some ((a0_0 + (a1)) % 4294967296)) = some r := h
 clear h
 obtain rfl := Option.some.inj H
 go_enter Tryd.func81, Tryd.ntmps81
 go_wp2_with (first | ((with_reducible refine gate_dst (N := 2) rfl ?_); refine box_event ?hg (N := 2) ?hd (cs := #[.int .u32 a0_0, .int .i64 a0_1]) (t := 24) ?hr ?_; (case hd => rfl); (case hg => rfl); (case hr => first | (go_simp; done) | (go_simp; rfl)); intro gb147 hg w3 hbox hb; have n1_ := Aside0.mk (hbox); have n2_ := gG_ (w := w) hg HB; have n3_ := gG_ (w := w) hg HB; have BK147 := n1_; have GW147 := n2_; have GE147 := n3_; replace HB := hS_ HB hb; clear n1_ n2_ n3_; clear hb hbox hg; obtain ⟨hcz4_0, hcz4_1, hfz4_0, hfz4_1⟩ := cz2_ (w := w3) BK147))
 go_ret
 exact ⟨er_, hB_ HB⟩

/-! ### spec_least: function 74 -/
mutual
def spec_least.l0 : Nat → List Int → Int → Int → Int → Int → List Int → Int → Int → Int → Int → Option (List Int × Int × Int × Bool × List Int × List Int)
 | 0, _, _, _, _, _, _, _, _, _, _ => none
 | k + 1, x1, x11, x12, x149000, x149001, x149002, x149003, x149004, x149005, x149006 => if x12 < x11 then ((block_Held.f k x149000 x149001 x149002 x149003 x149004 x149005 x149006 x12).bind fun t161 => (if t161 = true then (spec_least.j1 k x1 x12 x11 x12 false x149000 x149001 x149002 x149003 x149004 x149005 x149006) else ((model_Has.f k x1 x12).bind fun t162 => (spec_least.j1 k x1 x12 x11 x12 (!t162) x149000 x149001 x149002 x149003 x149004 x149005 x149006)))) else ((spec_fail.f 9).bind fun bt152 => (some (x1, bt152.1, bt152.2.1, bt152.2.2.1, bt152.2.2.2.1, bt152.2.2.2.2)))
def spec_least.j1 : Nat → List Int → Int → Int → Int → Bool → Int → Int → List Int → Int → Int → Int → Int → Option (List Int × Int × Int × Bool × List Int × List Int)
 | 0, _, _, _, _, _, _, _, _, _, _, _, _ => none
 | k + 1, x1, x8, x11, x12, x24, x149000, x149001, x149002, x149003, x149004, x149005, x149006 => if x24 = true then ((model_With.f k x1 x8).bind fun t163 => ((block_Address.f x149000 x149001 x8).bind fun t166 => (some (t163, 0, t166, false, ([] : List Int), ([] : List Int))))) else (spec_least.l0 k x1 x11 (wrap64 (x12 + 1)) x149000 x149001 x149002 x149003 x149004 x149005 x149006)
end
def spec_least.f (k : Nat) (a0_0 : Int) (a0_1 : Int) (l0_2 : List Int) (a0_3 : Int) (a0_4 : Int) (a0_5 : Int) (a0_6 : Int) (l1 : List Int) (a2_0 : Int) (a2_1 : Int) (l2_2 : List Int) : Option (List Int × Int × Int × Bool × List Int × List Int) := (block_Many.f a0_0 a0_1).bind fun t151 => (spec_least.l0 k l1 t151 0 a0_0 a0_1 l0_2 a0_3 a0_4 a0_5 a0_6)
theorem spec_least.mono_l : ∀ k, (∀ y0 y1 y2 y3 y4 y5 y6 y7 y8 y9, LeO (spec_least.l0 k y0 y1 y2 y3 y4 y5 y6 y7 y8 y9) (spec_least.l0 (k + 1) y0 y1 y2 y3 y4 y5 y6 y7 y8 y9)) ∧ (∀ y0 y1 y2 y3 y4 y5 y6 y7 y8 y9 y10 y11, LeO (spec_least.j1 k y0 y1 y2 y3 y4 y5 y6 y7 y8 y9 y10 y11) (spec_least.j1 (k + 1) y0 y1 y2 y3 y4 y5 y6 y7 y8 y9 y10 y11))
 | 0 => ⟨fun _ _ _ _ _ _ _ _ _ _ r h => by simp [spec_least.l0] at h, fun _ _ _ _ _ _ _ _ _ _ _ _ r h => by simp [spec_least.j1] at h⟩
 | k + 1 => by
  obtain ⟨ih0, ih1⟩ := spec_least.mono_l k
  refine ⟨?_, ?_⟩
  ·intro y0 y1 y2 y3 y4 y5 y6 y7 y8 y9
   unfold spec_least.l0
   repeat' first
   | (with_reducible exact ih0 _ _ _ _ _ _ _ _ _ _)
   | (with_reducible exact ih1 _ _ _ _ _ _ _ _ _ _ _ _)
   | (with_reducible exact block_Held.mono _ _ _ _ _ _ _ _ _)
   | (with_reducible exact model_Has.mono _ _ _)
   | (with_reducible exact model_With.mono _ _ _)
   | (with_reducible exact LeO.refl _)
   | (with_reducible exact LeO.none _)
   | (with_reducible refine LeO.ite ?_ ?_)
   | (with_reducible refine LeO.bind ?_ (fun _ => ?_))
   | exact ih0 _ _ _ _ _ _ _ _ _ _
   | exact ih1 _ _ _ _ _ _ _ _ _ _ _ _
   | exact block_Held.mono _ _ _ _ _ _ _ _ _
   | exact model_Has.mono _ _ _
   | exact model_With.mono _ _ _
   | exact LeO.none _
   | refine LeO.ite ?_ ?_
   | refine LeO.bind ?_ (fun _ => ?_)
  ·intro y0 y1 y2 y3 y4 y5 y6 y7 y8 y9 y10 y11
   unfold spec_least.j1
   repeat' first
   | (with_reducible exact ih0 _ _ _ _ _ _ _ _ _ _)
   | (with_reducible exact ih1 _ _ _ _ _ _ _ _ _ _ _ _)
   | (with_reducible exact block_Held.mono _ _ _ _ _ _ _ _ _)
   | (with_reducible exact model_Has.mono _ _ _)
   | (with_reducible exact model_With.mono _ _ _)
   | (with_reducible exact LeO.refl _)
   | (with_reducible exact LeO.none _)
   | (with_reducible refine LeO.ite ?_ ?_)
   | (with_reducible refine LeO.bind ?_ (fun _ => ?_))
   | exact ih0 _ _ _ _ _ _ _ _ _ _
   | exact ih1 _ _ _ _ _ _ _ _ _ _ _ _
   | exact block_Held.mono _ _ _ _ _ _ _ _ _
   | exact model_Has.mono _ _ _
   | exact model_With.mono _ _ _
   | exact LeO.none _
   | refine LeO.ite ?_ ?_
   | refine LeO.bind ?_ (fun _ => ?_)
theorem spec_least.mono : ∀ a0 a1 a2 a3 a4 a5 a6 a7 a8 a9 a10 k, LeO (spec_least.f k a0 a1 a2 a3 a4 a5 a6 a7 a8 a9 a10) (spec_least.f (k + 1) a0 a1 a2 a3 a4 a5 a6 a7 a8 a9 a10) := by
 intro a0 a1 a2 a3 a4 a5 a6 a7 a8 a9 a10 k
 obtain ⟨ih0, ih1⟩ := spec_least.mono_l k
 unfold spec_least.f
 repeat' first
   | (with_reducible exact ih0 _ _ _ _ _ _ _ _ _ _)
   | (with_reducible exact ih1 _ _ _ _ _ _ _ _ _ _ _ _)
   | (with_reducible exact block_Held.mono _ _ _ _ _ _ _ _ _)
   | (with_reducible exact model_Has.mono _ _ _)
   | (with_reducible exact model_With.mono _ _ _)
   | (with_reducible exact LeO.refl _)
   | (with_reducible exact LeO.none _)
   | (with_reducible refine LeO.ite ?_ ?_)
   | (with_reducible refine LeO.bind ?_ (fun _ => ?_))
   | exact ih0 _ _ _ _ _ _ _ _ _ _
   | exact ih1 _ _ _ _ _ _ _ _ _ _ _ _
   | exact block_Held.mono _ _ _ _ _ _ _ _ _
   | exact model_Has.mono _ _ _
   | exact model_With.mono _ _ _
   | exact LeO.none _
   | refine LeO.ite ?_ ?_
   | refine LeO.bind ?_ (fun _ => ?_)
def spec_least.T5 : Bool × List (List Nat × List Nat) := (true, [([], []), ([], []), ([0, 1], [0, 1]), ([], []), ([3], [3]), ([], []), ([4, 5, 2], [4, 5]), ([6], [6]), ([2, 6, 0, 1, 2], [2]), ([7, 8, 0, 1, 2, 3, 4, 5, 6, 7, 8], [7])])
def spec_least.B5 : List Nat := [0, 0, 3, 0, 8, 0, 63, 127, 127, 511]
theorem spec_least.tab5 : rtab .any (opsOf Tryd.f74 5) = spec_least.T5 := by kernel_rfl
theorem spec_least.bits5 : waitsOk spec_least.T5.2 spec_least.B5 = true := by kernel_rfl
set_option maxHeartbeats 8000000 in
set_option maxRecDepth 100000 in
theorem spec_least.calls (k : Nat) (a0_0 : Int) (a0_1 : Int) (A0_2 : Option Addr) (c0_2 : Nat) (l0_2 : List Int) (a0_3 : Int) (a0_4 : Int) (a0_5 : Int) (a0_6 : Int) (P1_ : Nat → Prop) (A1 : Option Addr) (c1 : Nat) (l1 : List Int) (a2_0 : Int) (a2_1 : Int) (A2_2 : Option Addr) (c2_2 : Nat) (l2_2 : List Int) (r1 : List Int) (r2 : Int) (r3 : Int) (r4 : Bool) (r5 : List Int) (r6 : List Int) (w : World) (hr0_2 : Kd.C (Kd.int .i64) w A0_2 l0_2.length l0_2) (hc0_2 : l0_2.length ≤ c0_2) (hs1 : Kd.V (Kd.int .i64) 3 w w.heap.size (fun k_ => P1_ k_) (.slice A1 l1.length c1) l1) (hr2_2 : Kd.C (Kd.int .u32) w A2_2 l2_2.length l2_2) (hc2_2 : l2_2.length ≤ c2_2) (h : spec_least.f k a0_0 a0_1 l0_2 a0_3 a0_4 a0_5 a0_6 l1 a2_0 a2_1 l2_2 = some (r1, r2, r3, r4, r5, r6)) :
  Calls Tryd.prog 74 #[.agg #[.int .u32 a0_0, .int .i64 a0_1, .slice A0_2 l0_2.length c0_2, .int .i64 a0_3, .int .i64 a0_4, .int .i64 a0_5, .int .i64 a0_6], .slice A1 l1.length c1, .agg #[.int .i64 a2_0, .int .u32 a2_1, .slice A2_2 l2_2.length c2_2]] w fun e w' => ∃ v0_ v4_ v5_ : Value, e = .returned (.tuple #[v0_, .agg #[.int .i64 r2, .int .u32 r3, .bool r4, v4_, v5_]]) ∧ Kd.V (Kd.int .i64) 3 w' w.heap.size (fun k_ => (P1_ k_ ∨ w.heap.size ≤ k_) ∧ some k_ ≠ (v4_ : Value).ownBlock ∧ some k_ ≠ (v5_ : Value).ownBlock) v0_ r1 ∧ Kd.R (Kd.int .u32) 22 w' w.heap.size (fun k_ => (w.heap.size ≤ k_)) v4_ r5 ∧ Kd.R (Kd.int .i64) 31 w' w.heap.size (fun k_ => (w.heap.size ≤ k_)) v5_ r6 ∧ Below w.heap.size w w' := by
 have hu27 := Tryd.underlying27
 have hu30 := Tryd.underlying30
 have hu34 := Tryd.underlying34
 have hu24 := Tryd.underlying24
 have HR0_2 := Aside0.mk hr0_2
 have HC0_2 := Aside0.mk hc0_2
 clear hr0_2 hc0_2
 have HO1 := Aside0.mk (show Kd.V (Kd.int .i64) 3 w w.heap.size (fun k_ => (P1_ k_ ∨ w.heap.size ≤ k_)) (.slice A1 l1.length c1) l1 from Kd.V_mono hs1 (fun k_ hk => .inl hk))
 have HR2_2 := Aside0.mk hr2_2
 have HC2_2 := Aside0.mk hc2_2
 clear hr2_2 hc2_2
 have HB := Aside0.mk (Below.refl w.heap.size w)
 have H : ((block_Many.f a0_0 a0_1).bind fun t151 => (spec_least.l0 k l1 t151 0 a0_0 a0_1 l0_2 a0_3 a0_4 a0_5 a0_6)) = some (r1, r2, r3, r4, r5, r6) := h
 clear h
 replace H := Option.bind_eq_some_iff.mp H
 obtain ⟨t151, A40, H⟩ := H
 replace H : (spec_least.l0 k l1 t151 0 a0_0 a0_1 l0_2 a0_3 a0_4 a0_5 a0_6) = some (r1, r2, r3, r4, r5, r6) := H
 have A4 := Aside0.mk A40
 clear A40
 have H' := Aside0.mk H
 clear H
 go_enter Tryd.func74, Tryd.ntmps74
 go_wp2_with (first | ((with_reducible refine gate_dst (N := 3) rfl ?_); refine box_event ?hg (N := 3) ?hd (cs := #[.int .u32 a0_0, .int .i64 a0_1, .slice A0_2 l0_2.length c0_2, .int .i64 a0_3, .int .i64 a0_4, .int .i64 a0_5, .int .i64 a0_6]) (t := 27) ?hr ?_; (case hd => rfl); (case hg => rfl); (case hr => first | (go_simp; done) | (go_simp; rfl)); intro gb148 hg w5 hbox hb; have n0_ := Aside0.mk (Kd.V_below (Kd.V_elderB (vV_ HO1) gb148 (Nat.le_of_eq hg.symm)) hb); have n2_ := Aside0.mk (hbox); have n3_ := gG_ (w := w) hg HB; have n4_ := gG_ (w := w) hg HB; clear HO1; have HO1 := n0_; have BK148 := n2_; have GW148 := n3_; have GE148 := n4_; replace HB := hS_ HB hb; clear n0_ n2_ n3_ n4_; clear hb hbox hg) | ((with_reducible refine gate_dst (N := 5) rfl ?_); refine box_event ?hg (N := 5) ?hd (cs := #[.int .i64 a2_0, .int .u32 a2_1, .slice A2_2 l2_2.length c2_2]) (t := 30) ?hr ?_; (case hd => rfl); (case hg => rfl); (case hr => first | (go_simp; done) | (go_simp; rfl)); intro gb149 hg w6 hbox hb; have n0_ := Aside0.mk (Kd.V_below (Kd.V_elderB (vV_ HO1) gb149 (Nat.le_of_eq hg.symm)) hb); have n2_ := Aside0.mk (below_step (hB_ HB) hb); have n3_ := Aside0.mk (hbox); have n4_ := gG_ (w := w) hg HB; have n5_ := gG_ (w := w) hg HB; have n6_ := nL_ hg BK148; have n7_ := nG_ hg BK148; clear HO1; clear HB; have HO1 := n0_; have HB := n2_; have BK149 := n3_; have GW149 := n4_; have GE149 := n5_; have NB148_149 := n6_; have NB149_148 := n7_; replace BK148 := bB_ BK148 hb; clear n0_ n2_ n3_ n4_ n5_ n6_ n7_; clear hb hbox hg) | ((with_reducible refine gate_dst (N := 7) rfl ?_); refine box_event ?hg (N := 7) ?hd (cs := #[.int .i64 0, .int .u32 0, .bool false, .slice none 0 0, .slice none 0 0]) (t := 34) ?hr ?_; (case hd => rfl); (case hg => rfl); (case hr => first | (go_simp; done) | (go_simp; rfl)); intro gb150 hg w7 hbox hb; have n0_ := Aside0.mk (Kd.V_below (Kd.V_elderB (vV_ HO1) gb150 (Nat.le_of_eq hg.symm)) hb); have n2_ := bB_ BK149 hb; have n4_ := Aside0.mk (hbox); have n5_ := gG_ (w := w) hg HB; have n6_ := gG_ (w := w) hg HB; have n7_ := nL_ hg BK148; have n8_ := nG_ hg BK148; have n9_ := nL_ hg BK149; have n10_ := nG_ hg BK149; clear HO1; clear BK149; have HO1 := n0_; have BK149 := n2_; have BK150 := n4_; have GW150 := n5_; have GE150 := n6_; have NB148_150 := n7_; have NB150_148 := n8_; have NB149_150 := n9_; have NB150_149 := n10_; replace BK148 := bB_ BK148 hb; replace HB := hS_ HB hb; clear n0_ n2_ n4_ n5_ n6_ n7_ n8_ n9_ n10_; clear hb hbox hg; have hnb8 := NB148_149.out; have hnc8 := NB149_148.out; have hnb9 := NB148_150.out; have hnc9 := NB150_148.out; obtain ⟨hcz10_0, hcz10_1, hcz10_2, hcz10_3, hcz10_4, hcz10_5, hcz10_6, hfz10_0, hfz10_1, hfz10_2, hfz10_3, hfz10_4, hfz10_5, hfz10_6⟩ := cz7_ (w := w7) BK148) | ((with_reducible refine gate_callee (f := 52) rfl ?_); refine goesL_ (some 11) rfl rfl Tryd.func52 (by kernel_rfl) rfl #[.agg #[.int .u32 a0_0, .int .i64 a0_1]] rfl am_ ?_; (with_reducible refine (block_Many.calls a0_0 a0_1 t151 _ A4.out).mono ?_); rintro e w11 ⟨rfl, hb⟩; refine ⟨_, rfl, ?_⟩; have n0_ := Aside0.mk (Kd.V_below (vV_ HO1) hb); have n2_ := bB_ BK149 hb; have n4_ := Aside0.mk (below_step (hB_ HB) hb); clear HO1; clear BK149; clear HB; have HO1 := n0_; have BK149 := n2_; have HB := n4_; replace BK148 := bB_ BK148 hb; replace BK150 := bB_ BK150 hb; clear n0_ n2_ n4_; (try clear hb); (try clear hb2); (try clear hk); (try clear hi)))
 go_loopg [12] k (fun kq v12 w' => ∃ (x12_1 : Int) (x151000_1 : Int) (x151001_1 : Int) (x151002_1 : Bool), v12 = .int .i64 x12_1 ∧ Aside0 (spec_least.l0 kq l1 t151 x12_1 a0_0 a0_1 l0_2 a0_3 a0_4 a0_5 a0_6 = some (r1, r2, r3, r4, r5, r6)) ∧ Aside0 (kq ≤ k) ∧ Aside0 (Kd.V (Kd.int .i64) 3 w' w.heap.size (fun k_ => (P1_ k_ ∨ w.heap.size ≤ k_) ∧ k_ ≠ gb148 ∧ k_ ≠ gb149 ∧ k_ ≠ gb150) (.slice A1 l1.length c1) l1) ∧ Aside0 (w'.heap[gb148]? = some (.cells #[.int .u32 a0_0, .int .i64 a0_1, (.slice A0_2 l0_2.length c0_2), .int .i64 a0_3, .int .i64 a0_4, .int .i64 a0_5, .int .i64 a0_6] 27 (0, 0))) ∧ Aside0 (w'.heap[gb149]? = some (.cells #[.int .i64 a2_0, .int .u32 a2_1, (.slice A2_2 l2_2.length c2_2)] 30 (0, 0))) ∧ Aside0 (w'.heap[gb150]? = some (.cells #[.int .i64 x151000_1, .int .u32 x151001_1, .bool x151002_1, (.slice none 0 0), (.slice none 0 0)] 34 (0, 0))) ∧ Aside0 (Below w.heap.size w w'))
 case atStart => exact ⟨(0), (0), (0), (false), rs_, H', ⟨Nat.le_refl _⟩, ⟨by (with_reducible repeat (first | apply Kd.V_alloc | apply Kd.V_drewN | apply Kd.V_drew)); exact Kd.V_mono HO1.out (fun _ hk => ⟨hk.1.1.1, ⟨hk.1.1.2, ⟨hk.1.2, hk.2⟩⟩⟩)⟩, ⟨bk_ BK148⟩, ⟨bk_ BK149⟩, ⟨bk_ BK150⟩, ⟨hB_ HB⟩⟩
 case round =>
  clear H'
  try clear c1
  try clear c2
  try clear p2
  try clear c5
  try clear c7
  try clear c8
  try clear c9
  try clear hcz10_0 hcz10_1 hcz10_2 hcz10_3 hcz10_4 hcz10_5 hcz10_6
  try clear hfz10_0 hfz10_1 hfz10_2 hfz10_3 hfz10_4 hfz10_5 hfz10_6
  obtain ⟨x12_1, x151000_1, x151001_1, x151002_1, rfl, HA, HK1, HO_1, BK148, BK149, BK150, HB⟩ := hrel
  cases gk with
  | zero => exact absurd HA.out (by simp [spec_least.l0])
  | succ k1 =>
   have H := HA.out; clear HA; simp only [spec_least.l0] at H
   by_cases c12 : x12_1 < t151
   ·rw [if_pos c12] at H
    have c12b0 : decide (x12_1 < t151) = true := decide_eq_true c12
    clear c12; have HC13 := Aside0.mk H; clear H
    go_upto_region 4 with (fail)
    go_cut [24] (fun v24 wc => ∃ (kq : Nat) (x24_12 : Bool), v24 = .bool x24_12 ∧ Aside0 (spec_least.j1 kq l1 x12_1 t151 x12_1 x24_12 a0_0 a0_1 l0_2 a0_3 a0_4 a0_5 a0_6 = some (r1, r2, r3, r4, r5, r6)) ∧ Aside0 (kq ≤ k1) ∧ Aside0 (Kd.V (Kd.int .i64) 3 wc w.heap.size (fun k_ => (P1_ k_ ∨ w.heap.size ≤ k_) ∧ k_ ≠ gb148 ∧ k_ ≠ gb149 ∧ k_ ≠ gb150) (.slice A1 l1.length c1) l1) ∧ Aside0 (wc.heap[gb148]? = some (.cells #[.int .u32 a0_0, .int .i64 a0_1, (.slice A0_2 l0_2.length c0_2), .int .i64 a0_3, .int .i64 a0_4, .int .i64 a0_5, .int .i64 a0_6] 27 (0, 0))) ∧ Aside0 (wc.heap[gb149]? = some (.cells #[.int .i64 a2_0, .int .u32 a2_1, (.slice A2_2 l2_2.length c2_2)] 30 (0, 0))) ∧ Aside0 (wc.heap[gb150]? = some (.cells #[.int .i64 x151000_1, .int .u32 x151001_1, .bool x151002_1, (.slice none 0 0), (.slice none 0 0)] 34 (0, 0))) ∧ Aside0 (Below w.heap.size w wc))
    case first =>
     have H := HC13.out; clear HC13; replace H := Option.bind_eq_some_iff.mp H; obtain ⟨t161, A140, H⟩ := H
     replace H : (if t161 = true then (spec_least.j1 k1 l1 x12_1 t151 x12_1 false a0_0 a0_1 l0_2 a0_3 a0_4 a0_5 a0_6) else ((model_Has.f k1 l1 x12_1).bind fun t162 => (spec_least.j1 k1 l1 x12_1 t151 x12_1 (!t162) a0_0 a0_1 l0_2 a0_3 a0_4 a0_5 a0_6))) = some (r1, r2, r3, r4, r5, r6) := H
     have A14 := Aside0.mk A140; clear A140
     by_cases c15 : t161 = true
     ·subst c15
      have H1 : (spec_least.j1 k1 l1 x12_1 t151 x12_1 false a0_0 a0_1 l0_2 a0_3 a0_4 a0_5 a0_6) = some (r1, r2, r3, r4, r5, r6) := by rw [if_pos rfl] at H; exact H
      clear H; have H := H1; clear H1
      have H' := Aside0.mk H
      clear H; have hnb16 := NB148_149.out; have hnc16 := NB149_148.out; have hnb17 := NB148_150.out; have hnc17 := NB150_148.out; obtain ⟨hcz18_0, hcz18_1, hcz18_2, hcz18_3, hcz18_4, hcz18_5, hcz18_6, hfz18_0, hfz18_1, hfz18_2, hfz18_3, hfz18_4, hfz18_5, hfz18_6⟩ := cz7_ (w := wr) BK148
      go_wp2_with (first | ((with_reducible refine gate_callee (f := 49) rfl ?_); refine goesL_ (some 17) rfl rfl Tryd.func49 (by kernel_rfl) rfl #[.agg #[.int .u32 a0_0, .int .i64 a0_1, .slice A0_2 l0_2.length c0_2, .int .i64 a0_3, .int .i64 a0_4, .int .i64 a0_5, .int .i64 a0_6], .int .i64 x12_1] rfl am_ ?_; (with_reducible refine (block_Held.calls k1 a0_0 a0_1 _ _ l0_2 a0_3 a0_4 a0_5 a0_6 x12_1 true _ ?side1 ?side2 A14.out).mono ?_); (case side1 => exact cC_ HR0_2 HB); (case side2 => exact HC0_2.out); rintro e w19 ⟨rfl, hb⟩; refine ⟨_, rfl, ?_⟩; have n0_ := Aside0.mk (Kd.V_below (vV_ HO_1) hb); have n2_ := bB_ BK149 hb; have n4_ := Aside0.mk (below_step (hB_ HB) hb); clear HO_1; clear BK149; clear HB; have HO_1 := n0_; have BK149 := n2_; have HB := n4_; replace BK148 := bB_ BK148 hb; replace BK150 := bB_ BK150 hb; clear n0_ n2_ n4_; (try clear hb); (try clear hb2); (try clear hk); (try clear hi)))
      go_meet
      case rel => exact ⟨_, (false), rs_, H', ⟨by have := HK1.out; first | omega | exact Nat.le_refl _⟩, ⟨by (with_reducible repeat (first | apply Kd.V_alloc | apply Kd.V_drewN | apply Kd.V_drew)); exact HO_1.out⟩, ⟨bk_ BK148⟩, ⟨bk_ BK149⟩, ⟨bk_ BK150⟩, ⟨hB_ HB⟩⟩
     ·replace c15 := Bool.eq_false_iff.mpr c15
      subst c15
      have H1 : ((model_Has.f k1 l1 x12_1).bind fun t162 => (spec_least.j1 k1 l1 x12_1 t151 x12_1 (!t162) a0_0 a0_1 l0_2 a0_3 a0_4 a0_5 a0_6)) = some (r1, r2, r3, r4, r5, r6) := by rw [if_neg (show ¬ (false = true) by decide)] at H; exact H
      clear H; have H := H1; clear H1; replace H := Option.bind_eq_some_iff.mp H; obtain ⟨t162, A200, H⟩ := H
      replace H : (spec_least.j1 k1 l1 x12_1 t151 x12_1 (!t162) a0_0 a0_1 l0_2 a0_3 a0_4 a0_5 a0_6) = some (r1, r2, r3, r4, r5, r6) := H
      have A20 := Aside0.mk A200; clear A200
      have H' := Aside0.mk H
      clear H; have hnb21 := NB148_149.out; have hnc21 := NB149_148.out; have hnb22 := NB148_150.out; have hnc22 := NB150_148.out; obtain ⟨hcz23_0, hcz23_1, hcz23_2, hcz23_3, hcz23_4, hcz23_5, hcz23_6, hfz23_0, hfz23_1, hfz23_2, hfz23_3, hfz23_4, hfz23_5, hfz23_6⟩ := cz7_ (w := wr) BK148
      go_wp2_with (first | ((with_reducible refine gate_callee (f := 49) rfl ?_); refine goesL_ (some 17) rfl rfl Tryd.func49 (by kernel_rfl) rfl #[.agg #[.int .u32 a0_0, .int .i64 a0_1, .slice A0_2 l0_2.length c0_2, .int .i64 a0_3, .int .i64 a0_4, .int .i64 a0_5, .int .i64 a0_6], .int .i64 x12_1] rfl am_ ?_; (with_reducible refine (block_Held.calls k1 a0_0 a0_1 _ _ l0_2 a0_3 a0_4 a0_5 a0_6 x12_1 false _ ?side1 ?side2 A14.out).mono ?_); (case side1 => exact cC_ HR0_2 HB); (case side2 => exact HC0_2.out); rintro e w24 ⟨rfl, hb⟩; refine ⟨_, rfl, ?_⟩; have n0_ := Aside0.mk (Kd.V_below (vV_ HO_1) hb); have n2_ := bB_ BK149 hb; have n4_ := Aside0.mk (below_step (hB_ HB) hb); clear HO_1; clear BK149; clear HB; have HO_1 := n0_; have BK149 := n2_; have HB := n4_; replace BK148 := bB_ BK148 hb; replace BK150 := bB_ BK150 hb; clear n0_ n2_ n4_; (try clear hb); (try clear hb2); (try clear hk); (try clear hi)) | (go_at_call 34; (with_reducible refine (model_Has.calls k1 _ _ l1 x12_1 t162 _ ?side1 ?side2 A20.out).mono ?_); (case side1 => repeat (first | exact (Kd.V_reads' HO_1.out).2.2 | (with_reducible refine Kd.C_alloc ?_ _) | (with_reducible refine Kd.C_drewN ?_ _) | (with_reducible refine Kd.C_drew ?_))); (case side2 => exact (Kd.V_reads' HO_1.out).2.1); rintro e w' ⟨rfl, ⟨nd, rfl⟩⟩))
      go_meet
      case rel => exact ⟨_, (!t162), rs_, H', ⟨by have := HK1.out; first | omega | exact Nat.le_refl _⟩, ⟨by (with_reducible repeat (first | apply Kd.V_alloc | apply Kd.V_drewN | apply Kd.V_drew)); exact HO_1.out⟩, ⟨bk_ BK148⟩, ⟨bk_ BK149⟩, ⟨bk_ BK150⟩, ⟨hB_ HB⟩⟩
    case rest =>
     clear HC13
     try clear c1
     try clear c2
     try clear p2
     try clear c4
     try clear c5
     try clear c7
     try clear c8
     try clear c9
     try clear c12
     try clear c12b0
     try clear c15
     try clear c16
     try clear c17
     try clear c21
     try clear c22
     try clear hcz10_0 hcz10_1 hcz10_2 hcz10_3 hcz10_4 hcz10_5 hcz10_6
     try clear hcz18_0 hcz18_1 hcz18_2 hcz18_3 hcz18_4 hcz18_5 hcz18_6
     try clear hcz23_0 hcz23_1 hcz23_2 hcz23_3 hcz23_4 hcz23_5 hcz23_6
     try clear hfz10_0 hfz10_1 hfz10_2 hfz10_3 hfz10_4 hfz10_5 hfz10_6
     try clear hfz18_0 hfz18_1 hfz18_2 hfz18_3 hfz18_4 hfz18_5 hfz18_6
     try clear hfz23_0 hfz23_1 hfz23_2 hfz23_3 hfz23_4 hfz23_5 hfz23_6
     try clear p2
     obtain ⟨kq, x24_12, rfl, HA, HJ12, HO_1, BK148, BK149, BK150, HB⟩ := hcut
     cases kq with
     | zero => exact absurd HA.out (by simp [spec_least.j1])
     | succ kj12 =>
      have H := HA.out; clear HA; simp only [spec_least.j1] at H
      by_cases c25 : x24_12 = true
      ·subst c25
       have H1 : ((model_With.f kj12 l1 x12_1).bind fun t163 => ((block_Address.f a0_0 a0_1 x12_1).bind fun t166 => (some (t163, 0, t166, false, ([] : List Int), ([] : List Int))))) = some (r1, r2, r3, r4, r5, r6) := by rw [if_pos rfl] at H; exact H
       clear H; have H := H1; clear H1; replace H := Option.bind_eq_some_iff.mp H; obtain ⟨t163, A260, H⟩ := H
       replace H : ((block_Address.f a0_0 a0_1 x12_1).bind fun t166 => (some (t163, 0, t166, false, ([] : List Int), ([] : List Int)))) = some (r1, r2, r3, r4, r5, r6) := H
       have A26 := Aside0.mk A260; clear A260; replace H := Option.bind_eq_some_iff.mp H; obtain ⟨t166, A270, H⟩ := H
       replace H : (some (t163, 0, t166, false, ([] : List Int), ([] : List Int))) = some (r1, r2, r3, r4, r5, r6) := H
       have A27 := Aside0.mk A270; clear A270; simp only [Option.some.injEq, Prod.mk.injEq] at H; obtain ⟨rfl, rfl, rfl, rfl, rfl, rfl⟩ := H
       try go_wp2
       have n0_ := Aside0.mk (Kd.V_drew HO_1.out); have n1_ := Aside0.mk (blk_drew BK148.out); have n2_ := Aside0.mk (blk_drew BK149.out); have n3_ := Aside0.mk (blk_drew BK150.out); have n4_ := Aside0.mk (below_drew1 HB.out); clear HO_1; clear BK148; clear BK149; clear BK150; clear HB; have HO_1 := n0_; have BK148 := n1_; have BK149 := n2_; have BK150 := n3_; have HB := n4_; clear n0_ n1_ n2_ n3_ n4_
       refine start_ (n := 10) (S := fun w' => w'.cell? ⟨gb148, 0, none⟩ = some (.int .u32 a0_0) ∧ w'.cell? ⟨gb148, 1, none⟩ = some (.int .i64 a0_1) ∧ w'.cell? ⟨gb148, 2, none⟩ = some (.slice A0_2 l0_2.length c0_2) ∧ w'.cell? ⟨gb148, 3, none⟩ = some (.int .i64 a0_3) ∧ w'.cell? ⟨gb148, 4, none⟩ = some (.int .i64 a0_4) ∧ w'.cell? ⟨gb148, 5, none⟩ = some (.int .i64 a0_5) ∧ w'.cell? ⟨gb148, 6, none⟩ = some (.int .i64 a0_6)) (ds := []) (tf 10 0) (by kernel_rfl) rfl rfl ⟨(blk_cell BK148.out 0).trans rfl, (blk_cell BK148.out 1).trans rfl, (blk_cell BK148.out 2).trans rfl, (blk_cell BK148.out 3).trans rfl, (blk_cell BK148.out 4).trans rfl, (blk_cell BK148.out 5).trans rfl, (blk_cell BK148.out 6).trans rfl⟩ (fun hHeld => ?_); refine with_tabW spec_least.tab5 spec_least.bits5 (fun HT_ HW_ => ?_)
       generalize wc.drew = w28 at HO_1 BK148 BK149 BK150 HB hHeld ⊢
       refine pu_ (i := 0) (N := some 25) (tf 10 1) HT_ ?_; refine pu_ (i := 1) (N := some 26) (tf 10 3) HT_ ?_; refine pu_ (i := 3) (N := some 28) (tf 10 11) HT_ ?_; refine pu_ (i := 5) (N := some 30) (tf 10 43) HT_ ?_; refine tk_ (i := 4) (N := some 29) (tf 10 59) rfl rfl HT_ HW_ hHeld (by rintro w' ⟨s0, s1, s2, s3, s4, s5, s6⟩; go_simp; with_reducible rfl) ?_
       refine one_ (i := 2) (N := some 27) (tf 10 63) rfl rfl (one_of HT_.out (by kernel_rfl)) (by decide) (fun K hK => ?_)
       refine goes_ Tryd.func35 (by kernel_rfl) rfl #[.slice A1 l1.length c1, .int .i64 x12_1] (by rfl) rfl rfl am_ ?_
       with_reducible refine (model_With.calls kj12 (fun k_ => ((P1_ k_ ∨ w.heap.size ≤ k_) ∧ (k_ ≠ gb148 ∧ (k_ ≠ gb149 ∧ k_ ≠ gb150)))) _ _ l1 x12_1 t163 _ ?side1 A26.out).mono ?_
       (case side1 => exact HO_1.out)
       rintro e w29 ⟨v164, rfl, ho0, hb⟩
       refine ⟨_, rfl, ?_⟩
       have n0_ := Aside0.mk (Kd.V_below (vV_ HO_1) hb); have n1_ := Aside0.mk (Kd.V_lower (Kd.V_mono (ok' := fun k_ => (P1_ k_ ∨ w.heap.size ≤ k_) ∧ k_ ≠ gb148 ∧ k_ ≠ gb149 ∧ k_ ≠ gb150) ho0 (fun k_ hk_ => ⟨Or.elim hk_ (fun hs_ => hs_.1) (fun hn_ => (.inr (Nat.le_trans (below_size (hB_ HB)) hn_))), Or.elim hk_ (fun hs_ => hs_.2.1) (fun hn_ => (fB_ BK148 k_ hn_)), Or.elim hk_ (fun hs_ => hs_.2.2.1) (fun hn_ => (fB_ BK149 k_ hn_)), Or.elim hk_ (fun hs_ => hs_.2.2.2) (fun hn_ => (fB_ BK150 k_ hn_))⟩)) (below_size (hB_ HB))); have n2_ := bB_ BK148 hb; have n3_ := bB_ BK149 hb; have n4_ := bB_ BK150 hb; have n5_ := Aside0.mk (below_step (hB_ HB) hb); clear HO_1; clear BK148; clear BK149; clear BK150; clear HB; have HO_1 := n0_; have HO165 := n1_; have BK148 := n2_; have BK149 := n3_; have BK150 := n4_; have HB := n5_; clear n0_ n1_ n2_ n3_ n4_ n5_
       (try clear hb)
       (try clear hb2)
       (try clear hk)
       (try clear hi)
       (try clear ho0)
       refine hK.out _ _ ⟨(blk_cell BK148.out 0).trans rfl, (blk_cell BK148.out 1).trans rfl, (blk_cell BK148.out 2).trans rfl, (blk_cell BK148.out 3).trans rfl, (blk_cell BK148.out 4).trans rfl, (blk_cell BK148.out 5).trans rfl, (blk_cell BK148.out 6).trans rfl⟩ (fun hHeld => ?_)
       clear hK K
       refine norm_ (a' := ?_) ?_ ?_
       rotate_left
       ·show Act.put _ (some 27) _ = _
        simp only [Act.put, List.setIfInBounds_toArray, List.set_cons_zero, List.set_cons_succ, i64_w, i32_w]
        rfl
       refine one_ (i := 6) (N := some 31) (tf 10 127) rfl rfl (one_of HT_.out (by kernel_rfl)) (by decide) (fun K hK => ?_)
       refine goes_ Tryd.func81 (by kernel_rfl) rfl #[.agg #[.int .u32 a0_0, .int .i64 a0_1], .int .i64 x12_1] (by rfl) rfl rfl am_ ?_
       with_reducible refine (block_Address.calls a0_0 a0_1 x12_1 t166 _ A27.out).mono ?_
       rintro e w30 ⟨rfl, hb⟩
       refine ⟨_, rfl, ?_⟩
       have n0_ := Aside0.mk (Kd.V_below (vV_ HO_1) hb); have n1_ := Aside0.mk (Kd.V_below (vV_ HO165) hb); have n2_ := bB_ BK148 hb; have n3_ := bB_ BK149 hb; have n4_ := bB_ BK150 hb; have n5_ := Aside0.mk (below_step (hB_ HB) hb); clear HO_1; clear HO165; clear BK148; clear BK149; clear BK150; clear HB; have HO_1 := n0_; have HO165 := n1_; have BK148 := n2_; have BK149 := n3_; have BK150 := n4_; have HB := n5_; clear n0_ n1_ n2_ n3_ n4_ n5_
       (try clear hb)
       (try clear hb2)
       (try clear hk)
       (try clear hi)
       refine hK.out _ _ ⟨(blk_cell BK148.out 0).trans rfl, (blk_cell BK148.out 1).trans rfl, (blk_cell BK148.out 2).trans rfl, (blk_cell BK148.out 3).trans rfl, (blk_cell BK148.out 4).trans rfl, (blk_cell BK148.out 5).trans rfl, (blk_cell BK148.out 6).trans rfl⟩ (fun hHeld => ?_)
       clear hK K
       refine norm_ (a' := ?_) ?_ ?_
       rotate_left
       ·show Act.put _ (some 31) _ = _
        simp only [Act.put, List.setIfInBounds_toArray, List.set_cons_zero, List.set_cons_succ, i64_w, i32_w]
        rfl
       refine pu_ (i := 7) (N := some 32) (tf 10 255) HT_ ?_; refine pu_ (i := 8) (N := some 6) (tf 10 511) HT_ ?_
       refine one_ (i := 9) (N := none) (tf 10 1023) rfl rfl (one_of HT_.out (by kernel_rfl)) (by decide) (fun K hK => ?_)
       have hs31 : w30.cell? ⟨gb150, 0, none⟩ = some (.int .i64 x151000_1) := (blk_cell BK150.out 0).trans rfl
       have hfs31 := blk_frozen BK150.out 0; have hns31_0 := NB148_150.out; have hns31_1 := NB149_150.out; have hms31_0 := NB150_148.out; have hms31_1 := NB150_149.out
       have hs32 : w30.cell? ⟨gb150, 1, none⟩ = some (.int .u32 x151001_1) := (blk_cell BK150.out 1).trans rfl
       have hfs32 := blk_frozen BK150.out 1; have hns32_0 := NB148_150.out; have hns32_1 := NB149_150.out; have hms32_0 := NB150_148.out; have hms32_1 := NB150_149.out
       have hs33 : w30.cell? ⟨gb150, 2, none⟩ = some (.bool x151002_1) := (blk_cell BK150.out 2).trans rfl
       have hfs33 := blk_frozen BK150.out 2; have hns33_0 := NB148_150.out; have hns33_1 := NB149_150.out; have hms33_0 := NB150_148.out; have hms33_1 := NB150_149.out
       have hs34 : w30.cell? ⟨gb150, 3, none⟩ = some (.slice none 0 0) := (blk_cell BK150.out 3).trans rfl
       have hfs34 := blk_frozen BK150.out 3; have hns34_0 := NB148_150.out; have hns34_1 := NB149_150.out; have hms34_0 := NB150_148.out; have hms34_1 := NB150_149.out
       have hs35 : w30.cell? ⟨gb150, 4, none⟩ = some (.slice none 0 0) := (blk_cell BK150.out 4).trans rfl
       have hfs35 := blk_frozen BK150.out 4; have hns35_0 := NB148_150.out; have hns35_1 := NB149_150.out; have hms35_0 := NB150_148.out; have hms35_1 := NB150_149.out
       refine skip_ (w1 := ?_) (by rfl) rfl ?_ ?_
       rotate_left
       ·go_simp
        rfl
       refine hK.out _ _ ⟨((cell_far (p := ⟨gb150, _, none⟩) NB148_150.out _).trans (((cell_far (p := ⟨gb150, _, none⟩) NB148_150.out _).trans (((cell_far (p := ⟨gb150, _, none⟩) NB148_150.out _).trans (((cell_far (p := ⟨gb150, _, none⟩) NB148_150.out _).trans (((cell_far (p := ⟨gb150, _, none⟩) NB148_150.out _).trans (hHeld.1)))))))))), ((cell_far (p := ⟨gb150, _, none⟩) NB148_150.out _).trans (((cell_far (p := ⟨gb150, _, none⟩) NB148_150.out _).trans (((cell_far (p := ⟨gb150, _, none⟩) NB148_150.out _).trans (((cell_far (p := ⟨gb150, _, none⟩) NB148_150.out _).trans (((cell_far (p := ⟨gb150, _, none⟩) NB148_150.out _).trans (hHeld.2.1)))))))))), ((cell_far (p := ⟨gb150, _, none⟩) NB148_150.out _).trans (((cell_far (p := ⟨gb150, _, none⟩) NB148_150.out _).trans (((cell_far (p := ⟨gb150, _, none⟩) NB148_150.out _).trans (((cell_far (p := ⟨gb150, _, none⟩) NB148_150.out _).trans (((cell_far (p := ⟨gb150, _, none⟩) NB148_150.out _).trans (hHeld.2.2.1)))))))))), ((cell_far (p := ⟨gb150, _, none⟩) NB148_150.out _).trans (((cell_far (p := ⟨gb150, _, none⟩) NB148_150.out _).trans (((cell_far (p := ⟨gb150, _, none⟩) NB148_150.out _).trans (((cell_far (p := ⟨gb150, _, none⟩) NB148_150.out _).trans (((cell_far (p := ⟨gb150, _, none⟩) NB148_150.out _).trans (hHeld.2.2.2.1)))))))))), ((cell_far (p := ⟨gb150, _, none⟩) NB148_150.out _).trans (((cell_far (p := ⟨gb150, _, none⟩) NB148_150.out _).trans (((cell_far (p := ⟨gb150, _, none⟩) NB148_150.out _).trans (((cell_far (p := ⟨gb150, _, none⟩) NB148_150.out _).trans (((cell_far (p := ⟨gb150, _, none⟩) NB148_150.out _).trans (hHeld.2.2.2.2.1)))))))))), ((cell_far (p := ⟨gb150, _, none⟩) NB148_150.out _).trans (((cell_far (p := ⟨gb150, _, none⟩) NB148_150.out _).trans (((cell_far (p := ⟨gb150, _, none⟩) NB148_150.out _).trans (((cell_far (p := ⟨gb150, _, none⟩) NB148_150.out _).trans (((cell_far (p := ⟨gb150, _, none⟩) NB148_150.out _).trans (hHeld.2.2.2.2.2.1)))))))))), ((cell_far (p := ⟨gb150, _, none⟩) NB148_150.out _).trans (((cell_far (p := ⟨gb150, _, none⟩) NB148_150.out _).trans (((cell_far (p := ⟨gb150, _, none⟩) NB148_150.out _).trans (((cell_far (p := ⟨gb150, _, none⟩) NB148_150.out _).trans (((cell_far (p := ⟨gb150, _, none⟩) NB148_150.out _).trans (hHeld.2.2.2.2.2.2))))))))))⟩ (fun hHeld => ?_)
       clear hK K
       refine done_ (done_of HT_.out (by kernel_rfl)) ?_
       try go_wp2
       refine bodyPost_ret (results_tc rfl _ _ gb150 34 #[.int .i64 0, .int .u32 t166, .bool false, .slice none 0 0, .slice none 0 0] (0, 0) _ rfl (by (with_reducible repeat (first | refine blk_drewN ?_ _ | refine blk_drew ?_ | refine blk_alloc ?_ _)); refine blk_put (cs := #[.int .i64 0, .int .u32 t166, .bool false, .slice none 0 0, .slice none 0 0]) ?_ 4 _ rfl; refine blk_put (cs := #[.int .i64 0, .int .u32 t166, .bool false, .slice none 0 0, .slice none 0 0]) ?_ 3 _ rfl; refine blk_put (cs := #[.int .i64 0, .int .u32 t166, .bool x151002_1, .slice none 0 0, .slice none 0 0]) ?_ 2 _ rfl; refine blk_put (cs := #[.int .i64 0, .int .u32 x151001_1, .bool x151002_1, .slice none 0 0, .slice none 0 0]) ?_ 1 _ rfl; refine blk_put (cs := #[.int .i64 x151000_1, .int .u32 x151001_1, .bool x151002_1, .slice none 0 0, .slice none 0 0]) ?_ 0 _ rfl; (with_reducible repeat (first | refine blk_drewN ?_ _ | refine blk_drew ?_ | refine blk_alloc ?_ _)); exact BK150.out) Tryd.underlying34 rfl (by kernel_rfl)) rfl ?_
       exact ⟨_, _, _, er_, by (with_reducible repeat (first | apply Kd.V_alloc | apply Kd.V_drewN | apply Kd.V_drew)); exact Kd.V_mono (vF5_ (g := gb150) (Kd.V_mono HO165.out (fun k_ hk => (⟨hk, hk.2.2.2⟩ : _ ∧ k_ ≠ gb150))) (fun _ hk => hk.2)) (fun _ hk => ⟨hk.1.1, ⟨(by simp [Value.ownBlock]), (by simp [Value.ownBlock])⟩⟩), by first | exact Kd.R_nil _ _ _ _ _ | exact Kd.N_nil _ _ _ _ _ | exact Kd.V_nil _ _ _ _ _ | exact Kd.Q_nil _ _ _ _ _ | exact Kd.S_nil _ _ _ _ _, by first | exact Kd.R_nil _ _ _ _ _ | exact Kd.N_nil _ _ _ _ _ | exact Kd.V_nil _ _ _ _ _ | exact Kd.Q_nil _ _ _ _ _ | exact Kd.S_nil _ _ _ _ _, hB_ HB⟩
      ·replace c25 := Bool.eq_false_iff.mpr c25
       subst c25
       have H1 : (spec_least.l0 kj12 l1 t151 (wrap64 (x12_1 + 1)) a0_0 a0_1 l0_2 a0_3 a0_4 a0_5 a0_6) = some (r1, r2, r3, r4, r5, r6) := by rw [if_neg (show ¬ (false = true) by decide)] at H; exact H
       clear H; have H := H1; clear H1
       have H' := Aside0.mk H
       clear H
       go_wp2
       go_roundg kj12
       case measure => have := HK1.out; have := HJ12.out; omega
       case rel => exact ⟨(wrap64 (x12_1 + 1)), (x151000_1), (x151001_1), (x151002_1), rs_, H', ⟨by have := HK1.out; have := HJ12.out; omega⟩, ⟨by (with_reducible repeat (first | apply Kd.V_alloc | apply Kd.V_drewN | apply Kd.V_drew)); exact HO_1.out⟩, ⟨bk_ BK148⟩, ⟨bk_ BK149⟩, ⟨bk_ BK150⟩, ⟨hB_ HB⟩⟩
   ·rw [if_neg c12] at H
    have c12b0 : decide (x12_1 < t151) = false := decide_eq_false c12
    clear c12; replace H := Option.bind_eq_some_iff.mp H; obtain ⟨⟨t152, t153, t154, t155, t158⟩, A360, H⟩ := H
    replace H : (some (l1, t152, t153, t154, t155, t158)) = some (r1, r2, r3, r4, r5, r6) := H
    have A36 := Aside0.mk A360; clear A360; simp only [Option.some.injEq, Prod.mk.injEq] at H; obtain ⟨rfl, rfl, rfl, rfl, rfl, rfl⟩ := H
    go_wp2_with (first | ((with_reducible refine gate_callee (f := 31) rfl ?_); refine goesL_ (some 35) rfl rfl Tryd.func31 (by kernel_rfl) rfl #[.int .i64 9] rfl am_ ?_; (with_reducible refine (spec_fail.calls 9 t152 t153 t154 t155 t158 _ A36.out).mono ?_); rintro e w37 ⟨v156, v159, rfl, ho0, ho1, hb⟩; refine ⟨_, rfl, ?_⟩; have n0_ := Aside0.mk (Kd.V_mono (Kd.V_told (Kd.V_told (Kd.V_old (vV_ HO_1) hb) (Kd.R_base ho0)) (Kd.R_base ho1)) (fun _ h_ => h_.1)); have n1_ := Aside0.mk (Kd.R_lower (Kd.R_newM (M := fun k_ => (w.heap.size ≤ k_)) ho0 (below_size (hB_ HB)) (fun k_ h_ => h_)) (below_size (hB_ HB))); have n2_ := Aside0.mk (Kd.R_lower (Kd.R_newM (M := fun k_ => (w.heap.size ≤ k_)) ho1 (below_size (hB_ HB)) (fun k_ h_ => h_)) (below_size (hB_ HB))); have n4_ := bB_ BK149 hb; have n6_ := Aside0.mk (below_step (hB_ HB) hb); clear HO_1; clear BK149; clear HB; have HO_1 := n0_; have HO157 := n1_; have HO160 := n2_; have BK149 := n4_; have HB := n6_; replace BK148 := bB_ BK148 hb; replace BK150 := bB_ BK150 hb; clear n0_ n1_ n2_ n4_ n6_; (try clear hb); (try clear hb2); (try clear hk); (try clear hi); (try clear ho0); (try clear ho1); have hnb38 := NB150_148.out; have hnc38 := NB148_150.out; have hnb39 := NB150_149.out; have hnc39 := NB149_150.out; obtain ⟨hcz40_0, hcz40_1, hcz40_2, hcz40_3, hcz40_4, hfz40_0, hfz40_1, hfz40_2, hfz40_3, hfz40_4⟩ := cz5_ (w := w37) BK150; obtain ⟨Ao41, co41, eo41⟩ := Kd.R_slice HO157.out; subst eo41; obtain ⟨Ao42, co42, eo42⟩ := Kd.R_slice HO160.out; subst eo42))
    refine bodyPost_ret (results_tc rfl _ _ gb150 34 #[.int .i64 t152, .int .u32 t153, .bool t154, .slice Ao41 t155.length co41, .slice Ao42 t158.length co42] (0, 0) _ rfl (by (with_reducible repeat (first | refine blk_drewN ?_ _ | refine blk_drew ?_ | refine blk_alloc ?_ _)); refine blk_put (cs := #[.int .i64 t152, .int .u32 t153, .bool t154, .slice Ao41 t155.length co41, .slice none 0 0]) ?_ 4 _ rfl; refine blk_put (cs := #[.int .i64 t152, .int .u32 t153, .bool t154, .slice none 0 0, .slice none 0 0]) ?_ 3 _ rfl; refine blk_put (cs := #[.int .i64 t152, .int .u32 t153, .bool x151002_1, .slice none 0 0, .slice none 0 0]) ?_ 2 _ rfl; refine blk_put (cs := #[.int .i64 t152, .int .u32 x151001_1, .bool x151002_1, .slice none 0 0, .slice none 0 0]) ?_ 1 _ rfl; refine blk_put (cs := #[.int .i64 x151000_1, .int .u32 x151001_1, .bool x151002_1, .slice none 0 0, .slice none 0 0]) ?_ 0 _ rfl; (with_reducible repeat (first | refine blk_drewN ?_ _ | refine blk_drew ?_ | refine blk_alloc ?_ _)); exact BK150.out) Tryd.underlying34 rfl (by kernel_rfl)) rfl ?_
    exact ⟨_, _, _, er_, by (with_reducible repeat (first | apply Kd.V_alloc | apply Kd.V_drewN | apply Kd.V_drew)); exact Kd.V_mono (vF5_ (g := gb150) (Kd.V_mono HO_1.out (fun k_ hk => (⟨hk, hk.1.1.2.2.2⟩ : _ ∧ k_ ≠ gb150))) (fun _ hk => hk.2)) (fun _ hk => ⟨hk.1.1.1.1, ⟨hk.1.1.2, hk.1.2⟩⟩), by (with_reducible repeat (first | apply Kd.R_alloc | apply Kd.R_drewN | apply Kd.R_drew)); exact Kd.R_mono (rF5_ (g := gb150) (Kd.R_types HO157.out BK150.out (by decide)) (fun _ hk => hk.2)) (fun _ hk => hk.1.1), by (with_reducible repeat (first | apply Kd.R_alloc | apply Kd.R_drewN | apply Kd.R_drew)); exact Kd.R_mono (rF5_ (g := gb150) (Kd.R_types HO160.out BK150.out (by decide)) (fun _ hk => hk.2)) (fun _ hk => hk.1.1), hB_ HB⟩

/-! ### spec_offset: function 82 -/
def spec_offset.f (k : Nat) (a0_0 : Int) (a0_1 : Int) (l0_2 : List Int) (a0_3 : Int) (a0_4 : Int) (a0_5 : Int) (a0_6 : Int) (a1 : Int) : Option (Int) := (block_Find.f k a0_0 a0_1 l0_2 a0_3 a0_4 a0_5 a0_6 a1).bind fun bt168 => (some bt168.1)
theorem spec_offset.mono : ∀ a0 a1 a2 a3 a4 a5 a6 a7 k, LeO (spec_offset.f k a0 a1 a2 a3 a4 a5 a6 a7) (spec_offset.f (k + 1) a0 a1 a2 a3 a4 a5 a6 a7) := by
 intro a0 a1 a2 a3 a4 a5 a6 a7 k
 unfold spec_offset.f
 repeat' first
   | (with_reducible exact block_Find.mono _ _ _ _ _ _ _ _ _)
   | (with_reducible exact LeO.refl _)
   | (with_reducible exact LeO.none _)
   | (with_reducible refine LeO.ite ?_ ?_)
   | (with_reducible refine LeO.bind ?_ (fun _ => ?_))
   | exact block_Find.mono _ _ _ _ _ _ _ _ _
   | exact LeO.none _
   | refine LeO.ite ?_ ?_
   | refine LeO.bind ?_ (fun _ => ?_)
set_option maxHeartbeats 8000000 in
set_option maxRecDepth 100000 in
theorem spec_offset.calls (k : Nat) (a0_0 : Int) (a0_1 : Int) (A0_2 : Option Addr) (c0_2 : Nat) (l0_2 : List Int) (a0_3 : Int) (a0_4 : Int) (a0_5 : Int) (a0_6 : Int) (a1 : Int) (r : Int) (w : World) (hr0_2 : Kd.C (Kd.int .i64) w A0_2 l0_2.length l0_2) (hc0_2 : l0_2.length ≤ c0_2) (h : spec_offset.f k a0_0 a0_1 l0_2 a0_3 a0_4 a0_5 a0_6 a1 = some r) :
  Calls Tryd.prog 82 #[.agg #[.int .u32 a0_0, .int .i64 a0_1, .slice A0_2 l0_2.length c0_2, .int .i64 a0_3, .int .i64 a0_4, .int .i64 a0_5, .int .i64 a0_6], .int .u32 a1] w fun e w' => e = .returned (.int .i64 r) ∧ Below w.heap.size w w' := by
 have hu27 := Tryd.underlying27
 have HR0_2 := Aside0.mk hr0_2
 have HC0_2 := Aside0.mk hc0_2
 clear hr0_2 hc0_2
 have HB := Aside0.mk (Below.refl w.heap.size w)
 have H : ((block_Find.f k a0_0 a0_1 l0_2 a0_3 a0_4 a0_5 a0_6 a1).bind fun bt168 => (some bt168.1)) = some r := h
 clear h
 replace H := Option.bind_eq_some_iff.mp H
 obtain ⟨⟨t168, t169⟩, A30, H⟩ := H
 replace H : (some t168) = some r := H
 have A3 := Aside0.mk A30
 clear A30
 obtain rfl := Option.some.inj H
 go_enter Tryd.func82, Tryd.ntmps82
 go_wp2_with (first | ((with_reducible refine gate_dst (N := 2) rfl ?_); refine box_event ?hg (N := 2) ?hd (cs := #[.int .u32 a0_0, .int .i64 a0_1, .slice A0_2 l0_2.length c0_2, .int .i64 a0_3, .int .i64 a0_4, .int .i64 a0_5, .int .i64 a0_6]) (t := 27) ?hr ?_; (case hd => rfl); (case hg => rfl); (case hr => first | (go_simp; done) | (go_simp; rfl)); intro gb167 hg w4 hbox hb; have n1_ := Aside0.mk (hbox); have n2_ := gG_ (w := w) hg HB; have n3_ := gG_ (w := w) hg HB; have BK167 := n1_; have GW167 := n2_; have GE167 := n3_; replace HB := hS_ HB hb; clear n1_ n2_ n3_; clear hb hbox hg; obtain ⟨hcz5_0, hcz5_1, hcz5_2, hcz5_3, hcz5_4, hcz5_5, hcz5_6, hfz5_0, hfz5_1, hfz5_2, hfz5_3, hfz5_4, hfz5_5, hfz5_6⟩ := cz7_ (w := w4) BK167) | ((with_reducible refine gate_callee (f := 33) rfl ?_); refine goesL_ (some 10) rfl rfl Tryd.func33 (by kernel_rfl) rfl #[.agg #[.int .u32 a0_0, .int .i64 a0_1, .slice A0_2 l0_2.length c0_2, .int .i64 a0_3, .int .i64 a0_4, .int .i64 a0_5, .int .i64 a0_6], .int .u32 a1] rfl am_ ?_; (with_reducible refine (block_Find.calls k a0_0 a0_1 _ _ l0_2 a0_3 a0_4 a0_5 a0_6 a1 t168 t169 _ ?side1 ?side2 A3.out).mono ?_); (case side1 => exact cC_ HR0_2 HB); (case side2 => exact HC0_2.out); rintro e w6 ⟨rfl, hb⟩; refine ⟨_, rfl, ?_⟩; have n1_ := Aside0.mk (below_step (hB_ HB) hb); clear HB; have HB := n1_; replace BK167 := bB_ BK167 hb; clear n1_; (try clear hb); (try clear hb2); (try clear hk); (try clear hi)))
 go_ret
 exact ⟨er_, hB_ HB⟩

end Go.Proofs.YtkiimboedgnoiaaDoor.PSpecLegal
