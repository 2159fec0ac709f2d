/- The walk of SpecLegal, part of it: what the Go functions answer; no condition. -/
import Derived.Test.YtkiimboedgnoiaaDoorQSpecLegalx0
import Derived.Test.YtkiimboedgnoiaaDoorQSpecLegalx1
namespace Go.Proofs.YtkiimboedgnoiaaDoor.PSpecLegal
open Go.RowKit Go.Proofs.YtkiimboedgnoiaaDoorW.PrintWords Go.Proofs.YtkiimboedgnoiaaDoorW.PrintLast Go.Proofs.YtkiimboedgnoiaaDoorW.PrintMore
attribute [local go_sem] max2_int min2_int max_two min_two max_three min_three max_four min_four   -- for this text's walks alone
set_option linter.unusedVariables false
set_option linter.unusedSimpArgs false

/-! ### ask_Check: function 32 -/
mutual
def ask_Check.j0 : Nat → Bool → Int → Int → List Int → Int → Int → Int → Int → Int → Int → List Int → Option (Int)
 | 0, _, _, _, _, _, _, _, _, _, _, _ => none
 | k + 1, x18, x121000, x121001, x121002, x121003, x121004, x121005, x121006, x122000, x122001, x122002 => if x18 = true then (some 1) else ((ask_size.f x122000 x122001 x122002).bind fun t122 => (if t122 = 0 then ((ask_Names.f x122000 x122001 x122002).bind fun t123 => (ask_Check.l0 k t123 (t123.length : Int) 0 x121000 x121001 x121002 x121003 x121004 x121005 x121006 [])) else (some t122)))
def ask_Check.l0 : Nat → List Int → Int → Int → Int → Int → List Int → Int → Int → Int → Int → List Int → Option (Int)
 | 0, _, _, _, _, _, _, _, _, _, _, _ => none
 | k + 1, x26, x27, x28, x121000, x121001, x121002, x121003, x121004, x121005, x121006, met => if x28 < x27 then (if 0 ≤ x28 then (if x28 < (x26.length : Int) then ((block_Find.f k x121000 x121001 x121002 x121003 x121004 x121005 x121006 (rd x26 x28)).bind fun bt127 => (if bt127.2 = 0 then (if (Lit.int .u32 (rd x26 x28)).wf = true then (if (rd x26 x28) ∈ met then (some 8) else (if met.length < 17592186044416 then (ask_Check.l0 k x26 x27 (wrap64 (x28 + 1)) x121000 x121001 x121002 x121003 x121004 x121005 x121006 (met ++ [rd x26 x28])) else (none))) else (none)) else (some bt127.2))) else (none)) else (none)) else (some 0)
end
def ask_Check.f (k : Nat) (a0_0 : Int) (a0_1 : Int) (l0_2 : List Int) (a0_3 : Int) (a0_4 : Int) (a0_5 : Int) (a0_6 : Int) (a1_0 : Int) (a1_1 : Int) (l1_2 : List Int) : Option (Int) := if a1_0 < 1 then (ask_Check.j0 k true a0_0 a0_1 l0_2 a0_3 a0_4 a0_5 a0_6 a1_0 a1_1 l1_2) else (ask_Check.j0 k (decide (a1_0 > 7)) a0_0 a0_1 l0_2 a0_3 a0_4 a0_5 a0_6 a1_0 a1_1 l1_2)
theorem ask_Check.mono_l : ∀ k, (∀ y0 y1 y2 y3 y4 y5 y6 y7 y8 y9 y10, LeO (ask_Check.j0 k y0 y1 y2 y3 y4 y5 y6 y7 y8 y9 y10) (ask_Check.j0 (k + 1) y0 y1 y2 y3 y4 y5 y6 y7 y8 y9 y10)) ∧ (∀ y0 y1 y2 y3 y4 y5 y6 y7 y8 y9 y10, LeO (ask_Check.l0 k y0 y1 y2 y3 y4 y5 y6 y7 y8 y9 y10) (ask_Check.l0 (k + 1) y0 y1 y2 y3 y4 y5 y6 y7 y8 y9 y10))
 | 0 => ⟨fun _ _ _ _ _ _ _ _ _ _ _ r h => by simp [ask_Check.j0] at h, fun _ _ _ _ _ _ _ _ _ _ _ r h => by simp [ask_Check.l0] at h⟩
 | k + 1 => by
  obtain ⟨ih0, ih1⟩ := ask_Check.mono_l k
  refine ⟨?_, ?_⟩
  ·intro y0 y1 y2 y3 y4 y5 y6 y7 y8 y9 y10
   unfold ask_Check.j0
   repeat' first
   | (with_reducible exact ih0 _ _ _ _ _ _ _ _ _ _ _)
   | (with_reducible exact ih1 _ _ _ _ _ _ _ _ _ _ _)
   | (with_reducible exact block_Find.mono _ _ _ _ _ _ _ _ _)
   | (with_reducible exact LeO.refl _)
   | (with_reducible exact LeO.none _)
   | (with_reducible refine LeO.ite ?_ ?_)
   | (with_reducible refine LeO.bind ?_ (fun _ => ?_))
   | exact ih0 _ _ _ _ _ _ _ _ _ _ _
   | exact ih1 _ _ _ _ _ _ _ _ _ _ _
   | exact block_Find.mono _ _ _ _ _ _ _ _ _
   | exact LeO.none _
   | refine LeO.ite ?_ ?_
   | refine LeO.bind ?_ (fun _ => ?_)
  ·intro y0 y1 y2 y3 y4 y5 y6 y7 y8 y9 y10
   unfold ask_Check.l0
   repeat' first
   | (with_reducible exact ih0 _ _ _ _ _ _ _ _ _ _ _)
   | (with_reducible exact ih1 _ _ _ _ _ _ _ _ _ _ _)
   | (with_reducible exact block_Find.mono _ _ _ _ _ _ _ _ _)
   | (with_reducible exact LeO.refl _)
   | (with_reducible exact LeO.none _)
   | (with_reducible refine LeO.ite ?_ ?_)
   | (with_reducible refine LeO.bind ?_ (fun _ => ?_))
   | exact ih0 _ _ _ _ _ _ _ _ _ _ _
   | exact ih1 _ _ _ _ _ _ _ _ _ _ _
   | exact block_Find.mono _ _ _ _ _ _ _ _ _
   | exact LeO.none _
   | refine LeO.ite ?_ ?_
   | refine LeO.bind ?_ (fun _ => ?_)
theorem ask_Check.mono : ∀ a0 a1 a2 a3 a4 a5 a6 a7 a8 a9 k, LeO (ask_Check.f k a0 a1 a2 a3 a4 a5 a6 a7 a8 a9) (ask_Check.f (k + 1) a0 a1 a2 a3 a4 a5 a6 a7 a8 a9) := by
 intro a0 a1 a2 a3 a4 a5 a6 a7 a8 a9 k
 obtain ⟨ih0, ih1⟩ := ask_Check.mono_l k
 unfold ask_Check.f
 repeat' first
   | (with_reducible exact ih0 _ _ _ _ _ _ _ _ _ _ _)
   | (with_reducible exact ih1 _ _ _ _ _ _ _ _ _ _ _)
   | (with_reducible exact block_Find.mono _ _ _ _ _ _ _ _ _)
   | (with_reducible exact LeO.refl _)
   | (with_reducible exact LeO.none _)
   | (with_reducible refine LeO.ite ?_ ?_)
   | (with_reducible refine LeO.bind ?_ (fun _ => ?_))
   | exact ih0 _ _ _ _ _ _ _ _ _ _ _
   | exact ih1 _ _ _ _ _ _ _ _ _ _ _
   | exact block_Find.mono _ _ _ _ _ _ _ _ _
   | exact LeO.none _
   | refine LeO.ite ?_ ?_
   | refine LeO.bind ?_ (fun _ => ?_)
set_option maxHeartbeats 8000000 in
set_option maxRecDepth 100000 in
theorem ask_Check.calls (k : Nat) (a0_0 : Int) (a0_1 : Int) (A0_2 : Option Addr) (c0_2 : Nat) (l0_2 : List Int) (a0_3 : Int) (a0_4 : Int) (a0_5 : Int) (a0_6 : Int) (a1_0 : Int) (a1_1 : Int) (A1_2 : Option Addr) (c1_2 : Nat) (l1_2 : List Int) (r : Int) (w : World) (hr0_2 : Kd.C (Kd.int .i64) w A0_2 l0_2.length l0_2) (hc0_2 : l0_2.length ≤ c0_2) (hr1_2 : Kd.C (Kd.int .u32) w A1_2 l1_2.length l1_2) (hc1_2 : l1_2.length ≤ c1_2) (hG : Lg w) (h : ask_Check.f k a0_0 a0_1 l0_2 a0_3 a0_4 a0_5 a0_6 a1_0 a1_1 l1_2 = some r) :
  Calls Tryd.prog 32 #[.agg #[.int .u32 a0_0, .int .i64 a0_1, .slice A0_2 l0_2.length c0_2, .int .i64 a0_3, .int .i64 a0_4, .int .i64 a0_5, .int .i64 a0_6], .agg #[.int .i64 a1_0, .int .u32 a1_1, .slice A1_2 l1_2.length c1_2]] w fun e w' => e = .returned (.int .i64 r) ∧ Below w.heap.size w w' := by
 have hu27 := Tryd.underlying27
 have hu30 := Tryd.underlying30
 have HR0_2 := Aside0.mk hr0_2
 have HC0_2 := Aside0.mk hc0_2
 clear hr0_2 hc0_2
 have HR1_2 := Aside0.mk hr1_2
 have HC1_2 := Aside0.mk hc1_2
 clear hr1_2 hc1_2
 have HB := Aside0.mk (Below.refl w.heap.size w)
 have HG := Aside0.mk hG
 clear hG
 have H : (if a1_0 < 1 then (ask_Check.j0 k true a0_0 a0_1 l0_2 a0_3 a0_4 a0_5 a0_6 a1_0 a1_1 l1_2) else (ask_Check.j0 k (decide (a1_0 > 7)) a0_0 a0_1 l0_2 a0_3 a0_4 a0_5 a0_6 a1_0 a1_1 l1_2)) = some r := h
 clear h
 have HC3 := Aside0.mk H
 clear H
 go_enter Tryd.func32, Tryd.ntmps32
 go_upto_region 1 with (first | ((with_reducible refine gate_dst (N := 2) rfl ?_); refine box_event ?hg (N := 2) ?hd (cs := #[.int .u32 a0_0, .int .i64 a0_1, .slice A0_2 l0_2.length c0_2, .int .i64 a0_3, .int .i64 a0_4, .int .i64 a0_5, .int .i64 a0_6]) (t := 27) ?hr ?_; (case hd => rfl); (case hg => rfl); (case hr => first | (go_simp; done) | (go_simp; rfl)); intro gb120 hg w4 hbox hb; have n1_ := Aside0.mk (hbox); have n2_ := gG_ (w := w) hg HB; have n3_ := gG_ (w := w) hg HB; have BK120 := n1_; have GW120 := n2_; have GE120 := n3_; replace HB := hS_ HB hb; clear n1_ n2_ n3_; clear hb hbox hg) | ((with_reducible refine gate_dst (N := 3) rfl ?_); refine box_event ?hg (N := 3) ?hd (cs := #[.int .i64 a1_0, .int .u32 a1_1, .slice A1_2 l1_2.length c1_2]) (t := 30) ?hr ?_; (case hd => rfl); (case hg => rfl); (case hr => first | (go_simp; done) | (go_simp; rfl)); intro gb121 hg w5 hbox hb; have n1_ := Aside0.mk (below_step (hB_ HB) hb); have n2_ := Aside0.mk (hbox); have n3_ := gG_ (w := w) hg HB; have n4_ := gG_ (w := w) hg HB; have n5_ := nL_ hg BK120; have n6_ := nG_ hg BK120; clear HB; have HB := n1_; have BK121 := n2_; have GW121 := n3_; have GE121 := n4_; have NB120_121 := n5_; have NB121_120 := n6_; replace BK120 := bB_ BK120 hb; clear n1_ n2_ n3_ n4_ n5_ n6_; clear hb hbox hg))
 (try simp only [Act.put, List.setIfInBounds_toArray, List.set_cons_zero, List.set_cons_succ])
 go_cut [18] (fun v18 wc => ∃ (kq : Nat) (x18_2 : Bool), v18 = .bool x18_2 ∧ Aside0 (ask_Check.j0 kq x18_2 a0_0 a0_1 l0_2 a0_3 a0_4 a0_5 a0_6 a1_0 a1_1 l1_2 = some r) ∧ Aside0 (kq ≤ k) ∧ Aside0 (wc.heap[gb120]? = some (.cells #[.int .u32 a0_0, .int .i64 a0_1, (.slice A0_2 l0_2.length c0_2), .int .i64 a0_3, .int .i64 a0_4, .int .i64 a0_5, .int .i64 a0_6] 27 (0, 0))) ∧ Aside0 (wc.heap[gb121]? = some (.cells #[.int .i64 a1_0, .int .u32 a1_1, (.slice A1_2 l1_2.length c1_2)] 30 (0, 0))) ∧ Aside0 (Below w.heap.size w wc))
 case first =>
  have H := HC3.out; clear HC3
  by_cases c6 : a1_0 < 1
  ·rw [if_pos c6] at H
   have c6b0 : decide (a1_0 < 1) = true := decide_eq_true c6
   clear c6
   (first | rw [c6b0] | (simp only [i64_w, i32_w]; rw [c6b0]) | skip)
   have H' := Aside0.mk H
   clear H; have hnb7 := NB121_120.out; have hnc7 := NB120_121.out; obtain ⟨hcz8_0, hcz8_1, hcz8_2, hfz8_0, hfz8_1, hfz8_2⟩ := cz3_ (w := w5) BK121
   go_wp2
   go_meet
   case rel => exact ⟨_, (true), rs_, H', ⟨by first | omega | exact Nat.le_refl _⟩, ⟨bk_ BK120⟩, ⟨bk_ BK121⟩, ⟨hB_ HB⟩⟩
  ·rw [if_neg c6] at H
   have c6b0 : decide (a1_0 < 1) = false := decide_eq_false c6
   clear c6
   (first | rw [c6b0] | (simp only [i64_w, i32_w]; rw [c6b0]) | skip)
   have H' := Aside0.mk H
   clear H; have hnb9 := NB121_120.out; have hnc9 := NB120_121.out; obtain ⟨hcz10_0, hcz10_1, hcz10_2, hfz10_0, hfz10_1, hfz10_2⟩ := cz3_ (w := w5) BK121
   go_wp2
   go_meet
   case rel => exact ⟨_, (decide (a1_0 > 7)), rs_, H', ⟨by first | omega | exact Nat.le_refl _⟩, ⟨bk_ BK120⟩, ⟨bk_ BK121⟩, ⟨hB_ HB⟩⟩
 case rest =>
  clear HC3
  try clear c1
  try clear p2
  try clear c6
  try clear c6b0
  try clear c7
  try clear c9
  try clear hcz10_0 hcz10_1 hcz10_2
  try clear hcz8_0 hcz8_1 hcz8_2
  try clear hfz10_0 hfz10_1 hfz10_2
  try clear hfz8_0 hfz8_1 hfz8_2
  obtain ⟨kq, x18_2, rfl, HA, HJ2, BK120, BK121, HB⟩ := hcut
  cases kq with
  | zero => exact absurd HA.out (by simp [ask_Check.j0])
  | succ kj2 =>
   have H := HA.out; clear HA; simp only [ask_Check.j0] at H
   by_cases c11 : x18_2 = true
   ·subst c11
    have H1 : (some 1) = some r := by rw [if_pos rfl] at H; exact H
    clear H; have H := H1; clear H1
    obtain rfl := Option.some.inj H
    go_wp2
    go_ret
    exact ⟨er_, hB_ HB⟩
   ·replace c11 := Bool.eq_false_iff.mpr c11
    subst c11
    have H1 : ((ask_size.f a1_0 a1_1 l1_2).bind fun t122 => (if t122 = 0 then ((ask_Names.f a1_0 a1_1 l1_2).bind fun t123 => (ask_Check.l0 kj2 t123 (t123.length : Int) 0 a0_0 a0_1 l0_2 a0_3 a0_4 a0_5 a0_6 [])) else (some t122))) = some r := by rw [if_neg (show ¬ (false = true) by decide)] at H; exact H
    clear H; have H := H1; clear H1; replace H := Option.bind_eq_some_iff.mp H; obtain ⟨t122, A120, H⟩ := H
    replace H : (if t122 = 0 then ((ask_Names.f a1_0 a1_1 l1_2).bind fun t123 => (ask_Check.l0 kj2 t123 (t123.length : Int) 0 a0_0 a0_1 l0_2 a0_3 a0_4 a0_5 a0_6 [])) else (some t122)) = some r := H
    have A12 := Aside0.mk A120; clear A120
    by_cases c13 : t122 = 0
    ·rw [if_pos c13] at H
     have c13b0 : (t122 == 0) = true := beq_iff_eq.mpr c13
     have c13b1 : (t122 != 0) = false := bne_eq_false_iff_eq.mpr c13
     clear c13; replace H := Option.bind_eq_some_iff.mp H; obtain ⟨t123, A140, H⟩ := H
     replace H : (ask_Check.l0 kj2 t123 (t123.length : Int) 0 a0_0 a0_1 l0_2 a0_3 a0_4 a0_5 a0_6 []) = some r := H
     have A14 := Aside0.mk A140; clear A140
     have H' := Aside0.mk H
     clear H; have hnb15 := NB121_120.out; have hnc15 := NB120_121.out; obtain ⟨hcz16_0, hcz16_1, hcz16_2, hfz16_0, hfz16_1, hfz16_2⟩ := cz3_ (w := wc) BK121
     go_wp2_with (first | ((with_reducible refine gate_callee (f := 46) rfl ?_); refine goesL_ (some 20) rfl rfl Tryd.func46 (by kernel_rfl) rfl #[.agg #[.int .i64 a1_0, .int .u32 a1_1, .slice A1_2 l1_2.length c1_2]] rfl am_ ?_; (with_reducible refine (ask_size.calls a1_0 a1_1 _ _ l1_2 t122 _ ?side1 ?side2 A12.out).mono ?_); (case side1 => exact cC_ HR1_2 HB); (case side2 => exact HC1_2.out); rintro e w17 ⟨rfl, hb⟩; refine ⟨_, rfl, ?_⟩; have n1_ := bB_ BK121 hb; clear BK121; have BK121 := n1_; replace BK120 := bB_ BK120 hb; replace HB := hS_ HB hb; clear n1_; (try clear hb); (try clear hb2); (try clear hk); (try clear hi); obtain ⟨hcz18_0, hcz18_1, hcz18_2, hfz18_0, hfz18_1, hfz18_2⟩ := cz3_ (w := w17) BK121) | ((with_reducible refine gate_dst (N := 24) rfl ?_); refine map_event (k := 22) (e := 4) ?hg (N := 24) ?hd ?hr ?_; (case hd => rfl); (case hg => rfl); (case hr => first | (go_simp; done) | (go_simp; rfl)); intro mb hmb w60 hmap hb; have n1_ := bB_ BK121 hb; have n3_ := Aside0.mk hmap; have n4_ := Aside0.mk ((by rw [hmb]; exact (below_size (hB_ HB))) : w.heap.size ≤ mb); clear BK121; have BK121 := n1_; have HM := n3_; have GM := n4_; replace BK120 := bB_ BK120 hb; replace HB := hS_ HB hb; clear n1_ n3_ n4_; clear hb hmap hmb; (try clear hcz18_0 hcz18_1 hcz18_2 hfz18_0 hfz18_1 hfz18_2); obtain ⟨hcz18_0, hcz18_1, hcz18_2, hfz18_0, hfz18_1, hfz18_2⟩ := cz3_ (w := w60) BK121) | ((with_reducible refine gate_callee (f := 47) rfl ?_); refine goesL_ (some 26) rfl rfl Tryd.func47 (by kernel_rfl) rfl #[.agg #[.int .i64 a1_0, .int .u32 a1_1, .slice A1_2 l1_2.length c1_2]] rfl am_ ?_; (with_reducible refine (ask_Names.calls a1_0 a1_1 _ _ l1_2 t123 _ ?side1 ?side2 ?side3 A14.out).mono ?_); (case side1 => exact cC_ HR1_2 HB); (case side2 => exact HC1_2.out); (case side3 => exact Lg_below HG.out (hB_ HB)); rintro e w19 ⟨v124, rfl, ho0, hb⟩; refine ⟨_, rfl, ?_⟩; have n0_ := Aside0.mk (Kd.R_lower ho0 (below_size (hB_ HB))); have n2_ := bB_ BK121 hb; clear BK121; have HO125 := n0_; have BK121 := n2_; replace BK120 := bB_ BK120 hb; replace HB := hS_ HB hb; clear n0_ n2_; have n5_ := Aside0.mk (MH_below HM.out hb); clear HM; have HM := n5_; clear n5_; (try clear hb); (try clear hb2); (try clear hk); (try clear hi); (try clear ho0); obtain ⟨Ao20, co20, eo20⟩ := Kd.R_slice HO125.out; subst eo20))
     go_loopg [28] kj2 (fun kq v28 w' => ∃ (x28_2 : Int) (met : List Int), v28 = .int .i64 x28_2 ∧ Aside0 (MH Tryd.prog 22 4 w' mb met) ∧ Aside0 (ask_Check.l0 kq t123 (t123.length : Int) x28_2 a0_0 a0_1 l0_2 a0_3 a0_4 a0_5 a0_6 met = some r) ∧ Aside0 (kq ≤ kj2) ∧ Aside0 (Kd.R (Kd.int .u32) 22 w' w.heap.size (fun _ => True) (.slice Ao20 t123.length co20) t123) ∧ Aside0 (w'.heap[gb120]? = some (.cells #[.int .u32 a0_0, .int .i64 a0_1, (.slice A0_2 l0_2.length c0_2), .int .i64 a0_3, .int .i64 a0_4, .int .i64 a0_5, .int .i64 a0_6] 27 (0, 0))) ∧ Aside0 (w'.heap[gb121]? = some (.cells #[.int .i64 a1_0, .int .u32 a1_1, (.slice A1_2 l1_2.length c1_2)] 30 (0, 0))) ∧ Aside0 (Below w.heap.size w w'))
     case atStart => exact ⟨(0), [], rs_, HM, H', ⟨Nat.le_refl _⟩, ⟨by (with_reducible repeat (first | apply Kd.R_alloc | apply Kd.R_drewN | apply Kd.R_drew)); exact HO125.out⟩, ⟨bk_ BK120⟩, ⟨bk_ BK121⟩, ⟨hB_ HB⟩⟩
     case round =>
      clear H' HM
      try clear c1
      try clear c2
      try clear p2
      try clear c6
      try clear c6b0
      try clear c7
      try clear c9
      try clear c11
      try clear c13
      try clear c13b0
      try clear c13b1
      try clear c14
      try clear c15
      try clear hcz10_0 hcz10_1 hcz10_2
      try clear hcz16_0 hcz16_1 hcz16_2
      try clear hcz18_0 hcz18_1 hcz18_2
      try clear hcz8_0 hcz8_1 hcz8_2
      try clear hfz10_0 hfz10_1 hfz10_2
      try clear hfz16_0 hfz16_1 hfz16_2
      try clear hfz18_0 hfz18_1 hfz18_2
      try clear hfz8_0 hfz8_1 hfz8_2
      try clear p2
      obtain ⟨x28_2, met, rfl, HM, HA, HK2, HO_26, BK120, BK121, HB⟩ := hrel
      cases gk with
      | zero => exact absurd HA.out (by simp [ask_Check.l0])
      | succ k2 =>
       have H := HA.out; clear HA; simp only [ask_Check.l0] at H
       by_cases c21 : x28_2 < (t123.length : Int)
       ·rw [if_pos c21] at H
        have c21b0 : decide (x28_2 < (t123.length : Int)) = true := decide_eq_true c21
        clear c21
        by_cases c22 : 0 ≤ x28_2
        ·rw [if_pos c22] at H
         have c22b0 : decide (0 ≤ x28_2) = true := decide_eq_true c22
         clear c22
         by_cases c23 : x28_2 < (t123.length : Int)
         ·rw [if_pos c23] at H
          have c23b0 : decide (x28_2 < (t123.length : Int)) = true := decide_eq_true c23
          clear c23; replace H := Option.bind_eq_some_iff.mp H; obtain ⟨⟨t127, t128⟩, A240, H⟩ := H
          replace H : (if t128 = 0 then (if (Lit.int .u32 (rd t123 x28_2)).wf = true then (if (rd t123 x28_2) ∈ met then (some 8) else (if met.length < 17592186044416 then (ask_Check.l0 k2 t123 (t123.length : Int) (wrap64 (x28_2 + 1)) a0_0 a0_1 l0_2 a0_3 a0_4 a0_5 a0_6 (met ++ [rd t123 x28_2])) else (none))) else (none)) else (some t128)) = some r := H
          have A24 := Aside0.mk A240; clear A240
          by_cases c25 : t128 = 0
          ·rw [if_pos c25] at H
           have c25b0 : (t128 == 0) = true := beq_iff_eq.mpr c25
           have c25b1 : (t128 != 0) = false := bne_eq_false_iff_eq.mpr c25
           clear c25
           by_cases cw : (Lit.int .u32 (rd t123 x28_2)).wf = true
           rotate_left
           ·rw [if_neg cw] at H
            exact absurd H (by simp)
           rw [if_pos cw] at H; have CW := Aside0.mk cw; clear cw
           by_cases c26 : (rd t123 x28_2) ∈ met
           ·rw [if_pos c26] at H
            have CM := Aside0.mk c26; clear c26
            obtain rfl := Option.some.inj H
            have p126 : 0 ≤ (x28_2 : Int) := od_
            have q126 : x28_2 < (t123.length : Int) := od_
            obtain ⟨ad126, e126, hx126_0⟩ := Kd.at_int (Kd.R_reads' HO_26.out).2.2 x28_2 p126 q126
            cases e126
            replace p126 := eq_true p126; replace q126 := eq_true q126; have hnb27 := NB120_121.out; have hnc27 := NB121_120.out; obtain ⟨hcz28_0, hcz28_1, hcz28_2, hcz28_3, hcz28_4, hcz28_5, hcz28_6, hfz28_0, hfz28_1, hfz28_2, hfz28_3, hfz28_4, hfz28_5, hfz28_6⟩ := cz7_ (w := wr) BK120
            go_wp2_with (first | ((with_reducible refine gate_callee (f := 33) rfl ?_); refine goesL_ (some 35) rfl rfl Tryd.func33 (by kernel_rfl) rfl #[.agg #[.int .u32 a0_0, .int .i64 a0_1, .slice A0_2 l0_2.length c0_2, .int .i64 a0_3, .int .i64 a0_4, .int .i64 a0_5, .int .i64 a0_6], .int .u32 (rd t123 x28_2)] rfl am_ ?_; (with_reducible refine (block_Find.calls k2 a0_0 a0_1 _ _ l0_2 a0_3 a0_4 a0_5 a0_6 (rd t123 x28_2) t127 t128 _ ?side1 ?side2 A24.out).mono ?_); (case side1 => exact cC_ HR0_2 HB); (case side2 => exact HC0_2.out); rintro e w29 ⟨rfl, hb⟩; refine ⟨_, rfl, ?_⟩; have n0_ := Aside0.mk (Kd.R_below (rR_ HO_26) hb); have n2_ := bB_ BK121 hb; clear HO_26; clear BK121; have HO_26 := n0_; have BK121 := n2_; replace BK120 := bB_ BK120 hb; replace HB := hS_ HB hb; clear n0_ n2_; have n5_ := Aside0.mk (MH_below HM.out hb); clear HM; have HM := n5_; clear n5_; have hlk := MH_look_yes HM.out 71 Tryd.underlying71 Tryd.underlying22 Tryd.underlying4 (rd t123 x28_2) CW.out CM.out (fun _ => by kernel_rfl); (try clear hb); (try clear hb2); (try clear hk); (try clear hi)))
            go_ret
            exact ⟨er_, hB_ HB⟩
           ·rw [if_neg c26] at H
            have CM := Aside0.mk c26; clear c26
            by_cases cl : met.length < 17592186044416
            rotate_left
            ·rw [if_neg cl] at H
             exact absurd H (by simp)
            rw [if_pos cl] at H; have CL := Aside0.mk cl; clear cl
            have H' := Aside0.mk H
            clear H
            have p126 : 0 ≤ (x28_2 : Int) := od_
            have q126 : x28_2 < (t123.length : Int) := od_
            obtain ⟨ad126, e126, hx126_0⟩ := Kd.at_int (Kd.R_reads' HO_26.out).2.2 x28_2 p126 q126
            cases e126
            replace p126 := eq_true p126; replace q126 := eq_true q126; have hnb30 := NB120_121.out; have hnc30 := NB121_120.out; obtain ⟨hcz31_0, hcz31_1, hcz31_2, hcz31_3, hcz31_4, hcz31_5, hcz31_6, hfz31_0, hfz31_1, hfz31_2, hfz31_3, hfz31_4, hfz31_5, hfz31_6⟩ := cz7_ (w := wr) BK120
            go_wp2_with (first | ((with_reducible refine gate_callee (f := 33) rfl ?_); refine goesL_ (some 35) rfl rfl Tryd.func33 (by kernel_rfl) rfl #[.agg #[.int .u32 a0_0, .int .i64 a0_1, .slice A0_2 l0_2.length c0_2, .int .i64 a0_3, .int .i64 a0_4, .int .i64 a0_5, .int .i64 a0_6], .int .u32 (rd t123 x28_2)] rfl am_ ?_; (with_reducible refine (block_Find.calls k2 a0_0 a0_1 _ _ l0_2 a0_3 a0_4 a0_5 a0_6 (rd t123 x28_2) t127 t128 _ ?side1 ?side2 A24.out).mono ?_); (case side1 => exact cC_ HR0_2 HB); (case side2 => exact HC0_2.out); rintro e w32 ⟨rfl, hb⟩; refine ⟨_, rfl, ?_⟩; have n0_ := Aside0.mk (Kd.R_below (rR_ HO_26) hb); have n2_ := bB_ BK121 hb; clear HO_26; clear BK121; have HO_26 := n0_; have BK121 := n2_; replace BK120 := bB_ BK120 hb; replace HB := hS_ HB hb; clear n0_ n2_; have n5_ := Aside0.mk (MH_below HM.out hb); clear HM; have HM := n5_; clear n5_; have hlk := MH_look_no HM.out 71 Tryd.underlying71 Tryd.underlying22 Tryd.underlying4 (rd t123 x28_2) CW.out CM.out (fun _ => by kernel_rfl); (try clear hb); (try clear hb2); (try clear hk); (try clear hi)) | (at_mapUpdate; refine MH_put 71 (k := 22) (e := 4) (b := mb) (l := met) rfl _ _ _ rfl Tryd.underlying71 Tryd.underlying22 Tryd.underlying4 rfl HM.out CL.out (rd t123 x28_2) CW.out rfl rfl ?_; intro w61 hm hg; have n0_ := Aside0.mk (Kd.R_grown1 (rR_ HO_26) rfl hg (MH_ne_row HM.out HO_26.out)); have n1_ := Aside0.mk (blk_grown (o := .cells #[.int .u32 a0_0, .int .i64 a0_1, .slice A0_2 l0_2.length c0_2, .int .i64 a0_3, .int .i64 a0_4, .int .i64 a0_5, .int .i64 a0_6] 27 (0, 0)) BK120.out hg (MH_ne_blk HM.out BK120.out)); have n2_ := Aside0.mk (blk_grown (o := .cells #[.int .i64 a1_0, .int .u32 a1_1, .slice A1_2 l1_2.length c1_2] 30 (0, 0)) BK121.out hg (MH_ne_blk HM.out BK121.out)); have n3_ := Aside0.mk (pw_below_grown HB.out (some mb) (below_size HB.out) hg (fun k_ e_ => by injection e_ with e_; rw [← e_]; exact GM.out)); have n4_ := Aside0.mk hm; clear HO_26; clear BK120; clear BK121; clear HB; clear HM; clear hlk; have HO_26 := n0_; have BK120 := n1_; have BK121 := n2_; have HB := n3_; have HM := n4_; clear n0_ n1_ n2_ n3_ n4_; clear hm hg))
            go_roundg k2
            case measure => have := HJ2.out; have := HK2.out; omega
            case rel => exact ⟨(wrap64 (x28_2 + 1)), (met ++ [rd t123 x28_2]), rs_, HM, H', ⟨by have := HJ2.out; have := HK2.out; omega⟩, ⟨by (with_reducible repeat (first | apply Kd.R_alloc | apply Kd.R_drewN | apply Kd.R_drew)); exact HO_26.out⟩, ⟨bk_ BK120⟩, ⟨bk_ BK121⟩, ⟨hB_ HB⟩⟩
          ·rw [if_neg c25] at H
           have c25b0 : (t128 == 0) = false := beq_eq_false_iff_ne.mpr c25
           have c25b1 : (t128 != 0) = true := bne_iff_ne.mpr c25
           obtain rfl := Option.some.inj H
           have p126 : 0 ≤ (x28_2 : Int) := od_
           have q126 : x28_2 < (t123.length : Int) := od_
           obtain ⟨ad126, e126, hx126_0⟩ := Kd.at_int (Kd.R_reads' HO_26.out).2.2 x28_2 p126 q126
           cases e126
           replace p126 := eq_true p126; replace q126 := eq_true q126; have hnb33 := NB120_121.out; have hnc33 := NB121_120.out; obtain ⟨hcz34_0, hcz34_1, hcz34_2, hcz34_3, hcz34_4, hcz34_5, hcz34_6, hfz34_0, hfz34_1, hfz34_2, hfz34_3, hfz34_4, hfz34_5, hfz34_6⟩ := cz7_ (w := wr) BK120
           go_wp2_with (first | ((with_reducible refine gate_callee (f := 33) rfl ?_); refine goesL_ (some 35) rfl rfl Tryd.func33 (by kernel_rfl) rfl #[.agg #[.int .u32 a0_0, .int .i64 a0_1, .slice A0_2 l0_2.length c0_2, .int .i64 a0_3, .int .i64 a0_4, .int .i64 a0_5, .int .i64 a0_6], .int .u32 (rd t123 x28_2)] rfl am_ ?_; (with_reducible refine (block_Find.calls k2 a0_0 a0_1 _ _ l0_2 a0_3 a0_4 a0_5 a0_6 (rd t123 x28_2) t127 t128 _ ?side1 ?side2 A24.out).mono ?_); (case side1 => exact cC_ HR0_2 HB); (case side2 => exact HC0_2.out); rintro e w35 ⟨rfl, hb⟩; refine ⟨_, rfl, ?_⟩; have n0_ := Aside0.mk (Kd.R_below (rR_ HO_26) hb); have n2_ := bB_ BK121 hb; clear HO_26; clear BK121; have HO_26 := n0_; have BK121 := n2_; replace BK120 := bB_ BK120 hb; replace HB := hS_ HB hb; clear n0_ n2_; (try clear hb); (try clear hb2); (try clear hk); (try clear hi)))
           go_ret
           exact ⟨er_, hB_ HB⟩
         ·rw [if_neg c23] at H
          exact absurd H (by simp)
        ·rw [if_neg c22] at H
         exact absurd H (by simp)
       ·rw [if_neg c21] at H
        have c21b0 : decide (x28_2 < (t123.length : Int)) = false := decide_eq_false c21
        clear c21
        obtain rfl := Option.some.inj H
        go_wp2
        go_ret
        exact ⟨er_, hB_ HB⟩
    ·rw [if_neg c13] at H
     have c13b0 : (t122 == 0) = false := beq_eq_false_iff_ne.mpr c13
     have c13b1 : (t122 != 0) = true := bne_iff_ne.mpr c13
     obtain rfl := Option.some.inj H
     have hnb36 := NB121_120.out; have hnc36 := NB120_121.out; obtain ⟨hcz37_0, hcz37_1, hcz37_2, hfz37_0, hfz37_1, hfz37_2⟩ := cz3_ (w := wc) BK121
     go_wp2_with (first | ((with_reducible refine gate_callee (f := 46) rfl ?_); refine goesL_ (some 20) rfl rfl Tryd.func46 (by kernel_rfl) rfl #[.agg #[.int .i64 a1_0, .int .u32 a1_1, .slice A1_2 l1_2.length c1_2]] rfl am_ ?_; (with_reducible refine (ask_size.calls a1_0 a1_1 _ _ l1_2 t122 _ ?side1 ?side2 A12.out).mono ?_); (case side1 => exact cC_ HR1_2 HB); (case side2 => exact HC1_2.out); rintro e w38 ⟨rfl, hb⟩; refine ⟨_, rfl, ?_⟩; have n1_ := bB_ BK121 hb; clear BK121; have BK121 := n1_; replace BK120 := bB_ BK120 hb; replace HB := hS_ HB hb; clear n1_; (try clear hb); (try clear hb2); (try clear hk); (try clear hi)))
     go_ret
     exact ⟨er_, hB_ HB⟩


/-! ### cmp_isNaN_int: function 57 -/
def cmp_isNaN_int.f (a0 : Int) : Option (Bool) := some (a0 != a0)
set_option maxHeartbeats 8000000 in
set_option maxRecDepth 100000 in
theorem cmp_isNaN_int.calls (a0 : Int) (r : Bool) (w : World) (h : cmp_isNaN_int.f a0 = some r) :
  Calls Tryd.prog 57 #[.int .i64 a0] w fun e w' => e = .returned (.bool r) ∧ Drawn0 w w' := by
 have H : (some (a0 != a0)) = some r := h
 clear h
 obtain rfl := Option.some.inj H
 go_enter Tryd.func57, Tryd.ntmps57
 go_wp2
 go_ret
 exact ⟨by first | rfl | (simp; done) | (simp [*]; done), by repeat (first | exact Drawn0.refl _ | apply Drawn0.step)⟩

/-! ### cmp_Less_int: function 54 -/
def cmp_Less_int.f (a0 : Int) (a1 : Int) : Option (Bool) := (cmp_isNaN_int.f a0).bind fun t121 => (if t121 = true then ((cmp_isNaN_int.f a1).bind fun t122 => (if t122 = true then (some (decide (a0 < a1))) else (some true))) else (some (decide (a0 < a1))))
set_option maxHeartbeats 8000000 in
set_option maxRecDepth 100000 in
theorem cmp_Less_int.calls (a0 : Int) (a1 : Int) (r : Bool) (w : World) (h : cmp_Less_int.f a0 a1 = some r) :
  Calls Tryd.prog 54 #[.int .i64 a0, .int .i64 a1] w fun e w' => e = .returned (.bool r) ∧ Drawn0 w w' := by
 have H : ((cmp_isNaN_int.f a0).bind fun t121 => (if t121 = true then ((cmp_isNaN_int.f a1).bind fun t122 => (if t122 = true then (some (decide (a0 < a1))) else (some true))) else (some (decide (a0 < a1))))) = some r := h
 clear h
 replace H := Option.bind_eq_some_iff.mp H
 obtain ⟨t121, A30, H⟩ := H
 replace H : (if t121 = true then ((cmp_isNaN_int.f a1).bind fun t122 => (if t122 = true then (some (decide (a0 < a1))) else (some true))) else (some (decide (a0 < a1)))) = some r := H
 have A3 := Aside0.mk A30
 clear A30
 by_cases c4 : t121 = true
 ·subst c4
  have H1 : ((cmp_isNaN_int.f a1).bind fun t122 => (if t122 = true then (some (decide (a0 < a1))) else (some true))) = some r := by rw [if_pos rfl] at H; exact H
  clear H; have H := H1; clear H1; replace H := Option.bind_eq_some_iff.mp H; obtain ⟨t122, A50, H⟩ := H
  replace H : (if t122 = true then (some (decide (a0 < a1))) else (some true)) = some r := H
  have A5 := Aside0.mk A50; clear A50
  by_cases c6 : t122 = true
  ·subst c6
   have H1 : (some (decide (a0 < a1))) = some r := by rw [if_pos rfl] at H; exact H
   clear H; have H := H1; clear H1
   obtain rfl := Option.some.inj H
   go_enter Tryd.func54, Tryd.ntmps54
   go_wp2_with (first | ((with_reducible refine gate_callee (f := 57) rfl ?_); refine goesL_ (some 6) rfl rfl Tryd.func57 (by kernel_rfl) rfl #[.int .i64 a0] rfl am_ ?_; (with_reducible refine (cmp_isNaN_int.calls a0 true _ A3.out).mono ?_); rintro e w' ⟨rfl, ⟨nd, rfl⟩⟩; refine ⟨_, rfl, ?_⟩) | (go_at_call 57; (with_reducible refine (cmp_isNaN_int.calls a1 true _ A5.out).mono ?_); rintro e w' ⟨rfl, ⟨nd, rfl⟩⟩) | (go_at_call 57; (with_reducible refine (cmp_isNaN_int.calls a0 true _ A3.out).mono ?_); rintro e w' ⟨rfl, ⟨nd, rfl⟩⟩))
   go_ret
   exact ⟨by first | rfl | (simp; done) | (simp [*]; done), by repeat (first | exact Drawn0.refl _ | apply Drawn0.step)⟩
  ·replace c6 := Bool.eq_false_iff.mpr c6
   subst c6
   have H1 : (some true) = some r := by rw [if_neg (show ¬ (false = true) by decide)] at H; exact H
   clear H; have H := H1; clear H1
   obtain rfl := Option.some.inj H
   go_enter Tryd.func54, Tryd.ntmps54
   go_wp2_with (first | ((with_reducible refine gate_callee (f := 57) rfl ?_); refine goesL_ (some 6) rfl rfl Tryd.func57 (by kernel_rfl) rfl #[.int .i64 a0] rfl am_ ?_; (with_reducible refine (cmp_isNaN_int.calls a0 true _ A3.out).mono ?_); rintro e w' ⟨rfl, ⟨nd, rfl⟩⟩; refine ⟨_, rfl, ?_⟩) | (go_at_call 57; (with_reducible refine (cmp_isNaN_int.calls a1 false _ A5.out).mono ?_); rintro e w' ⟨rfl, ⟨nd, rfl⟩⟩) | (go_at_call 57; (with_reducible refine (cmp_isNaN_int.calls a0 true _ A3.out).mono ?_); rintro e w' ⟨rfl, ⟨nd, rfl⟩⟩))
   go_ret
   exact ⟨by first | rfl | (simp; done) | (simp [*]; done), by repeat (first | exact Drawn0.refl _ | apply Drawn0.step)⟩
 ·replace c4 := Bool.eq_false_iff.mpr c4
  subst c4
  have H1 : (some (decide (a0 < a1))) = some r := by rw [if_neg (show ¬ (false = true) by decide)] at H; exact H
  clear H; have H := H1; clear H1
  obtain rfl := Option.some.inj H
  go_enter Tryd.func54, Tryd.ntmps54
  go_wp2_with (first | ((with_reducible refine gate_callee (f := 57) rfl ?_); refine goesL_ (some 6) rfl rfl Tryd.func57 (by kernel_rfl) rfl #[.int .i64 a0] rfl am_ ?_; (with_reducible refine (cmp_isNaN_int.calls a0 false _ A3.out).mono ?_); rintro e w' ⟨rfl, ⟨nd, rfl⟩⟩; refine ⟨_, rfl, ?_⟩) | (go_at_call 57; (with_reducible refine (cmp_isNaN_int.calls a0 false _ A3.out).mono ?_); rintro e w' ⟨rfl, ⟨nd, rfl⟩⟩))
  go_ret
  exact ⟨by first | rfl | (simp; done) | (simp [*]; done), by repeat (first | exact Drawn0.refl _ | apply Drawn0.step)⟩

/-! ### slices_isNaN_int: function 55 -/
def slices_isNaN_int.f (a0 : Int) : Option (Bool) := some (a0 != a0)
set_option maxHeartbeats 8000000 in
set_option maxRecDepth 100000 in
theorem slices_isNaN_int.calls (a0 : Int) (r : Bool) (w : World) (h : slices_isNaN_int.f a0 = some r) :
  Calls Tryd.prog 55 #[.int .i64 a0] w fun e w' => e = .returned (.bool r) ∧ Drawn0 w w' := by
 have H : (some (a0 != a0)) = some r := h
 clear h
 obtain rfl := Option.some.inj H
 go_enter Tryd.func55, Tryd.ntmps55
 go_wp2
 go_ret
 exact ⟨by first | rfl | (simp; done) | (simp [*]; done), by repeat (first | exact Drawn0.refl _ | apply Drawn0.step)⟩

/-! ### slices_BinarySearch_int_int: function 50 -/
def slices_BinarySearch_int_int.l0 : Nat → List Int → Int → Int → Int → Int → Option (Int × Bool)
 | 0, _, _, _, _, _ => none
 | k + 1, x0, x1, x6, x7, x8 => if x7 < x8 then (if 0 ≤ (wrap64 ((IntKind.u64.wrap (wrap64 (x7 + x8))) / 2)) then (if (wrap64 ((IntKind.u64.wrap (wrap64 (x7 + x8))) / 2)) < (x0.length : Int) then ((cmp_Less_int.f (rd x0 (wrap64 ((IntKind.u64.wrap (wrap64 (x7 + x8))) / 2))) x1).bind fun t124 => (if t124 = true then (slices_BinarySearch_int_int.l0 k x0 x1 x6 (wrap64 ((wrap64 ((IntKind.u64.wrap (wrap64 (x7 + x8))) / 2)) + 1)) x8) else (slices_BinarySearch_int_int.l0 k x0 x1 x6 x7 (wrap64 ((IntKind.u64.wrap (wrap64 (x7 + x8))) / 2))))) else (none)) else (none)) else (if x7 < x6 then (if 0 ≤ x7 then (if x7 < (x0.length : Int) then (if (rd x0 x7) = x1 then (some (x7, true)) else ((slices_isNaN_int.f (rd x0 x7)).bind fun t127 => (if t127 = true then ((slices_isNaN_int.f x1).bind fun t128 => (some (x7, t128))) else (some (x7, false))))) else (none)) else (none)) else (some (x7, false)))
def slices_BinarySearch_int_int.f (k : Nat) (l0 : List Int) (a1 : Int) : Option (Int × Bool) := slices_BinarySearch_int_int.l0 k l0 a1 (l0.length : Int) 0 (l0.length : Int)
theorem slices_BinarySearch_int_int.mono_l : ∀ k, (∀ y0 y1 y2 y3 y4, LeO (slices_BinarySearch_int_int.l0 k y0 y1 y2 y3 y4) (slices_BinarySearch_int_int.l0 (k + 1) y0 y1 y2 y3 y4))
 | 0 => fun _ _ _ _ _ r h => by simp [slices_BinarySearch_int_int.l0] at h
 | k + 1 => by
  have ih0 := slices_BinarySearch_int_int.mono_l k
  ·intro y0 y1 y2 y3 y4
   unfold slices_BinarySearch_int_int.l0
   repeat' first
   | (with_reducible exact ih0 _ _ _ _ _)
   | (with_reducible exact LeO.refl _)
   | (with_reducible exact LeO.none _)
   | (with_reducible refine LeO.ite ?_ ?_)
   | (with_reducible refine LeO.bind ?_ (fun _ => ?_))
   | exact ih0 _ _ _ _ _
   | exact LeO.none _
   | refine LeO.ite ?_ ?_
   | refine LeO.bind ?_ (fun _ => ?_)
theorem slices_BinarySearch_int_int.mono : ∀ a0 a1 k, LeO (slices_BinarySearch_int_int.f k a0 a1) (slices_BinarySearch_int_int.f (k + 1) a0 a1) := by
 intro a0 a1 k
 have ih0 := slices_BinarySearch_int_int.mono_l k
 unfold slices_BinarySearch_int_int.f
 repeat' first
   | (with_reducible exact ih0 _ _ _ _ _)
   | (with_reducible exact LeO.refl _)
   | (with_reducible exact LeO.none _)
   | (with_reducible refine LeO.ite ?_ ?_)
   | (with_reducible refine LeO.bind ?_ (fun _ => ?_))
   | exact ih0 _ _ _ _ _
   | exact LeO.none _
   | refine LeO.ite ?_ ?_
   | refine LeO.bind ?_ (fun _ => ?_)
set_option maxHeartbeats 8000000 in
set_option maxRecDepth 100000 in
theorem slices_BinarySearch_int_int.calls (k : Nat) (A0 : Option Addr) (c0 : Nat) (l0 : List Int) (a1 : Int) (r1 : Int) (r2 : Bool) (w : World) (hr0 : Kd.C (Kd.int .i64) w A0 l0.length l0) (hc0 : l0.length ≤ c0) (h : slices_BinarySearch_int_int.f k l0 a1 = some (r1, r2)) :
  Calls Tryd.prog 50 #[.slice A0 l0.length c0, .int .i64 a1] w fun e w' => e = .returned (.tuple #[.int .i64 r1, .bool r2]) ∧ Drawn0 w w' := by
 have HR0 := Aside0.mk hr0
 have HC0 := Aside0.mk hc0
 clear hr0 hc0
 have H : (slices_BinarySearch_int_int.l0 k l0 a1 (l0.length : Int) 0 (l0.length : Int)) = some (r1, r2) := h
 clear h
 have H' := Aside0.mk H
 clear H
 go_enter Tryd.func50, Tryd.ntmps50
 go_wp2
 go_loopg [7, 8] k (fun kq v7 v8 w' => ∃ (x7_1 : Int) (x8_1 : Int), v7 = .int .i64 x7_1 ∧ v8 = .int .i64 x8_1 ∧ Aside0 (slices_BinarySearch_int_int.l0 kq l0 a1 (l0.length : Int) x7_1 x8_1 = some (r1, r2)) ∧ Aside0 (kq ≤ k) ∧ Drawn0 w w')
 case atStart => exact ⟨(0), ((l0.length : Int)), rs_, rs_, H', ⟨Nat.le_refl _⟩, by repeat (first | exact Drawn0.refl _ | apply Drawn0.step)⟩
 case round =>
  clear H'
  try clear p2
  obtain ⟨x7_1, x8_1, rfl, rfl, HA, HK1, ⟨m1, rfl⟩⟩ := hrel
  cases gk with
  | zero => exact absurd HA.out (by simp [slices_BinarySearch_int_int.l0])
  | succ k1 =>
   have H := HA.out; clear HA; simp only [slices_BinarySearch_int_int.l0] at H
   by_cases c3 : x7_1 < x8_1
   ·rw [if_pos c3] at H
    have c3b0 : decide (x7_1 < x8_1) = true := decide_eq_true c3
    clear c3; obtain ⟨ji4, hji4⟩ : ∃ j_ : Int, (wrap64 ((IntKind.u64.wrap (wrap64 (x7_1 + x8_1))) / 2)) = j_ := ⟨_, rfl⟩
    replace H : (if 0 ≤ (ji4) then (if (ji4) < (l0.length : Int) then ((cmp_Less_int.f (rd l0 (ji4)) a1).bind fun t124 => (if t124 = true then (slices_BinarySearch_int_int.l0 k1 l0 a1 (l0.length : Int) (wrap64 ((ji4) + 1)) x8_1) else (slices_BinarySearch_int_int.l0 k1 l0 a1 (l0.length : Int) x7_1 ji4))) else (none)) else (none)) = some (r1, r2) := by first | (rw [hji4] at H; exact H) | (simp only [hji4] at H ⊢; exact H)
    have hji4w : (IntKind.i64.wrap ((IntKind.u64.wrap (wrap64 (x7_1 + x8_1))) / 2)) = ji4 := (i64_w _).trans hji4
    by_cases c5 : 0 ≤ (ji4)
    ·rw [if_pos c5] at H
     have c5b0 : decide (0 ≤ (ji4)) = true := decide_eq_true c5
     clear c5
     by_cases c6 : (ji4) < (l0.length : Int)
     ·rw [if_pos c6] at H
      have c6b0 : decide ((ji4) < (l0.length : Int)) = true := decide_eq_true c6
      clear c6; replace H := Option.bind_eq_some_iff.mp H; obtain ⟨t124, A70, H⟩ := H
      replace H : (if t124 = true then (slices_BinarySearch_int_int.l0 k1 l0 a1 (l0.length : Int) (wrap64 ((ji4) + 1)) x8_1) else (slices_BinarySearch_int_int.l0 k1 l0 a1 (l0.length : Int) x7_1 ji4)) = some (r1, r2) := H
      have A7 := Aside0.mk A70; clear A70
      by_cases c8 : t124 = true
      ·subst c8
       have H1 : (slices_BinarySearch_int_int.l0 k1 l0 a1 (l0.length : Int) (wrap64 ((ji4) + 1)) x8_1) = some (r1, r2) := by rw [if_pos rfl] at H; exact H
       clear H; have H := H1; clear H1
       have H' := Aside0.mk H
       clear H
       have p123 : 0 ≤ ((ji4) : Int) := od_
       have q123 : (ji4) < (l0.length : Int) := od_
       obtain ⟨ad123, e123, hx123_0⟩ := Kd.at_int HR0.out (ji4) p123 q123
       cases e123
       replace p123 := eq_true p123; replace q123 := eq_true q123
       go_wp2_with (first | ((with_reducible refine gate_callee (f := 54) rfl ?_); refine goesL_ (some 27) rfl rfl Tryd.func54 (by kernel_rfl) rfl #[.int .i64 (rd l0 (ji4)), .int .i64 a1] rfl (by (try simp only [List.map_toArray, List.map_cons, List.map_nil]); first | done | (simp only [hji4]; rfl) | rfl | (simp only [List.length_drop, List.length_take]; rfl)) ?_; (with_reducible refine (cmp_Less_int.calls (rd l0 (ji4)) a1 true _ A7.out).mono ?_); rintro e w' ⟨rfl, ⟨nd, rfl⟩⟩; refine ⟨_, rfl, ?_⟩) | (go_at_call 54; (with_reducible refine (cmp_Less_int.calls (rd l0 (ji4)) a1 true _ A7.out).mono ?_); rintro e w' ⟨rfl, ⟨nd, rfl⟩⟩))
       go_roundg k1
       case measure => have := HK1.out; omega
       case rel => exact ⟨(wrap64 ((ji4) + 1)), (x8_1), (by first | rfl | (simp; done) | (simp only [← hji4] <;> (first | rfl | simp)) | (simp [*]; done)), rs_, H', ⟨by have := HK1.out; omega⟩, by repeat (first | exact Drawn0.refl _ | apply Drawn0.step)⟩
      ·replace c8 := Bool.eq_false_iff.mpr c8
       subst c8
       have H1 : (slices_BinarySearch_int_int.l0 k1 l0 a1 (l0.length : Int) x7_1 ji4) = some (r1, r2) := by rw [if_neg (show ¬ (false = true) by decide)] at H; exact H
       clear H; have H := H1; clear H1
       have H' := Aside0.mk H
       clear H
       have p123 : 0 ≤ ((ji4) : Int) := od_
       have q123 : (ji4) < (l0.length : Int) := od_
       obtain ⟨ad123, e123, hx123_0⟩ := Kd.at_int HR0.out (ji4) p123 q123
       cases e123
       replace p123 := eq_true p123; replace q123 := eq_true q123
       go_wp2_with (first | ((with_reducible refine gate_callee (f := 54) rfl ?_); refine goesL_ (some 27) rfl rfl Tryd.func54 (by kernel_rfl) rfl #[.int .i64 (rd l0 (ji4)), .int .i64 a1] rfl (by (try simp only [List.map_toArray, List.map_cons, List.map_nil]); first | done | (simp only [hji4]; rfl) | rfl | (simp only [List.length_drop, List.length_take]; rfl)) ?_; (with_reducible refine (cmp_Less_int.calls (rd l0 (ji4)) a1 false _ A7.out).mono ?_); rintro e w' ⟨rfl, ⟨nd, rfl⟩⟩; refine ⟨_, rfl, ?_⟩) | (go_at_call 54; (with_reducible refine (cmp_Less_int.calls (rd l0 (ji4)) a1 false _ A7.out).mono ?_); rintro e w' ⟨rfl, ⟨nd, rfl⟩⟩))
       go_roundg k1
       case measure => have := HK1.out; omega
       case rel => exact ⟨(x7_1), (ji4), rs_, (by first | rfl | (simp; done) | (simp only [← hji4] <;> (first | rfl | simp)) | (simp [*]; done)), H', ⟨by have := HK1.out; omega⟩, by repeat (first | exact Drawn0.refl _ | apply Drawn0.step)⟩
     ·rw [if_neg c6] at H
      exact absurd H (by simp)
    ·rw [if_neg c5] at H
     exact absurd H (by simp)
   ·rw [if_neg c3] at H
    have c3b0 : decide (x7_1 < x8_1) = false := decide_eq_false c3
    clear c3
    by_cases c9 : x7_1 < (l0.length : Int)
    ·rw [if_pos c9] at H
     have c9b0 : decide (x7_1 < (l0.length : Int)) = true := decide_eq_true c9
     clear c9
     by_cases c10 : 0 ≤ x7_1
     ·rw [if_pos c10] at H
      have c10b0 : decide (0 ≤ x7_1) = true := decide_eq_true c10
      clear c10
      by_cases c11 : x7_1 < (l0.length : Int)
      ·rw [if_pos c11] at H
       have c11b0 : decide (x7_1 < (l0.length : Int)) = true := decide_eq_true c11
       clear c11
       by_cases c12 : (rd l0 x7_1) = a1
       ·rw [if_pos c12] at H
        have c12b0 : ((rd l0 x7_1) == a1) = true := beq_iff_eq.mpr c12
        have c12b1 : ((rd l0 x7_1) != a1) = false := bne_eq_false_iff_eq.mpr c12
        clear c12; simp only [Option.some.injEq, Prod.mk.injEq] at H; obtain ⟨rfl, rfl⟩ := H
        have p125 : 0 ≤ (x7_1 : Int) := od_
        have q125 : x7_1 < (l0.length : Int) := od_
        obtain ⟨ad125, e125, hx125_0⟩ := Kd.at_int HR0.out x7_1 p125 q125
        cases e125
        replace p125 := eq_true p125; replace q125 := eq_true q125
        go_wp2
        go_ret2
        exact ⟨by first | rfl | (simp; done) | (simp [*]; done), by repeat (first | exact Drawn0.refl _ | apply Drawn0.step)⟩
       ·rw [if_neg c12] at H
        have c12b0 : ((rd l0 x7_1) == a1) = false := beq_eq_false_iff_ne.mpr c12
        have c12b1 : ((rd l0 x7_1) != a1) = true := bne_iff_ne.mpr c12
        replace H := Option.bind_eq_some_iff.mp H; obtain ⟨t127, A130, H⟩ := H
        replace H : (if t127 = true then ((slices_isNaN_int.f a1).bind fun t128 => (some (x7_1, t128))) else (some (x7_1, false))) = some (r1, r2) := H
        have A13 := Aside0.mk A130; clear A130
        by_cases c14 : t127 = true
        ·subst c14
         have H1 : ((slices_isNaN_int.f a1).bind fun t128 => (some (x7_1, t128))) = some (r1, r2) := by rw [if_pos rfl] at H; exact H
         clear H; have H := H1; clear H1; replace H := Option.bind_eq_some_iff.mp H; obtain ⟨t128, A150, H⟩ := H
         replace H : (some (x7_1, t128)) = some (r1, r2) := H
         have A15 := Aside0.mk A150; clear A150; simp only [Option.some.injEq, Prod.mk.injEq] at H; obtain ⟨rfl, rfl⟩ := H
         have p125 : 0 ≤ (x7_1 : Int) := od_
         have q125 : x7_1 < (l0.length : Int) := od_
         obtain ⟨ad125, e125, hx125_0⟩ := Kd.at_int HR0.out x7_1 p125 q125
         cases e125
         replace p125 := eq_true p125; replace q125 := eq_true q125
         have p126 : 0 ≤ (x7_1 : Int) := od_
         have q126 : x7_1 < (l0.length : Int) := od_
         obtain ⟨ad126, e126, hx126_0⟩ := Kd.at_int HR0.out x7_1 p126 q126
         obtain rfl : ad125 = ad126 := (by injection e126)
         replace p126 := eq_true p126; replace q126 := eq_true q126
         go_wp2_with (first | (go_at_call 55; (with_reducible refine (slices_isNaN_int.calls (rd l0 x7_1) true _ A13.out).mono ?_); rintro e w' ⟨rfl, ⟨nd, rfl⟩⟩) | (go_at_call 55; (with_reducible refine (slices_isNaN_int.calls a1 t128 _ A15.out).mono ?_); rintro e w' ⟨rfl, ⟨nd, rfl⟩⟩))
         go_ret2
         exact ⟨by first | rfl | (simp; done) | (simp [*]; done), by repeat (first | exact Drawn0.refl _ | apply Drawn0.step)⟩
        ·replace c14 := Bool.eq_false_iff.mpr c14
         subst c14
         have H1 : (some (x7_1, false)) = some (r1, r2) := by rw [if_neg (show ¬ (false = true) by decide)] at H; exact H
         clear H; have H := H1; clear H1; simp only [Option.some.injEq, Prod.mk.injEq] at H; obtain ⟨rfl, rfl⟩ := H
         have p125 : 0 ≤ (x7_1 : Int) := od_
         have q125 : x7_1 < (l0.length : Int) := od_
         obtain ⟨ad125, e125, hx125_0⟩ := Kd.at_int HR0.out x7_1 p125 q125
         cases e125
         replace p125 := eq_true p125; replace q125 := eq_true q125
         have p126 : 0 ≤ (x7_1 : Int) := od_
         have q126 : x7_1 < (l0.length : Int) := od_
         obtain ⟨ad126, e126, hx126_0⟩ := Kd.at_int HR0.out x7_1 p126 q126
         obtain rfl : ad125 = ad126 := (by injection e126)
         replace p126 := eq_true p126; replace q126 := eq_true q126
         go_wp2_with (first | (go_at_call 55; (with_reducible refine (slices_isNaN_int.calls (rd l0 x7_1) false _ A13.out).mono ?_); rintro e w' ⟨rfl, ⟨nd, rfl⟩⟩))
         go_ret2
         exact ⟨by first | rfl | (simp; done) | (simp [*]; done), by repeat (first | exact Drawn0.refl _ | apply Drawn0.step)⟩
      ·rw [if_neg c11] at H
       exact absurd H (by simp)
     ·rw [if_neg c10] at H
      exact absurd H (by simp)
    ·rw [if_neg c9] at H
     have c9b0 : decide (x7_1 < (l0.length : Int)) = false := decide_eq_false c9
     clear c9; simp only [Option.some.injEq, Prod.mk.injEq] at H; obtain ⟨rfl, rfl⟩ := H
     go_wp2
     go_ret2
     exact ⟨by first | rfl | (simp; done) | (simp [*]; done), by repeat (first | exact Drawn0.refl _ | apply Drawn0.step)⟩

/-! ### model_Has: function 34 -/
def model_Has.f (k : Nat) (l0 : List Int) (a1 : Int) : Option (Bool) := (slices_BinarySearch_int_int.f k l0 a1).bind fun bt129 => (some bt129.2)
theorem model_Has.mono : ∀ a0 a1 k, LeO (model_Has.f k a0 a1) (model_Has.f (k + 1) a0 a1) := by
 intro a0 a1 k
 unfold model_Has.f
 repeat' first
   | (with_reducible exact slices_BinarySearch_int_int.mono _ _ _)
   | (with_reducible exact LeO.refl _)
   | (with_reducible exact LeO.none _)
   | (with_reducible refine LeO.ite ?_ ?_)
   | (with_reducible refine LeO.bind ?_ (fun _ => ?_))
   | exact slices_BinarySearch_int_int.mono _ _ _
   | exact LeO.none _
   | refine LeO.ite ?_ ?_
   | refine LeO.bind ?_ (fun _ => ?_)
set_option maxHeartbeats 8000000 in
set_option maxRecDepth 100000 in
theorem model_Has.calls (k : Nat) (A0 : Option Addr) (c0 : Nat) (l0 : List Int) (a1 : Int) (r : Bool) (w : World) (hr0 : Kd.C (Kd.int .i64) w A0 l0.length l0) (hc0 : l0.length ≤ c0) (h : model_Has.f k l0 a1 = some r) :
  Calls Tryd.prog 34 #[.slice A0 l0.length c0, .int .i64 a1] w fun e w' => e = .returned (.bool r) ∧ Drawn0 w w' := by
 have HR0 := Aside0.mk hr0
 have HC0 := Aside0.mk hc0
 clear hr0 hc0
 have H : ((slices_BinarySearch_int_int.f k l0 a1).bind fun bt129 => (some bt129.2)) = some r := h
 clear h
 replace H := Option.bind_eq_some_iff.mp H
 obtain ⟨⟨t129, t130⟩, A30, H⟩ := H
 replace H : (some t130) = some r := H
 have A3 := Aside0.mk A30
 clear A30
 obtain rfl := Option.some.inj H
 go_enter Tryd.func34, Tryd.ntmps34
 go_wp2_with (first | ((with_reducible refine gate_callee (f := 50) rfl ?_); refine goesL_ (some 10) rfl rfl Tryd.func50 (by kernel_rfl) rfl #[.slice A0 l0.length c0, .int .i64 a1] rfl am_ ?_; (with_reducible refine (slices_BinarySearch_int_int.calls k _ _ l0 a1 t129 t130 _ ?side1 ?side2 A3.out).mono ?_); (case side1 => repeat (first | exact HR0.out | (with_reducible refine Kd.C_alloc ?_ _) | (with_reducible refine Kd.C_drewN ?_ _) | (with_reducible refine Kd.C_drew ?_))); (case side2 => exact HC0.out); rintro e w' ⟨rfl, ⟨nd, rfl⟩⟩; refine ⟨_, rfl, ?_⟩))
 go_ret
 exact ⟨by first | rfl | (simp; done) | (simp [*]; done), by repeat (first | exact Drawn0.refl _ | apply Drawn0.step)⟩

end Go.Proofs.YtkiimboedgnoiaaDoor.PSpecLegal
