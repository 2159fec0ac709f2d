/- The walk of SpecBack, part of it: what the Go functions answer; no condition. -/
import Derived.Test.YtkiimboedgnoiaaDoorQSpecBackx0
import Derived.Test.YtkiimboedgnoiaaDoorQSpecBackx1
namespace Go.Proofs.YtkiimboedgnoiaaDoor.PSpecBack
open Go.RowKit Go.Proofs.YtkiimboedgnoiaaDoorW.PrintWords Go.Proofs.YtkiimboedgnoiaaDoorW.PrintLast Go.Proofs.YtkiimboedgnoiaaDoorW.PrintMore
attribute [local go_sem] max2_int min2_int max_two min_two max_three min_three max_four min_four   -- for this text's walks alone
set_option linter.unusedVariables false
set_option linter.unusedSimpArgs false

/-! ### ask_Check: function 32 -/
mutual
def ask_Check.j0 : Nat → Bool → Int → Int → List Int → Int → Int → Int → Int → Int → Int → List Int → Option (Int)
 | 0, _, _, _, _, _, _, _, _, _, _, _ => none
 | k + 1, x18, x121000, x121001, x121002, x121003, x121004, x121005, x121006, x122000, x122001, x122002 => if x18 = true then (some 1) else ((ask_size.f x122000 x122001 x122002).bind fun t122 => (if t122 = 0 then ((ask_Names.f x122000 x122001 x122002).bind fun t123 => (ask_Check.l0 k t123 (t123.length : Int) 0 x121000 x121001 x121002 x121003 x121004 x121005 x121006 [])) else (some t122)))
def ask_Check.l0 : Nat → List Int → Int → Int → Int → Int → List Int → Int → Int → Int → Int → List Int → Option (Int)
 | 0, _, _, _, _, _, _, _, _, _, _, _ => none
 | k + 1, x26, x27, x28, x121000, x121001, x121002, x121003, x121004, x121005, x121006, met => if x28 < x27 then (if 0 ≤ x28 then (if x28 < (x26.length : Int) then ((block_Find.f k x121000 x121001 x121002 x121003 x121004 x121005 x121006 (rd x26 x28)).bind fun bt127 => (if bt127.2 = 0 then (if (Lit.int .u32 (rd x26 x28)).wf = true then (if (rd x26 x28) ∈ met then (some 8) else (if met.length < 17592186044416 then (ask_Check.l0 k x26 x27 (wrap64 (x28 + 1)) x121000 x121001 x121002 x121003 x121004 x121005 x121006 (met ++ [rd x26 x28])) else (none))) else (none)) else (some bt127.2))) else (none)) else (none)) else (some 0)
end
def ask_Check.f (k : Nat) (a0_0 a0_1 : Int) (l0_2 : List Int) (a0_3 a0_4 : Int) (a0_5 a0_6 : Int) (a1_0 a1_1 : Int) (l1_2 : List Int) : Option (Int) := if a1_0 < 1 then (ask_Check.j0 k true a0_0 a0_1 l0_2 a0_3 a0_4 a0_5 a0_6 a1_0 a1_1 l1_2) else (ask_Check.j0 k (decide (a1_0 > 7)) a0_0 a0_1 l0_2 a0_3 a0_4 a0_5 a0_6 a1_0 a1_1 l1_2)
theorem ask_Check.mono_l : ∀ k, (∀ y0 y1 y2 y3 y4 y5 y6 y7 y8 y9 y10, LeO (ask_Check.j0 k y0 y1 y2 y3 y4 y5 y6 y7 y8 y9 y10) (ask_Check.j0 (k + 1) y0 y1 y2 y3 y4 y5 y6 y7 y8 y9 y10)) ∧ (∀ y0 y1 y2 y3 y4 y5 y6 y7 y8 y9 y10, LeO (ask_Check.l0 k y0 y1 y2 y3 y4 y5 y6 y7 y8 y9 y10) (ask_Check.l0 (k + 1) y0 y1 y2 y3 y4 y5 y6 y7 y8 y9 y10))
 | 0 => ⟨fun _ _ _ _ _ _ _ _ _ _ _ r h => by simp [ask_Check.j0] at h, fun _ _ _ _ _ _ _ _ _ _ _ r h => by simp [ask_Check.l0] at h⟩
 | k + 1 => by
  obtain ⟨ih0, ih1⟩ := ask_Check.mono_l k
  refine ⟨?_, ?_⟩
  ·intro y0 y1 y2 y3 y4 y5 y6 y7 y8 y9 y10
   unfold ask_Check.j0
   repeat' (with_reducible first | apply ih0 | apply ih1 | apply block_Find.mono | exact LeO.refl _ | exact LeO.none _ | refine LeO.ite ?_ ?_ | refine LeO.bind ?_ (fun _ => ?_))
  ·intro y0 y1 y2 y3 y4 y5 y6 y7 y8 y9 y10
   unfold ask_Check.l0
   repeat' (with_reducible first | apply ih0 | apply ih1 | apply block_Find.mono | exact LeO.refl _ | exact LeO.none _ | refine LeO.ite ?_ ?_ | refine LeO.bind ?_ (fun _ => ?_))
theorem ask_Check.mono : ∀ a0 a1 a2 a3 a4 a5 a6 a7 a8 a9 k, LeO (ask_Check.f k a0 a1 a2 a3 a4 a5 a6 a7 a8 a9) (ask_Check.f (k + 1) a0 a1 a2 a3 a4 a5 a6 a7 a8 a9) := by
 intro a0 a1 a2 a3 a4 a5 a6 a7 a8 a9 k
 obtain ⟨ih0, ih1⟩ := ask_Check.mono_l k
 unfold ask_Check.f
 repeat' (with_reducible first | apply ih0 | apply ih1 | apply block_Find.mono | exact LeO.refl _ | exact LeO.none _ | refine LeO.ite ?_ ?_ | refine LeO.bind ?_ (fun _ => ?_))
set_option maxHeartbeats 8000000 in
set_option maxRecDepth 100000 in
theorem ask_Check.calls (k : Nat) (ah ai : Int) (av : Option Addr) (ax : Nat) (af : List Int) (aj ak : Int) (al am : Int) (ae an : Int) (aw : Option Addr) (ay : Nat) (ag : List Int) (r : Int) (w : World) (hr0_2 : Kd.C (Kd.int .i64) w av af.length af) (hc0_2 : af.length ≤ ax) (hr1_2 : Kd.C (Kd.int .u32) w aw ag.length ag) (hc1_2 : ag.length ≤ ay) (hG : Lg w) (h : ask_Check.f k ah ai af aj ak al am ae an ag = some r) :
  Calls Tryd.prog 32 #[.agg #[.int .u32 ah, .int .i64 ai, .slice av af.length ax, .int .i64 aj, .int .i64 ak, .int .i64 al, .int .i64 am], .agg #[.int .i64 ae, .int .u32 an, .slice aw ag.length ay]] w fun e w' => e = .returned (.int .i64 r) ∧ Below w.heap.size w w' := by
 have hu27 := Tryd.underlying27
 have hu30 := Tryd.underlying30
 have aP := Aside0.mk hr0_2
 have aN := Aside0.mk hc0_2
 clear hr0_2 hc0_2
 have aQ := Aside0.mk hr1_2
 have aO := Aside0.mk hc1_2
 clear hr1_2 hc1_2
 have HB := Aside0.mk (Below.refl w.heap.size w)
 have HG := Aside0.mk hG
 clear hG
 have H : (if ae < 1 then (ask_Check.j0 k true ah ai af aj ak al am ae an ag) else (ask_Check.j0 k (decide (ae > 7)) ah ai af aj ak al am ae an ag)) = some r := h
 clear h
 have a9 := Aside0.mk H
 clear H
 go_enter Tryd.func32, Tryd.ntmps32
 go_upto_region 1 with (first | ((with_reducible refine gate_dst (N := 2) rfl ?_); refine bx_ (N := 2) (cs := #[.int .u32 ah, .int .i64 ai, .slice av af.length ax, .int .i64 aj, .int .i64 ak, .int .i64 al, .int .i64 am]) (t := 27) ?_; intro a1 hg w4 ad hb; have b5 := gG_ hg HB; have b3 := gG_ hg HB; replace HB := hS_ HB hb; clear hb hg) | ((with_reducible refine gate_dst (N := 3) rfl ?_); refine bx_ (N := 3) (cs := #[.int .i64 ae, .int .u32 an, .slice aw ag.length ay]) (t := 30) ?_; intro a2 hg w5 ac hb; have b6 := gG_ hg HB; have b4 := gG_ hg HB; replace HB := hS_ HB hb; have ao := nL_ hg ad; have ap := nG_ hg ad; replace ad := bB_ ad hb; clear hb hg))
 (try simp only [Act.put, List.setIfInBounds_toArray, List.set_cons_zero, List.set_cons_succ])
 go_cut [18] (fun v18 wc => ∃ (kq : Nat) (aG : Bool), v18 = .bool aG ∧ Aside0 (ask_Check.j0 kq aG ah ai af aj ak al am ae an ag = some r) ∧ Aside0 (kq ≤ k) ∧ Aside0 (wc.heap[a1]? = some (.cells #[.int .u32 ah, .int .i64 ai, (.slice av af.length ax), .int .i64 aj, .int .i64 ak, .int .i64 al, .int .i64 am] 27 (0, 0))) ∧ Aside0 (wc.heap[a2]? = some (.cells #[.int .i64 ae, .int .u32 an, (.slice aw ag.length ay)] 30 (0, 0))) ∧ Aside0 (Below w.heap.size w wc))
 case first =>
  have H := a9.out; clear a9
  by_cases c6 : ae < 1
  ·rw [if_pos c6] at H
   have az : decide (ae < 1) = true := decide_eq_true c6
   clear c6
   (first | rw [az] | (simp only [i64_w, i32_w]; rw [az]) | skip)
   have H' := Aside0.mk H
   clear H; have cj := ap.out; have cm := ao.out; obtain ⟨aR, aS, aT, aU, aV, aW⟩ := cz3_ (w := w5) ac
   go_wp2
   go_meet
   case rel => exact ⟨_, (true), rs_, H', ⟨by first | omega | exact Nat.le_refl _⟩, ⟨bk_ ad⟩, ⟨bk_ ac⟩, ⟨hB_ HB⟩⟩
  ·rw [if_neg c6] at H
   have az : decide (ae < 1) = false := decide_eq_false c6
   clear c6
   (first | rw [az] | (simp only [i64_w, i32_w]; rw [az]) | skip)
   have H' := Aside0.mk H
   clear H; have ck := ap.out; have cn := ao.out; obtain ⟨aH, aI, aJ, aK, aL, aM⟩ := cz3_ (w := w5) ac
   go_wp2
   go_meet
   case rel => exact ⟨_, (decide (ae > 7)), rs_, H', ⟨by first | omega | exact Nat.le_refl _⟩, ⟨bk_ ad⟩, ⟨bk_ ac⟩, ⟨hB_ HB⟩⟩
 case rest =>
  clear a9
  try clear c1
  try clear p2
  try clear c6
  try clear az
  try clear c7
  try clear c9
  try clear aH aI aJ
  try clear aR aS aT
  try clear aK aL aM
  try clear aU aV aW
  obtain ⟨kq, aG, rfl, HA, bd, ad, ac, HB⟩ := hcut
  cases kq with
  | zero => exact absurd HA.out (by simp [ask_Check.j0])
  | succ kj2 =>
   have H := HA.out; clear HA; simp only [ask_Check.j0] at H
   by_cases c11 : aG = true
   ·subst c11
    have H1 : (some 1) = some r := by rw [if_pos rfl] at H; exact H
    clear H; have H := H1; clear H1
    obtain rfl := Option.some.inj H
    go_wp2
    go_ret
    exact ⟨er_, hB_ HB⟩
   ·replace c11 := Bool.eq_false_iff.mpr c11
    subst c11
    have H1 : ((ask_size.f ae an ag).bind fun ar => (if ar = 0 then ((ask_Names.f ae an ag).bind fun ab => (ask_Check.l0 kj2 ab (ab.length : Int) 0 ah ai af aj ak al am [])) else (some ar))) = some r := by rw [if_neg (show ¬ (false = true) by decide)] at H; exact H
    clear H; have H := H1; clear H1; replace H := bi_ H; obtain ⟨ar, A120, H⟩ := H
    replace H : (if ar = 0 then ((ask_Names.f ae an ag).bind fun ab => (ask_Check.l0 kj2 ab (ab.length : Int) 0 ah ai af aj ak al am [])) else (some ar)) = some r := H
    have A12 := Aside0.mk A120; clear A120
    by_cases c13 : ar = 0
    ·rw [if_pos c13] at H
     have aZ : (ar == 0) = true := beq_iff_eq.mpr c13
     have a0 : (ar != 0) = false := bne_eq_false_iff_eq.mpr c13
     clear c13; replace H := bi_ H; obtain ⟨ab, A140, H⟩ := H
     replace H : (ask_Check.l0 kj2 ab (ab.length : Int) 0 ah ai af aj ak al am []) = some r := H
     have A14 := Aside0.mk A140; clear A140
     have H' := Aside0.mk H
     clear H; have b9 := ap.out; have ce := ao.out; obtain ⟨a3, a4, a5, a6, a7, a8⟩ := cz3_ (w := wc) ac
     go_wp2_with (first | ((with_reducible refine gate_callee (f := 46) rfl ?_); refine gL_ (some 20) Tryd.func46 #[.agg #[.int .i64 ae, .int .u32 an, .slice aw ag.length ay]] ?_; (with_reducible refine (ask_size.calls ae an _ _ ag ar _ ?side1 ?side2 A12.out).mono ?_); (case side1 => exact cC_ aQ HB); (case side2 => exact aO.out); rintro e w17 ⟨rfl, hb⟩; refine ⟨_, rfl, ?_⟩; replace ac := bB_ ac hb; replace ad := bB_ ad hb; replace HB := hS_ HB hb; (try clear hb); obtain ⟨aA, aB, aC, aD, aE, aF⟩ := cz3_ (w := w17) ac) | ((with_reducible refine gate_dst (N := 24) rfl ?_); refine map_event (k := 22) (e := 4) ?hg (N := 24) ?hd ?hr ?_; (case hd => rfl); (case hg => rfl); (case hr => first | (go_simp; done) | (go_simp; rfl)); intro mb hmb w60 hmap hb; replace ac := bB_ ac hb; have HM := Aside0.mk hmap; have GM := Aside0.mk ((by rw [hmb]; exact (below_size (hB_ HB))) : w.heap.size ≤ mb); replace ad := bB_ ad hb; replace HB := hS_ HB hb; clear hb hmap hmb; (try clear aA aB aC aD aE aF); obtain ⟨aA, aB, aC, aD, aE, aF⟩ := cz3_ (w := w60) ac) | ((with_reducible refine gate_callee (f := 47) rfl ?_); refine gL_ (some 26) Tryd.func47 #[.agg #[.int .i64 ae, .int .u32 an, .slice aw ag.length ay]] ?_; (with_reducible refine (ask_Names.calls ae an _ _ ag ab _ ?side1 ?side2 ?side3 A14.out).mono ?_); (case side1 => exact cC_ aQ HB); (case side2 => exact aO.out); (case side3 => exact Lg_below HG.out (hB_ HB)); rintro e w19 ⟨v124, rfl, ho0, hb⟩; refine ⟨_, rfl, ?_⟩; have aY := Aside0.mk (Kd.R_lower ho0 (below_size (hB_ HB))); replace ac := bB_ ac hb; replace ad := bB_ ad hb; replace HB := hS_ HB hb; replace HM := Aside0.mk (MH_below HM.out hb); (try clear hb); (try clear ho0); obtain ⟨be, bf, eo20⟩ := Kd.R_slice aY.out; subst eo20))
     go_loopg [28] kj2 (fun kq v28 w' => ∃ (aa : Int) (met : List Int), v28 = .int .i64 aa ∧ Aside0 (MH Tryd.prog 22 4 w' mb met) ∧ Aside0 (ask_Check.l0 kq ab (ab.length : Int) aa ah ai af aj ak al am met = some r) ∧ Aside0 (kq ≤ kj2) ∧ Aside0 (Kd.R (Kd.int .u32) 22 w' w.heap.size (fun _ => True) (.slice be ab.length bf) ab) ∧ Aside0 (w'.heap[a1]? = some (.cells #[.int .u32 ah, .int .i64 ai, (.slice av af.length ax), .int .i64 aj, .int .i64 ak, .int .i64 al, .int .i64 am] 27 (0, 0))) ∧ Aside0 (w'.heap[a2]? = some (.cells #[.int .i64 ae, .int .u32 an, (.slice aw ag.length ay)] 30 (0, 0))) ∧ Aside0 (Below w.heap.size w w'))
     case atStart => exact ⟨(0), [], rs_, HM, H', ⟨Nat.le_refl _⟩, ⟨rR_ aY⟩, ⟨bk_ ad⟩, ⟨bk_ ac⟩, ⟨hB_ HB⟩⟩
     case round =>
      clear H' HM
      try clear c1
      try clear c2
      try clear p2
      try clear c6
      try clear az
      try clear c7
      try clear c9
      try clear c11
      try clear c13
      try clear aZ
      try clear a0
      try clear c14
      try clear c15
      try clear aH aI aJ
      try clear a3 a4 a5
      try clear aA aB aC
      try clear aR aS aT
      try clear aK aL aM
      try clear a6 a7 a8
      try clear aD aE aF
      try clear aU aV aW
      try clear p2
      obtain ⟨aa, met, rfl, HM, HA, HK2, aq, ad, ac, HB⟩ := hrel
      cases gk with
      | zero => exact absurd HA.out (by simp [ask_Check.l0])
      | succ k2 =>
       have H := HA.out; clear HA; simp only [ask_Check.l0] at H
       by_cases c21 : aa < (ab.length : Int)
       ·rw [if_pos c21] at H
        have ba : decide (aa < (ab.length : Int)) = true := decide_eq_true c21
        clear c21
        by_cases c22 : 0 ≤ aa
        ·rw [if_pos c22] at H
         have b7 : decide (0 ≤ aa) = true := decide_eq_true c22
         clear c22
         by_cases c23 : aa < (ab.length : Int)
         ·rw [if_pos c23] at H
          have b8 : decide (aa < (ab.length : Int)) = true := decide_eq_true c23
          clear c23; replace H := bi_ H; obtain ⟨⟨aX, au⟩, A240, H⟩ := H
          replace H : (if au = 0 then (if (Lit.int .u32 (rd ab aa)).wf = true then (if (rd ab aa) ∈ met then (some 8) else (if met.length < 17592186044416 then (ask_Check.l0 k2 ab (ab.length : Int) (wrap64 (aa + 1)) ah ai af aj ak al am (met ++ [rd ab aa])) else (none))) else (none)) else (some au)) = some r := H
          have A24 := Aside0.mk A240; clear A240
          by_cases c25 : au = 0
          ·rw [if_pos c25] at H
           have bb : (au == 0) = true := beq_iff_eq.mpr c25
           have bc : (au != 0) = false := bne_eq_false_iff_eq.mpr c25
           clear c25
           by_cases cw : (Lit.int .u32 (rd ab aa)).wf = true
           rotate_left
           ·rw [if_neg cw] at H
            exact absurd H (by simp)
           rw [if_pos cw] at H; have CW := Aside0.mk cw; clear cw
           by_cases c26 : (rd ab aa) ∈ met
           ·rw [if_pos c26] at H
            have CM := Aside0.mk c26; clear c26
            obtain rfl := Option.some.inj H
            have p126 : 0 ≤ (aa : Int) := od_
            have q126 : aa < (ab.length : Int) := od_
            obtain ⟨ad126, e126, hx126_0⟩ := Kd.at_int (Kd.R_reads' aq.out).2.2 aa p126 q126
            cases e126
            replace p126 := eq_true p126; replace q126 := eq_true q126; have ca := ao.out; have cf := ap.out; obtain ⟨bg, bh, bi, bj, bk, bl, bm, bF, bG, bH, bI, bJ, bK, bL⟩ := cz7_ (w := wr) ad
            go_wp2_with (first | ((with_reducible refine gate_callee (f := 33) rfl ?_); refine gL_ (some 35) Tryd.func33 #[.agg #[.int .u32 ah, .int .i64 ai, .slice av af.length ax, .int .i64 aj, .int .i64 ak, .int .i64 al, .int .i64 am], .int .u32 (rd ab aa)] ?_; (with_reducible refine (block_Find.calls k2 ah ai _ _ af aj ak al am (rd ab aa) aX au _ ?side1 ?side2 A24.out).mono ?_); (case side1 => exact cC_ aP HB); (case side2 => exact aN.out); rintro e w29 ⟨rfl, hb⟩; refine ⟨_, rfl, ?_⟩; replace aq := rB_ aq hb; replace ac := bB_ ac hb; replace ad := bB_ ad hb; replace HB := hS_ HB hb; replace HM := Aside0.mk (MH_below HM.out hb); have hlk := MH_look_yes HM.out 71 Tryd.underlying71 Tryd.underlying22 Tryd.underlying4 (rd ab aa) CW.out CM.out (fun _ => by kernel_rfl); (try clear hb)))
            go_ret
            exact ⟨er_, hB_ HB⟩
           ·rw [if_neg c26] at H
            have CM := Aside0.mk c26; clear c26
            by_cases cl : met.length < 17592186044416
            rotate_left
            ·rw [if_neg cl] at H
             exact absurd H (by simp)
            rw [if_pos cl] at H; have CL := Aside0.mk cl; clear cl
            have H' := Aside0.mk H
            clear H
            have p126 : 0 ≤ (aa : Int) := od_
            have q126 : aa < (ab.length : Int) := od_
            obtain ⟨ad126, e126, hx126_0⟩ := Kd.at_int (Kd.R_reads' aq.out).2.2 aa p126 q126
            cases e126
            replace p126 := eq_true p126; replace q126 := eq_true q126; have cb := ao.out; have cg := ap.out; obtain ⟨bn, bo, bp, bq, br, bs, bt, bM, bN, bO, bP, bQ, bR, bS⟩ := cz7_ (w := wr) ad
            go_wp2_with (first | ((with_reducible refine gate_callee (f := 33) rfl ?_); refine gL_ (some 35) Tryd.func33 #[.agg #[.int .u32 ah, .int .i64 ai, .slice av af.length ax, .int .i64 aj, .int .i64 ak, .int .i64 al, .int .i64 am], .int .u32 (rd ab aa)] ?_; (with_reducible refine (block_Find.calls k2 ah ai _ _ af aj ak al am (rd ab aa) aX au _ ?side1 ?side2 A24.out).mono ?_); (case side1 => exact cC_ aP HB); (case side2 => exact aN.out); rintro e w32 ⟨rfl, hb⟩; refine ⟨_, rfl, ?_⟩; replace aq := rB_ aq hb; replace ac := bB_ ac hb; replace ad := bB_ ad hb; replace HB := hS_ HB hb; replace HM := Aside0.mk (MH_below HM.out hb); have hlk := MH_look_no HM.out 71 Tryd.underlying71 Tryd.underlying22 Tryd.underlying4 (rd ab aa) CW.out CM.out (fun _ => by kernel_rfl); (try clear hb)) | (at_mapUpdate; refine MH_put 71 (k := 22) (e := 4) (b := mb) (l := met) rfl _ _ _ rfl Tryd.underlying71 Tryd.underlying22 Tryd.underlying4 rfl HM.out CL.out (rd ab aa) CW.out rfl rfl ?_; intro w61 hm hg; replace aq := Aside0.mk (Kd.R_grown1 (rR_ aq) rfl hg (MH_ne_row HM.out aq.out)); replace ad := Aside0.mk (blk_grown (o := .cells #[.int .u32 ah, .int .i64 ai, .slice av af.length ax, .int .i64 aj, .int .i64 ak, .int .i64 al, .int .i64 am] 27 (0, 0)) ad.out hg (MH_ne_blk HM.out ad.out)); replace ac := Aside0.mk (blk_grown (o := .cells #[.int .i64 ae, .int .u32 an, .slice aw ag.length ay] 30 (0, 0)) ac.out hg (MH_ne_blk HM.out ac.out)); replace HB := Aside0.mk (pw_below_grown HB.out (some mb) (below_size HB.out) hg (fun k_ e_ => by injection e_ with e_; rw [← e_]; exact GM.out)); replace HM := Aside0.mk hm; clear hlk hm hg))
            go_roundg k2
            case measure => have := bd.out; have := HK2.out; omega
            case rel => exact ⟨(wrap64 (aa + 1)), (met ++ [rd ab aa]), rs_, HM, H', ⟨om2_ bd HK2⟩, ⟨rR_ aq⟩, ⟨bk_ ad⟩, ⟨bk_ ac⟩, ⟨hB_ HB⟩⟩
          ·rw [if_neg c25] at H
           have bb : (au == 0) = false := beq_eq_false_iff_ne.mpr c25
           have bc : (au != 0) = true := bne_iff_ne.mpr c25
           obtain rfl := Option.some.inj H
           have p126 : 0 ≤ (aa : Int) := od_
           have q126 : aa < (ab.length : Int) := od_
           obtain ⟨ad126, e126, hx126_0⟩ := Kd.at_int (Kd.R_reads' aq.out).2.2 aa p126 q126
           cases e126
           replace p126 := eq_true p126; replace q126 := eq_true q126; have cc := ao.out; have ch := ap.out; obtain ⟨bu, bv, bw, bx, bz, bA, bB, bT, bU, bV, bW, bX, bY, bZ⟩ := cz7_ (w := wr) ad
           go_wp2_with (first | ((with_reducible refine gate_callee (f := 33) rfl ?_); refine gL_ (some 35) Tryd.func33 #[.agg #[.int .u32 ah, .int .i64 ai, .slice av af.length ax, .int .i64 aj, .int .i64 ak, .int .i64 al, .int .i64 am], .int .u32 (rd ab aa)] ?_; (with_reducible refine (block_Find.calls k2 ah ai _ _ af aj ak al am (rd ab aa) aX au _ ?side1 ?side2 A24.out).mono ?_); (case side1 => exact cC_ aP HB); (case side2 => exact aN.out); rintro e w35 ⟨rfl, hb⟩; refine ⟨_, rfl, ?_⟩; replace ac := bB_ ac hb; replace HB := hS_ HB hb; (try clear hb)))
           go_ret
           exact ⟨er_, hB_ HB⟩
         ·rw [if_neg c23] at H
          exact absurd H (by simp)
        ·rw [if_neg c22] at H
         exact absurd H (by simp)
       ·rw [if_neg c21] at H
        have ba : decide (aa < (ab.length : Int)) = false := decide_eq_false c21
        clear c21
        obtain rfl := Option.some.inj H
        go_wp2
        go_ret
        exact ⟨er_, hB_ HB⟩
    ·rw [if_neg c13] at H
     have aZ : (ar == 0) = false := beq_eq_false_iff_ne.mpr c13
     have a0 : (ar != 0) = true := bne_iff_ne.mpr c13
     obtain rfl := Option.some.inj H
     have cd := ap.out; have ci := ao.out; obtain ⟨bC, bD, bE, b0, b1, b2⟩ := cz3_ (w := wc) ac
     go_wp2_with (first | ((with_reducible refine gate_callee (f := 46) rfl ?_); refine gL_ (some 20) Tryd.func46 #[.agg #[.int .i64 ae, .int .u32 an, .slice aw ag.length ay]] ?_; (with_reducible refine (ask_size.calls ae an _ _ ag ar _ ?side1 ?side2 A12.out).mono ?_); (case side1 => exact cC_ aQ HB); (case side2 => exact aO.out); rintro e w38 ⟨rfl, hb⟩; refine ⟨_, rfl, ?_⟩; replace HB := hS_ HB hb; skip; (try clear hb)))
     go_ret
     exact ⟨er_, hB_ HB⟩


/-! ### cmp_isNaN_int: function 57 -/
def cmp_isNaN_int.f (a0 : Int) : Option (Bool) := some (a0 != a0)
set_option maxHeartbeats 8000000 in
set_option maxRecDepth 100000 in
theorem cmp_isNaN_int.calls (a0 : Int) (r : Bool) (w : World) (h : cmp_isNaN_int.f a0 = some r) :
  Calls Tryd.prog 57 #[.int .i64 a0] w fun e w' => e = .returned (.bool r) ∧ Drawn0 w w' := by
 have H : (some (a0 != a0)) = some r := h
 clear h
 obtain rfl := Option.some.inj H
 go_enter Tryd.func57, Tryd.ntmps57
 go_wp2
 go_ret
 exact ⟨rs_, dn_⟩

/-! ### cmp_Less_int: function 54 -/
def cmp_Less_int.f (a0 a1 : Int) : Option (Bool) := (cmp_isNaN_int.f a0).bind fun t121 => (if t121 = true then ((cmp_isNaN_int.f a1).bind fun t122 => (if t122 = true then (some (decide (a0 < a1))) else (some true))) else (some (decide (a0 < a1))))
set_option maxHeartbeats 8000000 in
set_option maxRecDepth 100000 in
theorem cmp_Less_int.calls (a0 a1 : Int) (r : Bool) (w : World) (h : cmp_Less_int.f a0 a1 = some r) :
  Calls Tryd.prog 54 #[.int .i64 a0, .int .i64 a1] w fun e w' => e = .returned (.bool r) ∧ Drawn0 w w' := by
 have H : ((cmp_isNaN_int.f a0).bind fun ab => (if ab = true then ((cmp_isNaN_int.f a1).bind fun aa => (if aa = true then (some (decide (a0 < a1))) else (some true))) else (some (decide (a0 < a1))))) = some r := h
 clear h
 replace H := bi_ H
 obtain ⟨ab, A30, H⟩ := H
 replace H : (if ab = true then ((cmp_isNaN_int.f a1).bind fun aa => (if aa = true then (some (decide (a0 < a1))) else (some true))) else (some (decide (a0 < a1)))) = some r := H
 have A3 := Aside0.mk A30
 clear A30
 by_cases c4 : ab = true
 ·subst c4
  have H1 : ((cmp_isNaN_int.f a1).bind fun aa => (if aa = true then (some (decide (a0 < a1))) else (some true))) = some r := by rw [if_pos rfl] at H; exact H
  clear H; have H := H1; clear H1; replace H := bi_ H; obtain ⟨aa, A50, H⟩ := H
  replace H : (if aa = true then (some (decide (a0 < a1))) else (some true)) = some r := H
  have A5 := Aside0.mk A50; clear A50
  by_cases c6 : aa = true
  ·subst c6
   have H1 : (some (decide (a0 < a1))) = some r := by rw [if_pos rfl] at H; exact H
   clear H; have H := H1; clear H1
   obtain rfl := Option.some.inj H
   go_enter Tryd.func54, Tryd.ntmps54
   go_wp2_with (first | ((with_reducible refine gate_callee (f := 57) rfl ?_); refine gL_ (some 6) Tryd.func57 #[.int .i64 a0] ?_; (with_reducible refine (cmp_isNaN_int.calls a0 true _ A3.out).mono ?_); rintro e w' ⟨rfl, ⟨nd, rfl⟩⟩; refine ⟨_, rfl, ?_⟩) | (go_at_call 57; (with_reducible refine (cmp_isNaN_int.calls a1 true _ A5.out).mono ?_); rintro e w' ⟨rfl, ⟨nd, rfl⟩⟩) | (go_at_call 57; (with_reducible refine (cmp_isNaN_int.calls a0 true _ A3.out).mono ?_); rintro e w' ⟨rfl, ⟨nd, rfl⟩⟩))
   go_ret
   exact ⟨rs_, dn_⟩
  ·replace c6 := Bool.eq_false_iff.mpr c6
   subst c6
   have H1 : (some true) = some r := by rw [if_neg (show ¬ (false = true) by decide)] at H; exact H
   clear H; have H := H1; clear H1
   obtain rfl := Option.some.inj H
   go_enter Tryd.func54, Tryd.ntmps54
   go_wp2_with (first | ((with_reducible refine gate_callee (f := 57) rfl ?_); refine gL_ (some 6) Tryd.func57 #[.int .i64 a0] ?_; (with_reducible refine (cmp_isNaN_int.calls a0 true _ A3.out).mono ?_); rintro e w' ⟨rfl, ⟨nd, rfl⟩⟩; refine ⟨_, rfl, ?_⟩) | (go_at_call 57; (with_reducible refine (cmp_isNaN_int.calls a1 false _ A5.out).mono ?_); rintro e w' ⟨rfl, ⟨nd, rfl⟩⟩) | (go_at_call 57; (with_reducible refine (cmp_isNaN_int.calls a0 true _ A3.out).mono ?_); rintro e w' ⟨rfl, ⟨nd, rfl⟩⟩))
   go_ret
   exact ⟨rs_, dn_⟩
 ·replace c4 := Bool.eq_false_iff.mpr c4
  subst c4
  have H1 : (some (decide (a0 < a1))) = some r := by rw [if_neg (show ¬ (false = true) by decide)] at H; exact H
  clear H; have H := H1; clear H1
  obtain rfl := Option.some.inj H
  go_enter Tryd.func54, Tryd.ntmps54
  go_wp2_with (first | ((with_reducible refine gate_callee (f := 57) rfl ?_); refine gL_ (some 6) Tryd.func57 #[.int .i64 a0] ?_; (with_reducible refine (cmp_isNaN_int.calls a0 false _ A3.out).mono ?_); rintro e w' ⟨rfl, ⟨nd, rfl⟩⟩; refine ⟨_, rfl, ?_⟩) | (go_at_call 57; (with_reducible refine (cmp_isNaN_int.calls a0 false _ A3.out).mono ?_); rintro e w' ⟨rfl, ⟨nd, rfl⟩⟩))
  go_ret
  exact ⟨rs_, dn_⟩

/-! ### slices_isNaN_int: function 55 -/
def slices_isNaN_int.f (a0 : Int) : Option (Bool) := some (a0 != a0)
set_option maxHeartbeats 8000000 in
set_option maxRecDepth 100000 in
theorem slices_isNaN_int.calls (a0 : Int) (r : Bool) (w : World) (h : slices_isNaN_int.f a0 = some r) :
  Calls Tryd.prog 55 #[.int .i64 a0] w fun e w' => e = .returned (.bool r) ∧ Drawn0 w w' := by
 have H : (some (a0 != a0)) = some r := h
 clear h
 obtain rfl := Option.some.inj H
 go_enter Tryd.func55, Tryd.ntmps55
 go_wp2
 go_ret
 exact ⟨rs_, dn_⟩

/-! ### slices_BinarySearch_int_int: function 50 -/
def slices_BinarySearch_int_int.l0 : Nat → List Int → Int → Int → Int → Int → Option (Int × Bool)
 | 0, _, _, _, _, _ => none
 | k + 1, x0, x1, x6, x7, x8 => if x7 < x8 then (if 0 ≤ (wrap64 ((IntKind.u64.wrap (wrap64 (x7 + x8))) / 2)) then (if (wrap64 ((IntKind.u64.wrap (wrap64 (x7 + x8))) / 2)) < (x0.length : Int) then ((cmp_Less_int.f (rd x0 (wrap64 ((IntKind.u64.wrap (wrap64 (x7 + x8))) / 2))) x1).bind fun t124 => (if t124 = true then (slices_BinarySearch_int_int.l0 k x0 x1 x6 (wrap64 ((wrap64 ((IntKind.u64.wrap (wrap64 (x7 + x8))) / 2)) + 1)) x8) else (slices_BinarySearch_int_int.l0 k x0 x1 x6 x7 (wrap64 ((IntKind.u64.wrap (wrap64 (x7 + x8))) / 2))))) else (none)) else (none)) else (if x7 < x6 then (if 0 ≤ x7 then (if x7 < (x0.length : Int) then (if (rd x0 x7) = x1 then (some (x7, true)) else ((slices_isNaN_int.f (rd x0 x7)).bind fun t127 => (if t127 = true then ((slices_isNaN_int.f x1).bind fun t128 => (some (x7, t128))) else (some (x7, false))))) else (none)) else (none)) else (some (x7, false)))
def slices_BinarySearch_int_int.f (k : Nat) (l0 : List Int) (a1 : Int) : Option (Int × Bool) := slices_BinarySearch_int_int.l0 k l0 a1 (l0.length : Int) 0 (l0.length : Int)
theorem slices_BinarySearch_int_int.mono_l : ∀ k, (∀ y0 y1 y2 y3 y4, LeO (slices_BinarySearch_int_int.l0 k y0 y1 y2 y3 y4) (slices_BinarySearch_int_int.l0 (k + 1) y0 y1 y2 y3 y4))
 | 0 => fun _ _ _ _ _ r h => by simp [slices_BinarySearch_int_int.l0] at h
 | k + 1 => by
  have ih0 := slices_BinarySearch_int_int.mono_l k
  ·intro y0 y1 y2 y3 y4
   unfold slices_BinarySearch_int_int.l0
   repeat' (with_reducible first | apply ih0 | exact LeO.refl _ | exact LeO.none _ | refine LeO.ite ?_ ?_ | refine LeO.bind ?_ (fun _ => ?_))
theorem slices_BinarySearch_int_int.mono : ∀ a0 a1 k, LeO (slices_BinarySearch_int_int.f k a0 a1) (slices_BinarySearch_int_int.f (k + 1) a0 a1) := by
 intro a0 a1 k
 have ih0 := slices_BinarySearch_int_int.mono_l k
 unfold slices_BinarySearch_int_int.f
 repeat' (with_reducible first | apply ih0 | exact LeO.refl _ | exact LeO.none _ | refine LeO.ite ?_ ?_ | refine LeO.bind ?_ (fun _ => ?_))
set_option maxHeartbeats 8000000 in
set_option maxRecDepth 100000 in
theorem slices_BinarySearch_int_int.calls (k : Nat) (A0 : Option Addr) (c0 : Nat) (l0 : List Int) (a1 r1 : Int) (r2 : Bool) (w : World) (hr0 : Kd.C (Kd.int .i64) w A0 l0.length l0) (hc0 : l0.length ≤ c0) (h : slices_BinarySearch_int_int.f k l0 a1 = some (r1, r2)) :
  Calls Tryd.prog 50 #[.slice A0 l0.length c0, .int .i64 a1] w fun e w' => e = .returned (.tuple #[.int .i64 r1, .bool r2]) ∧ Drawn0 w w' := by
 have ad := Aside0.mk hr0
 have ao := Aside0.mk hc0
 clear hr0 hc0
 have H : (slices_BinarySearch_int_int.l0 k l0 a1 (l0.length : Int) 0 (l0.length : Int)) = some (r1, r2) := h
 clear h
 have H' := Aside0.mk H
 clear H
 go_enter Tryd.func50, Tryd.ntmps50
 go_wp2
 go_loopg [7, 8] k (fun kq v7 v8 w' => ∃ (aa ab : Int), v7 = .int .i64 aa ∧ v8 = .int .i64 ab ∧ Aside0 (slices_BinarySearch_int_int.l0 kq l0 a1 (l0.length : Int) aa ab = some (r1, r2)) ∧ Aside0 (kq ≤ k) ∧ Drawn0 w w')
 case atStart => exact ⟨(0), ((l0.length : Int)), rs_, rs_, H', ⟨Nat.le_refl _⟩, dn_⟩
 case round =>
  clear H'
  try clear p2
  obtain ⟨aa, ab, rfl, rfl, HA, HK1, ⟨m1, rfl⟩⟩ := hrel
  cases gk with
  | zero => exact absurd HA.out (by simp [slices_BinarySearch_int_int.l0])
  | succ k1 =>
   have H := HA.out; clear HA; simp only [slices_BinarySearch_int_int.l0] at H
   by_cases c3 : aa < ab
   ·rw [if_pos c3] at H
    have ai : decide (aa < ab) = true := decide_eq_true c3
    clear c3; obtain ⟨ji4, hji4⟩ : ∃ j_ : Int, (wrap64 ((IntKind.u64.wrap (wrap64 (aa + ab))) / 2)) = j_ := ⟨_, rfl⟩
    replace H : (if 0 ≤ (ji4) then (if (ji4) < (l0.length : Int) then ((cmp_Less_int.f (rd l0 (ji4)) a1).bind fun ae => (if ae = true then (slices_BinarySearch_int_int.l0 k1 l0 a1 (l0.length : Int) (wrap64 ((ji4) + 1)) ab) else (slices_BinarySearch_int_int.l0 k1 l0 a1 (l0.length : Int) aa ji4))) else (none)) else (none)) = some (r1, r2) := by first | (rw [hji4] at H; exact H) | (simp only [hji4] at H ⊢; exact H)
    have hji4w : (IntKind.i64.wrap ((IntKind.u64.wrap (wrap64 (aa + ab))) / 2)) = ji4 := (i64_w _).trans hji4
    by_cases c5 : 0 ≤ (ji4)
    ·rw [if_pos c5] at H
     have am : decide (0 ≤ (ji4)) = true := decide_eq_true c5
     clear c5
     by_cases c6 : (ji4) < (l0.length : Int)
     ·rw [if_pos c6] at H
      have an : decide ((ji4) < (l0.length : Int)) = true := decide_eq_true c6
      clear c6; replace H := bi_ H; obtain ⟨ae, A70, H⟩ := H
      replace H : (if ae = true then (slices_BinarySearch_int_int.l0 k1 l0 a1 (l0.length : Int) (wrap64 ((ji4) + 1)) ab) else (slices_BinarySearch_int_int.l0 k1 l0 a1 (l0.length : Int) aa ji4)) = some (r1, r2) := H
      have A7 := Aside0.mk A70; clear A70
      by_cases c8 : ae = true
      ·subst c8
       have H1 : (slices_BinarySearch_int_int.l0 k1 l0 a1 (l0.length : Int) (wrap64 ((ji4) + 1)) ab) = some (r1, r2) := by rw [if_pos rfl] at H; exact H
       clear H; have H := H1; clear H1
       have H' := Aside0.mk H
       clear H
       have p123 : 0 ≤ ((ji4) : Int) := od_
       have q123 : (ji4) < (l0.length : Int) := od_
       obtain ⟨ad123, e123, hx123_0⟩ := Kd.at_int ad.out (ji4) p123 q123
       cases e123
       replace p123 := eq_true p123; replace q123 := eq_true q123
       go_wp2_with (first | ((with_reducible refine gate_callee (f := 54) rfl ?_); refine goesL_ (some 27) rfl rfl Tryd.func54 (by kernel_rfl) rfl #[.int .i64 (rd l0 (ji4)), .int .i64 a1] rfl (by (try simp only [List.map_toArray, List.map_cons, List.map_nil]); first | done | (simp only [hji4]; rfl) | rfl | (simp only [List.length_drop, List.length_take]; rfl)) ?_; (with_reducible refine (cmp_Less_int.calls (rd l0 (ji4)) a1 true _ A7.out).mono ?_); rintro e w' ⟨rfl, ⟨nd, rfl⟩⟩; refine ⟨_, rfl, ?_⟩) | (go_at_call 54; (with_reducible refine (cmp_Less_int.calls (rd l0 (ji4)) a1 true _ A7.out).mono ?_); rintro e w' ⟨rfl, ⟨nd, rfl⟩⟩))
       go_roundg k1
       case measure => have := HK1.out; omega
       case rel => exact ⟨(wrap64 ((ji4) + 1)), (ab), (by first | rfl | (simp; done) | (simp only [← hji4] <;> (first | rfl | simp)) | (simp [*]; done)), rs_, H', ⟨om_ HK1⟩, dn_⟩
      ·replace c8 := Bool.eq_false_iff.mpr c8
       subst c8
       have H1 : (slices_BinarySearch_int_int.l0 k1 l0 a1 (l0.length : Int) aa ji4) = some (r1, r2) := by rw [if_neg (show ¬ (false = true) by decide)] at H; exact H
       clear H; have H := H1; clear H1
       have H' := Aside0.mk H
       clear H
       have p123 : 0 ≤ ((ji4) : Int) := od_
       have q123 : (ji4) < (l0.length : Int) := od_
       obtain ⟨ad123, e123, hx123_0⟩ := Kd.at_int ad.out (ji4) p123 q123
       cases e123
       replace p123 := eq_true p123; replace q123 := eq_true q123
       go_wp2_with (first | ((with_reducible refine gate_callee (f := 54) rfl ?_); refine goesL_ (some 27) rfl rfl Tryd.func54 (by kernel_rfl) rfl #[.int .i64 (rd l0 (ji4)), .int .i64 a1] rfl (by (try simp only [List.map_toArray, List.map_cons, List.map_nil]); first | done | (simp only [hji4]; rfl) | rfl | (simp only [List.length_drop, List.length_take]; rfl)) ?_; (with_reducible refine (cmp_Less_int.calls (rd l0 (ji4)) a1 false _ A7.out).mono ?_); rintro e w' ⟨rfl, ⟨nd, rfl⟩⟩; refine ⟨_, rfl, ?_⟩) | (go_at_call 54; (with_reducible refine (cmp_Less_int.calls (rd l0 (ji4)) a1 false _ A7.out).mono ?_); rintro e w' ⟨rfl, ⟨nd, rfl⟩⟩))
       go_roundg k1
       case measure => have := HK1.out; omega
       case rel => exact ⟨(aa), (ji4), rs_, (by first | rfl | (simp; done) | (simp only [← hji4] <;> (first | rfl | simp)) | (simp [*]; done)), H', ⟨om_ HK1⟩, dn_⟩
     ·rw [if_neg c6] at H
      exact absurd H (by simp)
    ·rw [if_neg c5] at H
     exact absurd H (by simp)
   ·rw [if_neg c3] at H
    have ai : decide (aa < ab) = false := decide_eq_false c3
    clear c3
    by_cases c9 : aa < (l0.length : Int)
    ·rw [if_pos c9] at H
     have aj : decide (aa < (l0.length : Int)) = true := decide_eq_true c9
     clear c9
     by_cases c10 : 0 ≤ aa
     ·rw [if_pos c10] at H
      have ak : decide (0 ≤ aa) = true := decide_eq_true c10
      clear c10
      by_cases c11 : aa < (l0.length : Int)
      ·rw [if_pos c11] at H
       have al : decide (aa < (l0.length : Int)) = true := decide_eq_true c11
       clear c11
       by_cases c12 : (rd l0 aa) = a1
       ·rw [if_pos c12] at H
        have ag : ((rd l0 aa) == a1) = true := beq_iff_eq.mpr c12
        have ah : ((rd l0 aa) != a1) = false := bne_eq_false_iff_eq.mpr c12
        clear c12; simp only [Option.some.injEq, Prod.mk.injEq] at H; obtain ⟨rfl, rfl⟩ := H
        have p125 : 0 ≤ (aa : Int) := od_
        have q125 : aa < (l0.length : Int) := od_
        obtain ⟨ad125, e125, hx125_0⟩ := Kd.at_int ad.out aa p125 q125
        cases e125
        replace p125 := eq_true p125; replace q125 := eq_true q125
        go_wp2
        go_ret2
        exact ⟨rs_, dn_⟩
       ·rw [if_neg c12] at H
        have ag : ((rd l0 aa) == a1) = false := beq_eq_false_iff_ne.mpr c12
        have ah : ((rd l0 aa) != a1) = true := bne_iff_ne.mpr c12
        replace H := bi_ H; obtain ⟨af, A130, H⟩ := H
        replace H : (if af = true then ((slices_isNaN_int.f a1).bind fun ac => (some (aa, ac))) else (some (aa, false))) = some (r1, r2) := H
        have A13 := Aside0.mk A130; clear A130
        by_cases c14 : af = true
        ·subst c14
         have H1 : ((slices_isNaN_int.f a1).bind fun ac => (some (aa, ac))) = some (r1, r2) := by rw [if_pos rfl] at H; exact H
         clear H; have H := H1; clear H1; replace H := bi_ H; obtain ⟨ac, A150, H⟩ := H
         replace H : (some (aa, ac)) = some (r1, r2) := H
         have A15 := Aside0.mk A150; clear A150; simp only [Option.some.injEq, Prod.mk.injEq] at H; obtain ⟨rfl, rfl⟩ := H
         have p125 : 0 ≤ (aa : Int) := od_
         have q125 : aa < (l0.length : Int) := od_
         obtain ⟨ad125, e125, hx125_0⟩ := Kd.at_int ad.out aa p125 q125
         cases e125
         replace p125 := eq_true p125; replace q125 := eq_true q125
         have p126 : 0 ≤ (aa : Int) := od_
         have q126 : aa < (l0.length : Int) := od_
         obtain ⟨ad126, e126, hx126_0⟩ := Kd.at_int ad.out aa p126 q126
         obtain rfl : ad125 = ad126 := (by injection e126)
         replace p126 := eq_true p126; replace q126 := eq_true q126
         go_wp2_with (first | (go_at_call 55; (with_reducible refine (slices_isNaN_int.calls (rd l0 aa) true _ A13.out).mono ?_); rintro e w' ⟨rfl, ⟨nd, rfl⟩⟩) | (go_at_call 55; (with_reducible refine (slices_isNaN_int.calls a1 ac _ A15.out).mono ?_); rintro e w' ⟨rfl, ⟨nd, rfl⟩⟩))
         go_ret2
         exact ⟨rs_, dn_⟩
        ·replace c14 := Bool.eq_false_iff.mpr c14
         subst c14
         have H1 : (some (aa, false)) = some (r1, r2) := by rw [if_neg (show ¬ (false = true) by decide)] at H; exact H
         clear H; have H := H1; clear H1; simp only [Option.some.injEq, Prod.mk.injEq] at H; obtain ⟨rfl, rfl⟩ := H
         have p125 : 0 ≤ (aa : Int) := od_
         have q125 : aa < (l0.length : Int) := od_
         obtain ⟨ad125, e125, hx125_0⟩ := Kd.at_int ad.out aa p125 q125
         cases e125
         replace p125 := eq_true p125; replace q125 := eq_true q125
         have p126 : 0 ≤ (aa : Int) := od_
         have q126 : aa < (l0.length : Int) := od_
         obtain ⟨ad126, e126, hx126_0⟩ := Kd.at_int ad.out aa p126 q126
         obtain rfl : ad125 = ad126 := (by injection e126)
         replace p126 := eq_true p126; replace q126 := eq_true q126
         go_wp2_with (first | (go_at_call 55; (with_reducible refine (slices_isNaN_int.calls (rd l0 aa) false _ A13.out).mono ?_); rintro e w' ⟨rfl, ⟨nd, rfl⟩⟩))
         go_ret2
         exact ⟨rs_, dn_⟩
      ·rw [if_neg c11] at H
       exact absurd H (by simp)
     ·rw [if_neg c10] at H
      exact absurd H (by simp)
    ·rw [if_neg c9] at H
     have aj : decide (aa < (l0.length : Int)) = false := decide_eq_false c9
     clear c9; simp only [Option.some.injEq, Prod.mk.injEq] at H; obtain ⟨rfl, rfl⟩ := H
     go_wp2
     go_ret2
     exact ⟨rs_, dn_⟩

/-! ### model_Has: function 34 -/
def model_Has.f (k : Nat) (l0 : List Int) (a1 : Int) : Option (Bool) := (slices_BinarySearch_int_int.f k l0 a1).bind fun bt129 => (some bt129.2)
theorem model_Has.mono : ∀ a0 a1 k, LeO (model_Has.f k a0 a1) (model_Has.f (k + 1) a0 a1) := by
 intro a0 a1 k
 unfold model_Has.f
 repeat' (with_reducible first | apply slices_BinarySearch_int_int.mono | exact LeO.refl _ | exact LeO.none _ | refine LeO.ite ?_ ?_ | refine LeO.bind ?_ (fun _ => ?_))
set_option maxHeartbeats 8000000 in
set_option maxRecDepth 100000 in
theorem model_Has.calls (k : Nat) (A0 : Option Addr) (c0 : Nat) (l0 : List Int) (a1 : Int) (r : Bool) (w : World) (hr0 : Kd.C (Kd.int .i64) w A0 l0.length l0) (hc0 : l0.length ≤ c0) (h : model_Has.f k l0 a1 = some r) :
  Calls Tryd.prog 34 #[.slice A0 l0.length c0, .int .i64 a1] w fun e w' => e = .returned (.bool r) ∧ Drawn0 w w' := by
 have ad := Aside0.mk hr0
 have ac := Aside0.mk hc0
 clear hr0 hc0
 have H : ((slices_BinarySearch_int_int.f k l0 a1).bind fun bt129 => (some bt129.2)) = some r := h
 clear h
 replace H := bi_ H
 obtain ⟨⟨ab, aa⟩, A30, H⟩ := H
 replace H : (some aa) = some r := H
 have A3 := Aside0.mk A30
 clear A30
 obtain rfl := Option.some.inj H
 go_enter Tryd.func34, Tryd.ntmps34
 go_wp2_with (first | ((with_reducible refine gate_callee (f := 50) rfl ?_); refine gL_ (some 10) Tryd.func50 #[.slice A0 l0.length c0, .int .i64 a1] ?_; (with_reducible refine (slices_BinarySearch_int_int.calls k _ _ l0 a1 ab aa _ ?side1 ?side2 A3.out).mono ?_); (case side1 => exact cD_ ad.out); (case side2 => exact ac.out); rintro e w' ⟨rfl, ⟨nd, rfl⟩⟩; refine ⟨_, rfl, ?_⟩))
 go_ret
 exact ⟨rs_, dn_⟩

end Go.Proofs.YtkiimboedgnoiaaDoor.PSpecBack
