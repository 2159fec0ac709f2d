/- The walk of SpecLegal, part of it: what the Go functions answer; no condition. -/
import Derived.Test.YtkiimboedgnoiaaDoorQSpecLegalx0
import Derived.Test.YtkiimboedgnoiaaDoorQSpecLegalx8
import Derived.Test.YtkiimboedgnoiaaDoorQSpecLegalx10
namespace Go.Proofs.YtkiimboedgnoiaaDoor.PSpecLegal
open Go.RowKit Go.Proofs.YtkiimboedgnoiaaDoorW.PrintWords Go.Proofs.YtkiimboedgnoiaaDoorW.PrintLast Go.Proofs.YtkiimboedgnoiaaDoorW.PrintMore
attribute [local go_sem] max2_int min2_int max_two min_two max_three min_three max_four min_four   -- for this text's walks alone
set_option linter.unusedVariables false
set_option linter.unusedSimpArgs false

/-! ### lodgerref05_May: function 29 -/
mutual
def lodgerref05_May.j0 : Nat → Bool → Int → Int → List Int → Int → Int → Int → Int → Option (Bool)
 | 0, _, _, _, _, _, _, _, _ => none
 | k + 1, x53, x506000, x506001, x506002, x506003, x506004, x506005, x506006 => if x53 = true then (some false) else (lodgerref05_May.l0 k 0 x506000 x506001 x506002 x506003 x506004 x506005 x506006)
def lodgerref05_May.l0 : Nat → Int → Int → Int → List Int → Int → Int → Int → Int → Option (Bool)
 | 0, _, _, _, _, _, _, _, _ => none
 | k + 1, x3, x506000, x506001, x506002, x506003, x506004, x506005, x506006 => if x3 < (x506002.length : Int) then (if 0 ≤ x3 then (if (rd x506002 x3) < 0 then (some false) else ((lodgerref05_Many.f k x506000 x506001).bind fun t509 => (if (rd x506002 x3) ≥ t509 then (some false) else (if x3 > 0 then (if 0 ≤ (wrap64 (x3 - 1)) then (if (wrap64 (x3 - 1)) < (x506002.length : Int) then (if (rd x506002 x3) ≤ (rd x506002 (wrap64 (x3 - 1))) then (some false) else (lodgerref05_May.l0 k (wrap64 (x3 + 1)) x506000 x506001 x506002 x506003 x506004 x506005 x506006)) else (none)) else (none)) else (lodgerref05_May.l0 k (wrap64 (x3 + 1)) x506000 x506001 x506002 x506003 x506004 x506005 x506006))))) else (none)) else (some true)
end
def lodgerref05_May.f (k : Nat) (a0_0 : Int) (a0_1 : Int) (l0_2 : List Int) (a0_3 : Int) (a0_4 : Int) (a0_5 : Int) (a0_6 : Int) : Option (Bool) := (lodgerref04_May.f k a0_0 a0_1).bind fun t506 => (if t506 = true then (if (l0_2.length : Int) > 64 then (lodgerref05_May.j0 k true a0_0 a0_1 l0_2 a0_3 a0_4 a0_5 a0_6) else (if a0_3 < 1 then (lodgerref05_May.j0 k true a0_0 a0_1 l0_2 a0_3 a0_4 a0_5 a0_6) else (if a0_3 > 64 then (lodgerref05_May.j0 k true a0_0 a0_1 l0_2 a0_3 a0_4 a0_5 a0_6) else (if a0_4 < 1 then (lodgerref05_May.j0 k true a0_0 a0_1 l0_2 a0_3 a0_4 a0_5 a0_6) else (if a0_4 > 64 then (lodgerref05_May.j0 k true a0_0 a0_1 l0_2 a0_3 a0_4 a0_5 a0_6) else (if a0_5 < 1 then (lodgerref05_May.j0 k true a0_0 a0_1 l0_2 a0_3 a0_4 a0_5 a0_6) else (if a0_5 > 64 then (lodgerref05_May.j0 k true a0_0 a0_1 l0_2 a0_3 a0_4 a0_5 a0_6) else (if a0_6 < 1 then (lodgerref05_May.j0 k true a0_0 a0_1 l0_2 a0_3 a0_4 a0_5 a0_6) else (lodgerref05_May.j0 k (decide (a0_6 > 8)) a0_0 a0_1 l0_2 a0_3 a0_4 a0_5 a0_6))))))))) else (lodgerref05_May.j0 k true a0_0 a0_1 l0_2 a0_3 a0_4 a0_5 a0_6))
theorem lodgerref05_May.mono_l : ∀ k, (∀ y0 y1 y2 y3 y4 y5 y6 y7, LeO (lodgerref05_May.j0 k y0 y1 y2 y3 y4 y5 y6 y7) (lodgerref05_May.j0 (k + 1) y0 y1 y2 y3 y4 y5 y6 y7)) ∧ (∀ y0 y1 y2 y3 y4 y5 y6 y7, LeO (lodgerref05_May.l0 k y0 y1 y2 y3 y4 y5 y6 y7) (lodgerref05_May.l0 (k + 1) y0 y1 y2 y3 y4 y5 y6 y7))
 | 0 => ⟨fun _ _ _ _ _ _ _ _ r h => by simp [lodgerref05_May.j0] at h, fun _ _ _ _ _ _ _ _ r h => by simp [lodgerref05_May.l0] at h⟩
 | k + 1 => by
  obtain ⟨ih0, ih1⟩ := lodgerref05_May.mono_l k
  refine ⟨?_, ?_⟩
  ·intro y0 y1 y2 y3 y4 y5 y6 y7
   unfold lodgerref05_May.j0
   repeat' first
   | (with_reducible exact ih0 _ _ _ _ _ _ _ _)
   | (with_reducible exact ih1 _ _ _ _ _ _ _ _)
   | (with_reducible exact lodgerref04_May.mono _ _ _)
   | (with_reducible exact lodgerref05_Many.mono _ _ _)
   | (with_reducible exact LeO.refl _)
   | (with_reducible exact LeO.none _)
   | (with_reducible refine LeO.ite ?_ ?_)
   | (with_reducible refine LeO.bind ?_ (fun _ => ?_))
   | exact ih0 _ _ _ _ _ _ _ _
   | exact ih1 _ _ _ _ _ _ _ _
   | exact lodgerref04_May.mono _ _ _
   | exact lodgerref05_Many.mono _ _ _
   | exact LeO.none _
   | refine LeO.ite ?_ ?_
   | refine LeO.bind ?_ (fun _ => ?_)
  ·intro y0 y1 y2 y3 y4 y5 y6 y7
   unfold lodgerref05_May.l0
   repeat' first
   | (with_reducible exact ih0 _ _ _ _ _ _ _ _)
   | (with_reducible exact ih1 _ _ _ _ _ _ _ _)
   | (with_reducible exact lodgerref04_May.mono _ _ _)
   | (with_reducible exact lodgerref05_Many.mono _ _ _)
   | (with_reducible exact LeO.refl _)
   | (with_reducible exact LeO.none _)
   | (with_reducible refine LeO.ite ?_ ?_)
   | (with_reducible refine LeO.bind ?_ (fun _ => ?_))
   | exact ih0 _ _ _ _ _ _ _ _
   | exact ih1 _ _ _ _ _ _ _ _
   | exact lodgerref04_May.mono _ _ _
   | exact lodgerref05_Many.mono _ _ _
   | exact LeO.none _
   | refine LeO.ite ?_ ?_
   | refine LeO.bind ?_ (fun _ => ?_)
theorem lodgerref05_May.mono : ∀ a0 a1 a2 a3 a4 a5 a6 k, LeO (lodgerref05_May.f k a0 a1 a2 a3 a4 a5 a6) (lodgerref05_May.f (k + 1) a0 a1 a2 a3 a4 a5 a6) := by
 intro a0 a1 a2 a3 a4 a5 a6 k
 obtain ⟨ih0, ih1⟩ := lodgerref05_May.mono_l k
 unfold lodgerref05_May.f
 repeat' first
   | (with_reducible exact ih0 _ _ _ _ _ _ _ _)
   | (with_reducible exact ih1 _ _ _ _ _ _ _ _)
   | (with_reducible exact lodgerref04_May.mono _ _ _)
   | (with_reducible exact lodgerref05_Many.mono _ _ _)
   | (with_reducible exact LeO.refl _)
   | (with_reducible exact LeO.none _)
   | (with_reducible refine LeO.ite ?_ ?_)
   | (with_reducible refine LeO.bind ?_ (fun _ => ?_))
   | exact ih0 _ _ _ _ _ _ _ _
   | exact ih1 _ _ _ _ _ _ _ _
   | exact lodgerref04_May.mono _ _ _
   | exact lodgerref05_Many.mono _ _ _
   | exact LeO.none _
   | refine LeO.ite ?_ ?_
   | refine LeO.bind ?_ (fun _ => ?_)
def lodgerref05_May.T6 : Bool × List (List Nat × List Nat) := (true, [([], []), ([0], [0]), ([], []), ([1, 2], [1, 2]), ([3], [3]), ([4], [4]), ([5], [5]), ([6], [6]), ([7, 6], [6, 7]), ([6], [6]), ([8, 9, 6], [6, 8, 9]), ([10, 6], [6, 10]), ([6], [6]), ([12, 6], [6, 12]), ([13, 6, 6], [6, 13]), ([11, 14, 6], [6, 11, 14]), ([6, 15], [6, 15]), ([16, 14], [16]), ([17], [17]), ([18, 17], [17, 18]), ([19, 17, 17], [17, 19]), ([20], [20]), ([21, 20], [20, 21]), ([20], [20]), ([22, 23, 20], [20, 22, 23]), ([24, 20], [20, 24]), ([20], [20]), ([26, 20], [20, 26]), ([20], [20]), ([28, 20], [20, 28]), ([27, 29, 20], [20, 27, 29]), ([30, 20], [20, 30]), ([25, 31, 20], [20, 25, 31]), ([20, 32, 17], [17, 20, 32]), ([17, 33], [17, 33])])
def lodgerref05_May.B6 : List Nat := [0, 1, 0, 7, 15, 31, 63, 127, 255, 127, 1023, 2047, 127, 4223, 12415, 32767, 65535, 131071, 262143, 524287, 1048575, 2097151, 4194303, 2097151, 16777215, 33554431, 2097151, 69206015, 2097151, 270532607, 1008730111, 2082471935, 4294967295, 8589934591, 17179869183]
theorem lodgerref05_May.tab6 : rtab .any (opsOf Tryd.f29 6) = lodgerref05_May.T6 := by kernel_rfl
theorem lodgerref05_May.bits6 : waitsOk lodgerref05_May.T6.2 lodgerref05_May.B6 = true := by kernel_rfl
set_option maxHeartbeats 8000000 in
set_option maxRecDepth 100000 in
theorem lodgerref05_May.calls (k : Nat) (a0_0 : Int) (a0_1 : Int) (A0_2 : Option Addr) (c0_2 : Nat) (l0_2 : List Int) (a0_3 : Int) (a0_4 : Int) (a0_5 : Int) (a0_6 : Int) (r : Bool) (w : World) (hr0_2 : Kd.C (Kd.int .i64) w A0_2 l0_2.length l0_2) (hc0_2 : l0_2.length ≤ c0_2) (h : lodgerref05_May.f k a0_0 a0_1 l0_2 a0_3 a0_4 a0_5 a0_6 = some r) :
  Calls Tryd.prog 29 #[.agg #[.int .u32 a0_0, .int .i64 a0_1, .slice A0_2 l0_2.length c0_2, .int .i64 a0_3, .int .i64 a0_4, .int .i64 a0_5, .int .i64 a0_6]] w fun e w' => e = .returned (.bool r) ∧ Below w.heap.size w w' := by
 have hu27 := Tryd.underlying27
 have hu24 := Tryd.underlying24
 have HR0_2 := Aside0.mk hr0_2
 have HC0_2 := Aside0.mk hc0_2
 clear hr0_2 hc0_2
 have HB := Aside0.mk (Below.refl w.heap.size w)
 have H : ((lodgerref04_May.f k a0_0 a0_1).bind fun t506 => (if t506 = true then (if (l0_2.length : Int) > 64 then (lodgerref05_May.j0 k true a0_0 a0_1 l0_2 a0_3 a0_4 a0_5 a0_6) else (if a0_3 < 1 then (lodgerref05_May.j0 k true a0_0 a0_1 l0_2 a0_3 a0_4 a0_5 a0_6) else (if a0_3 > 64 then (lodgerref05_May.j0 k true a0_0 a0_1 l0_2 a0_3 a0_4 a0_5 a0_6) else (if a0_4 < 1 then (lodgerref05_May.j0 k true a0_0 a0_1 l0_2 a0_3 a0_4 a0_5 a0_6) else (if a0_4 > 64 then (lodgerref05_May.j0 k true a0_0 a0_1 l0_2 a0_3 a0_4 a0_5 a0_6) else (if a0_5 < 1 then (lodgerref05_May.j0 k true a0_0 a0_1 l0_2 a0_3 a0_4 a0_5 a0_6) else (if a0_5 > 64 then (lodgerref05_May.j0 k true a0_0 a0_1 l0_2 a0_3 a0_4 a0_5 a0_6) else (if a0_6 < 1 then (lodgerref05_May.j0 k true a0_0 a0_1 l0_2 a0_3 a0_4 a0_5 a0_6) else (lodgerref05_May.j0 k (decide (a0_6 > 8)) a0_0 a0_1 l0_2 a0_3 a0_4 a0_5 a0_6))))))))) else (lodgerref05_May.j0 k true a0_0 a0_1 l0_2 a0_3 a0_4 a0_5 a0_6))) = some r := h
 clear h
 have HC2 := Aside0.mk H
 clear H
 go_enter Tryd.func29, Tryd.ntmps29
 go_upto_region 1 with (first | ((with_reducible refine gate_dst (N := 1) rfl ?_); (try (refine gate_guard (by rfl) ?_; dsimp only)); refine box_event ?hg (N := 1) ?hd (cs := #[.int .u32 a0_0, .int .i64 a0_1, .slice A0_2 l0_2.length c0_2, .int .i64 a0_3, .int .i64 a0_4, .int .i64 a0_5, .int .i64 a0_6]) (t := 27) ?hr ?_; (case hd => rfl); (case hg => rfl); (case hr => first | (go_simp; done) | (go_simp; rfl)); intro gb505 hg w3 hbox hb; have n1_ := Aside0.mk (hbox); have n2_ := gG_ (w := w) hg HB; have n3_ := gG_ (w := w) hg HB; have BK505 := n1_; have GW505 := n2_; have GE505 := n3_; replace HB := hS_ HB hb; clear n1_ n2_ n3_; clear hb hbox hg))
 (try simp only [Act.put, List.setIfInBounds_toArray, List.set_cons_zero, List.set_cons_succ])
 go_cut [53] (fun v53 wc => ∃ (kq : Nat) (x53_1 : Bool), v53 = .bool x53_1 ∧ Aside0 (lodgerref05_May.j0 kq x53_1 a0_0 a0_1 l0_2 a0_3 a0_4 a0_5 a0_6 = some r) ∧ Aside0 (kq ≤ k) ∧ Aside0 (wc.heap[gb505]? = some (.cells #[.int .u32 a0_0, .int .i64 a0_1, (.slice A0_2 l0_2.length c0_2), .int .i64 a0_3, .int .i64 a0_4, .int .i64 a0_5, .int .i64 a0_6] 27 (0, 0))) ∧ Aside0 (Below w.heap.size w wc))
 case first =>
  have H := HC2.out; clear HC2; replace H := Option.bind_eq_some_iff.mp H; obtain ⟨t506, A40, H⟩ := H
  replace H : (if t506 = true then (if (l0_2.length : Int) > 64 then (lodgerref05_May.j0 k true a0_0 a0_1 l0_2 a0_3 a0_4 a0_5 a0_6) else (if a0_3 < 1 then (lodgerref05_May.j0 k true a0_0 a0_1 l0_2 a0_3 a0_4 a0_5 a0_6) else (if a0_3 > 64 then (lodgerref05_May.j0 k true a0_0 a0_1 l0_2 a0_3 a0_4 a0_5 a0_6) else (if a0_4 < 1 then (lodgerref05_May.j0 k true a0_0 a0_1 l0_2 a0_3 a0_4 a0_5 a0_6) else (if a0_4 > 64 then (lodgerref05_May.j0 k true a0_0 a0_1 l0_2 a0_3 a0_4 a0_5 a0_6) else (if a0_5 < 1 then (lodgerref05_May.j0 k true a0_0 a0_1 l0_2 a0_3 a0_4 a0_5 a0_6) else (if a0_5 > 64 then (lodgerref05_May.j0 k true a0_0 a0_1 l0_2 a0_3 a0_4 a0_5 a0_6) else (if a0_6 < 1 then (lodgerref05_May.j0 k true a0_0 a0_1 l0_2 a0_3 a0_4 a0_5 a0_6) else (lodgerref05_May.j0 k (decide (a0_6 > 8)) a0_0 a0_1 l0_2 a0_3 a0_4 a0_5 a0_6))))))))) else (lodgerref05_May.j0 k true a0_0 a0_1 l0_2 a0_3 a0_4 a0_5 a0_6)) = some r := H
  have A4 := Aside0.mk A40; clear A40
  by_cases c5 : t506 = true
  ·subst c5
   have H1 : (if (l0_2.length : Int) > 64 then (lodgerref05_May.j0 k true a0_0 a0_1 l0_2 a0_3 a0_4 a0_5 a0_6) else (if a0_3 < 1 then (lodgerref05_May.j0 k true a0_0 a0_1 l0_2 a0_3 a0_4 a0_5 a0_6) else (if a0_3 > 64 then (lodgerref05_May.j0 k true a0_0 a0_1 l0_2 a0_3 a0_4 a0_5 a0_6) else (if a0_4 < 1 then (lodgerref05_May.j0 k true a0_0 a0_1 l0_2 a0_3 a0_4 a0_5 a0_6) else (if a0_4 > 64 then (lodgerref05_May.j0 k true a0_0 a0_1 l0_2 a0_3 a0_4 a0_5 a0_6) else (if a0_5 < 1 then (lodgerref05_May.j0 k true a0_0 a0_1 l0_2 a0_3 a0_4 a0_5 a0_6) else (if a0_5 > 64 then (lodgerref05_May.j0 k true a0_0 a0_1 l0_2 a0_3 a0_4 a0_5 a0_6) else (if a0_6 < 1 then (lodgerref05_May.j0 k true a0_0 a0_1 l0_2 a0_3 a0_4 a0_5 a0_6) else (lodgerref05_May.j0 k (decide (a0_6 > 8)) a0_0 a0_1 l0_2 a0_3 a0_4 a0_5 a0_6))))))))) = some r := by rw [if_pos rfl] at H; exact H
   clear H; have H := H1; clear H1
   by_cases c6 : (l0_2.length : Int) > 64
   ·rw [if_pos c6] at H
    have c6b0 : decide (64 < (l0_2.length : Int)) = true := decide_eq_true c6
    have c6b1 : decide (64 < l0_2.length) = true := decide_eq_true (by omega)
    clear c6
    (first | rw [c6b0] | (simp only [i64_w, i32_w]; rw [c6b0]) | skip)
    have H' := Aside0.mk H
    clear H; obtain ⟨hcz7_0, hcz7_1, hcz7_2, hcz7_3, hcz7_4, hcz7_5, hcz7_6, hfz7_0, hfz7_1, hfz7_2, hfz7_3, hfz7_4, hfz7_5, hfz7_6⟩ := cz7_ (w := w3) BK505
    go_wp2_with (first | ((with_reducible refine gate_callee (f := 44) rfl ?_); refine goesL_ (some 6) rfl rfl Tryd.func44 (by kernel_rfl) rfl #[.agg #[.int .u32 a0_0, .int .i64 a0_1]] rfl am_ ?_; (with_reducible refine (lodgerref04_May.calls k a0_0 a0_1 true _ A4.out).mono ?_); rintro e w8 ⟨rfl, hb⟩; refine ⟨_, rfl, ?_⟩; have n1_ := Aside0.mk (below_step (hB_ HB) hb); clear HB; have HB := n1_; replace BK505 := bB_ BK505 hb; clear n1_; (try clear hb); (try clear hb2); (try clear hk); (try clear hi); obtain ⟨hcz9_0, hcz9_1, hcz9_2, hcz9_3, hcz9_4, hcz9_5, hcz9_6, hfz9_0, hfz9_1, hfz9_2, hfz9_3, hfz9_4, hfz9_5, hfz9_6⟩ := cz7_ (w := w8) BK505))
    go_meet
    case rel => exact ⟨_, (true), rs_, H', ⟨by first | omega | exact Nat.le_refl _⟩, ⟨bk_ BK505⟩, ⟨hB_ HB⟩⟩
   ·rw [if_neg c6] at H
    have c6b0 : decide (64 < (l0_2.length : Int)) = false := decide_eq_false c6
    have c6b1 : decide (64 < l0_2.length) = false := decide_eq_false (by omega)
    clear c6
    (first | rw [c6b0] | (simp only [i64_w, i32_w]; rw [c6b0]) | skip)
    by_cases c10 : a0_3 < 1
    ·rw [if_pos c10] at H
     have c10b0 : decide (a0_3 < 1) = true := decide_eq_true c10
     clear c10
     have H' := Aside0.mk H
     clear H; obtain ⟨hcz11_0, hcz11_1, hcz11_2, hcz11_3, hcz11_4, hcz11_5, hcz11_6, hfz11_0, hfz11_1, hfz11_2, hfz11_3, hfz11_4, hfz11_5, hfz11_6⟩ := cz7_ (w := w3) BK505
     go_wp2_with (first | ((with_reducible refine gate_callee (f := 44) rfl ?_); refine goesL_ (some 6) rfl rfl Tryd.func44 (by kernel_rfl) rfl #[.agg #[.int .u32 a0_0, .int .i64 a0_1]] rfl am_ ?_; (with_reducible refine (lodgerref04_May.calls k a0_0 a0_1 true _ A4.out).mono ?_); rintro e w12 ⟨rfl, hb⟩; refine ⟨_, rfl, ?_⟩; have n1_ := Aside0.mk (below_step (hB_ HB) hb); clear HB; have HB := n1_; replace BK505 := bB_ BK505 hb; clear n1_; (try clear hb); (try clear hb2); (try clear hk); (try clear hi); obtain ⟨hcz13_0, hcz13_1, hcz13_2, hcz13_3, hcz13_4, hcz13_5, hcz13_6, hfz13_0, hfz13_1, hfz13_2, hfz13_3, hfz13_4, hfz13_5, hfz13_6⟩ := cz7_ (w := w12) BK505))
     go_meet
     case rel => exact ⟨_, (true), rs_, H', ⟨by first | omega | exact Nat.le_refl _⟩, ⟨bk_ BK505⟩, ⟨hB_ HB⟩⟩
    ·rw [if_neg c10] at H
     have c10b0 : decide (a0_3 < 1) = false := decide_eq_false c10
     clear c10
     by_cases c14 : a0_3 > 64
     ·rw [if_pos c14] at H
      have c14b0 : decide (64 < a0_3) = true := decide_eq_true c14
      clear c14
      have H' := Aside0.mk H
      clear H; obtain ⟨hcz15_0, hcz15_1, hcz15_2, hcz15_3, hcz15_4, hcz15_5, hcz15_6, hfz15_0, hfz15_1, hfz15_2, hfz15_3, hfz15_4, hfz15_5, hfz15_6⟩ := cz7_ (w := w3) BK505
      go_wp2_with (first | ((with_reducible refine gate_callee (f := 44) rfl ?_); refine goesL_ (some 6) rfl rfl Tryd.func44 (by kernel_rfl) rfl #[.agg #[.int .u32 a0_0, .int .i64 a0_1]] rfl am_ ?_; (with_reducible refine (lodgerref04_May.calls k a0_0 a0_1 true _ A4.out).mono ?_); rintro e w16 ⟨rfl, hb⟩; refine ⟨_, rfl, ?_⟩; have n1_ := Aside0.mk (below_step (hB_ HB) hb); clear HB; have HB := n1_; replace BK505 := bB_ BK505 hb; clear n1_; (try clear hb); (try clear hb2); (try clear hk); (try clear hi); obtain ⟨hcz17_0, hcz17_1, hcz17_2, hcz17_3, hcz17_4, hcz17_5, hcz17_6, hfz17_0, hfz17_1, hfz17_2, hfz17_3, hfz17_4, hfz17_5, hfz17_6⟩ := cz7_ (w := w16) BK505))
      go_meet
      case rel => exact ⟨_, (true), rs_, H', ⟨by first | omega | exact Nat.le_refl _⟩, ⟨bk_ BK505⟩, ⟨hB_ HB⟩⟩
     ·rw [if_neg c14] at H
      have c14b0 : decide (64 < a0_3) = false := decide_eq_false c14
      clear c14
      by_cases c18 : a0_4 < 1
      ·rw [if_pos c18] at H
       have c18b0 : decide (a0_4 < 1) = true := decide_eq_true c18
       clear c18
       have H' := Aside0.mk H
       clear H; obtain ⟨hcz19_0, hcz19_1, hcz19_2, hcz19_3, hcz19_4, hcz19_5, hcz19_6, hfz19_0, hfz19_1, hfz19_2, hfz19_3, hfz19_4, hfz19_5, hfz19_6⟩ := cz7_ (w := w3) BK505
       go_wp2_with (first | ((with_reducible refine gate_callee (f := 44) rfl ?_); refine goesL_ (some 6) rfl rfl Tryd.func44 (by kernel_rfl) rfl #[.agg #[.int .u32 a0_0, .int .i64 a0_1]] rfl am_ ?_; (with_reducible refine (lodgerref04_May.calls k a0_0 a0_1 true _ A4.out).mono ?_); rintro e w20 ⟨rfl, hb⟩; refine ⟨_, rfl, ?_⟩; have n1_ := Aside0.mk (below_step (hB_ HB) hb); clear HB; have HB := n1_; replace BK505 := bB_ BK505 hb; clear n1_; (try clear hb); (try clear hb2); (try clear hk); (try clear hi); obtain ⟨hcz21_0, hcz21_1, hcz21_2, hcz21_3, hcz21_4, hcz21_5, hcz21_6, hfz21_0, hfz21_1, hfz21_2, hfz21_3, hfz21_4, hfz21_5, hfz21_6⟩ := cz7_ (w := w20) BK505))
       go_meet
       case rel => exact ⟨_, (true), rs_, H', ⟨by first | omega | exact Nat.le_refl _⟩, ⟨bk_ BK505⟩, ⟨hB_ HB⟩⟩
      ·rw [if_neg c18] at H
       have c18b0 : decide (a0_4 < 1) = false := decide_eq_false c18
       clear c18
       by_cases c22 : a0_4 > 64
       ·rw [if_pos c22] at H
        have c22b0 : decide (64 < a0_4) = true := decide_eq_true c22
        clear c22
        have H' := Aside0.mk H
        clear H; obtain ⟨hcz23_0, hcz23_1, hcz23_2, hcz23_3, hcz23_4, hcz23_5, hcz23_6, hfz23_0, hfz23_1, hfz23_2, hfz23_3, hfz23_4, hfz23_5, hfz23_6⟩ := cz7_ (w := w3) BK505
        go_wp2_with (first | ((with_reducible refine gate_callee (f := 44) rfl ?_); refine goesL_ (some 6) rfl rfl Tryd.func44 (by kernel_rfl) rfl #[.agg #[.int .u32 a0_0, .int .i64 a0_1]] rfl am_ ?_; (with_reducible refine (lodgerref04_May.calls k a0_0 a0_1 true _ A4.out).mono ?_); rintro e w24 ⟨rfl, hb⟩; refine ⟨_, rfl, ?_⟩; have n1_ := Aside0.mk (below_step (hB_ HB) hb); clear HB; have HB := n1_; replace BK505 := bB_ BK505 hb; clear n1_; (try clear hb); (try clear hb2); (try clear hk); (try clear hi); obtain ⟨hcz25_0, hcz25_1, hcz25_2, hcz25_3, hcz25_4, hcz25_5, hcz25_6, hfz25_0, hfz25_1, hfz25_2, hfz25_3, hfz25_4, hfz25_5, hfz25_6⟩ := cz7_ (w := w24) BK505))
        go_meet
        case rel => exact ⟨_, (true), rs_, H', ⟨by first | omega | exact Nat.le_refl _⟩, ⟨bk_ BK505⟩, ⟨hB_ HB⟩⟩
       ·rw [if_neg c22] at H
        have c22b0 : decide (64 < a0_4) = false := decide_eq_false c22
        clear c22
        by_cases c26 : a0_5 < 1
        ·rw [if_pos c26] at H
         have c26b0 : decide (a0_5 < 1) = true := decide_eq_true c26
         clear c26
         have H' := Aside0.mk H
         clear H; obtain ⟨hcz27_0, hcz27_1, hcz27_2, hcz27_3, hcz27_4, hcz27_5, hcz27_6, hfz27_0, hfz27_1, hfz27_2, hfz27_3, hfz27_4, hfz27_5, hfz27_6⟩ := cz7_ (w := w3) BK505
         go_wp2_with (first | ((with_reducible refine gate_callee (f := 44) rfl ?_); refine goesL_ (some 6) rfl rfl Tryd.func44 (by kernel_rfl) rfl #[.agg #[.int .u32 a0_0, .int .i64 a0_1]] rfl am_ ?_; (with_reducible refine (lodgerref04_May.calls k a0_0 a0_1 true _ A4.out).mono ?_); rintro e w28 ⟨rfl, hb⟩; refine ⟨_, rfl, ?_⟩; have n1_ := Aside0.mk (below_step (hB_ HB) hb); clear HB; have HB := n1_; replace BK505 := bB_ BK505 hb; clear n1_; (try clear hb); (try clear hb2); (try clear hk); (try clear hi); obtain ⟨hcz29_0, hcz29_1, hcz29_2, hcz29_3, hcz29_4, hcz29_5, hcz29_6, hfz29_0, hfz29_1, hfz29_2, hfz29_3, hfz29_4, hfz29_5, hfz29_6⟩ := cz7_ (w := w28) BK505))
         go_meet
         case rel => exact ⟨_, (true), rs_, H', ⟨by first | omega | exact Nat.le_refl _⟩, ⟨bk_ BK505⟩, ⟨hB_ HB⟩⟩
        ·rw [if_neg c26] at H
         have c26b0 : decide (a0_5 < 1) = false := decide_eq_false c26
         clear c26
         by_cases c30 : a0_5 > 64
         ·rw [if_pos c30] at H
          have c30b0 : decide (64 < a0_5) = true := decide_eq_true c30
          clear c30
          have H' := Aside0.mk H
          clear H; obtain ⟨hcz31_0, hcz31_1, hcz31_2, hcz31_3, hcz31_4, hcz31_5, hcz31_6, hfz31_0, hfz31_1, hfz31_2, hfz31_3, hfz31_4, hfz31_5, hfz31_6⟩ := cz7_ (w := w3) BK505
          go_wp2_with (first | ((with_reducible refine gate_callee (f := 44) rfl ?_); refine goesL_ (some 6) rfl rfl Tryd.func44 (by kernel_rfl) rfl #[.agg #[.int .u32 a0_0, .int .i64 a0_1]] rfl am_ ?_; (with_reducible refine (lodgerref04_May.calls k a0_0 a0_1 true _ A4.out).mono ?_); rintro e w32 ⟨rfl, hb⟩; refine ⟨_, rfl, ?_⟩; have n1_ := Aside0.mk (below_step (hB_ HB) hb); clear HB; have HB := n1_; replace BK505 := bB_ BK505 hb; clear n1_; (try clear hb); (try clear hb2); (try clear hk); (try clear hi); obtain ⟨hcz33_0, hcz33_1, hcz33_2, hcz33_3, hcz33_4, hcz33_5, hcz33_6, hfz33_0, hfz33_1, hfz33_2, hfz33_3, hfz33_4, hfz33_5, hfz33_6⟩ := cz7_ (w := w32) BK505))
          go_meet
          case rel => exact ⟨_, (true), rs_, H', ⟨by first | omega | exact Nat.le_refl _⟩, ⟨bk_ BK505⟩, ⟨hB_ HB⟩⟩
         ·rw [if_neg c30] at H
          have c30b0 : decide (64 < a0_5) = false := decide_eq_false c30
          clear c30
          by_cases c34 : a0_6 < 1
          ·rw [if_pos c34] at H
           have c34b0 : decide (a0_6 < 1) = true := decide_eq_true c34
           clear c34
           have H' := Aside0.mk H
           clear H; obtain ⟨hcz35_0, hcz35_1, hcz35_2, hcz35_3, hcz35_4, hcz35_5, hcz35_6, hfz35_0, hfz35_1, hfz35_2, hfz35_3, hfz35_4, hfz35_5, hfz35_6⟩ := cz7_ (w := w3) BK505
           go_wp2_with (first | ((with_reducible refine gate_callee (f := 44) rfl ?_); refine goesL_ (some 6) rfl rfl Tryd.func44 (by kernel_rfl) rfl #[.agg #[.int .u32 a0_0, .int .i64 a0_1]] rfl am_ ?_; (with_reducible refine (lodgerref04_May.calls k a0_0 a0_1 true _ A4.out).mono ?_); rintro e w36 ⟨rfl, hb⟩; refine ⟨_, rfl, ?_⟩; have n1_ := Aside0.mk (below_step (hB_ HB) hb); clear HB; have HB := n1_; replace BK505 := bB_ BK505 hb; clear n1_; (try clear hb); (try clear hb2); (try clear hk); (try clear hi); obtain ⟨hcz37_0, hcz37_1, hcz37_2, hcz37_3, hcz37_4, hcz37_5, hcz37_6, hfz37_0, hfz37_1, hfz37_2, hfz37_3, hfz37_4, hfz37_5, hfz37_6⟩ := cz7_ (w := w36) BK505))
           go_meet
           case rel => exact ⟨_, (true), rs_, H', ⟨by first | omega | exact Nat.le_refl _⟩, ⟨bk_ BK505⟩, ⟨hB_ HB⟩⟩
          ·rw [if_neg c34] at H
           have c34b0 : decide (a0_6 < 1) = false := decide_eq_false c34
           clear c34
           have H' := Aside0.mk H
           clear H; obtain ⟨hcz38_0, hcz38_1, hcz38_2, hcz38_3, hcz38_4, hcz38_5, hcz38_6, hfz38_0, hfz38_1, hfz38_2, hfz38_3, hfz38_4, hfz38_5, hfz38_6⟩ := cz7_ (w := w3) BK505
           go_wp2_with (first | ((with_reducible refine gate_callee (f := 44) rfl ?_); refine goesL_ (some 6) rfl rfl Tryd.func44 (by kernel_rfl) rfl #[.agg #[.int .u32 a0_0, .int .i64 a0_1]] rfl am_ ?_; (with_reducible refine (lodgerref04_May.calls k a0_0 a0_1 true _ A4.out).mono ?_); rintro e w39 ⟨rfl, hb⟩; refine ⟨_, rfl, ?_⟩; have n1_ := Aside0.mk (below_step (hB_ HB) hb); clear HB; have HB := n1_; replace BK505 := bB_ BK505 hb; clear n1_; (try clear hb); (try clear hb2); (try clear hk); (try clear hi); obtain ⟨hcz40_0, hcz40_1, hcz40_2, hcz40_3, hcz40_4, hcz40_5, hcz40_6, hfz40_0, hfz40_1, hfz40_2, hfz40_3, hfz40_4, hfz40_5, hfz40_6⟩ := cz7_ (w := w39) BK505))
           go_meet
           case rel => exact ⟨_, (decide (a0_6 > 8)), rs_, H', ⟨by first | omega | exact Nat.le_refl _⟩, ⟨bk_ BK505⟩, ⟨hB_ HB⟩⟩
  ·replace c5 := Bool.eq_false_iff.mpr c5
   subst c5
   have H1 : (lodgerref05_May.j0 k true a0_0 a0_1 l0_2 a0_3 a0_4 a0_5 a0_6) = some r := by rw [if_neg (show ¬ (false = true) by decide)] at H; exact H
   clear H; have H := H1; clear H1
   have H' := Aside0.mk H
   clear H; obtain ⟨hcz41_0, hcz41_1, hcz41_2, hcz41_3, hcz41_4, hcz41_5, hcz41_6, hfz41_0, hfz41_1, hfz41_2, hfz41_3, hfz41_4, hfz41_5, hfz41_6⟩ := cz7_ (w := w3) BK505
   go_wp2_with (first | ((with_reducible refine gate_callee (f := 44) rfl ?_); refine goesL_ (some 6) rfl rfl Tryd.func44 (by kernel_rfl) rfl #[.agg #[.int .u32 a0_0, .int .i64 a0_1]] rfl am_ ?_; (with_reducible refine (lodgerref04_May.calls k a0_0 a0_1 false _ A4.out).mono ?_); rintro e w42 ⟨rfl, hb⟩; refine ⟨_, rfl, ?_⟩; have n1_ := Aside0.mk (below_step (hB_ HB) hb); clear HB; have HB := n1_; replace BK505 := bB_ BK505 hb; clear n1_; (try clear hb); (try clear hb2); (try clear hk); (try clear hi)))
   go_meet
   case rel => exact ⟨_, (true), rs_, H', ⟨by first | omega | exact Nat.le_refl _⟩, ⟨bk_ BK505⟩, ⟨hB_ HB⟩⟩
 case rest =>
  clear HC2
  try clear c1
  try clear c2
  try clear p2
  try clear c3
  try clear c4
  try clear c5
  try clear c6
  try clear c6b0
  try clear c6b1
  try clear c10
  try clear c10b0
  try clear c14
  try clear c14b0
  try clear c18
  try clear c18b0
  try clear c22
  try clear c22b0
  try clear c26
  try clear c26b0
  try clear c29
  try clear c30
  try clear c30b0
  try clear c34
  try clear c34b0
  try clear hcz11_0 hcz11_1 hcz11_2 hcz11_3 hcz11_4 hcz11_5 hcz11_6
  try clear hcz13_0 hcz13_1 hcz13_2 hcz13_3 hcz13_4 hcz13_5 hcz13_6
  try clear hcz15_0 hcz15_1 hcz15_2 hcz15_3 hcz15_4 hcz15_5 hcz15_6
  try clear hcz17_0 hcz17_1 hcz17_2 hcz17_3 hcz17_4 hcz17_5 hcz17_6
  try clear hcz19_0 hcz19_1 hcz19_2 hcz19_3 hcz19_4 hcz19_5 hcz19_6
  try clear hcz21_0 hcz21_1 hcz21_2 hcz21_3 hcz21_4 hcz21_5 hcz21_6
  try clear hcz23_0 hcz23_1 hcz23_2 hcz23_3 hcz23_4 hcz23_5 hcz23_6
  try clear hcz25_0 hcz25_1 hcz25_2 hcz25_3 hcz25_4 hcz25_5 hcz25_6
  try clear hcz27_0 hcz27_1 hcz27_2 hcz27_3 hcz27_4 hcz27_5 hcz27_6
  try clear hcz29_0 hcz29_1 hcz29_2 hcz29_3 hcz29_4 hcz29_5 hcz29_6
  try clear hcz31_0 hcz31_1 hcz31_2 hcz31_3 hcz31_4 hcz31_5 hcz31_6
  try clear hcz33_0 hcz33_1 hcz33_2 hcz33_3 hcz33_4 hcz33_5 hcz33_6
  try clear hcz35_0 hcz35_1 hcz35_2 hcz35_3 hcz35_4 hcz35_5 hcz35_6
  try clear hcz37_0 hcz37_1 hcz37_2 hcz37_3 hcz37_4 hcz37_5 hcz37_6
  try clear hcz38_0 hcz38_1 hcz38_2 hcz38_3 hcz38_4 hcz38_5 hcz38_6
  try clear hcz40_0 hcz40_1 hcz40_2 hcz40_3 hcz40_4 hcz40_5 hcz40_6
  try clear hcz41_0 hcz41_1 hcz41_2 hcz41_3 hcz41_4 hcz41_5 hcz41_6
  try clear hcz7_0 hcz7_1 hcz7_2 hcz7_3 hcz7_4 hcz7_5 hcz7_6
  try clear hcz9_0 hcz9_1 hcz9_2 hcz9_3 hcz9_4 hcz9_5 hcz9_6
  try clear hfz11_0 hfz11_1 hfz11_2 hfz11_3 hfz11_4 hfz11_5 hfz11_6
  try clear hfz13_0 hfz13_1 hfz13_2 hfz13_3 hfz13_4 hfz13_5 hfz13_6
  try clear hfz15_0 hfz15_1 hfz15_2 hfz15_3 hfz15_4 hfz15_5 hfz15_6
  try clear hfz17_0 hfz17_1 hfz17_2 hfz17_3 hfz17_4 hfz17_5 hfz17_6
  try clear hfz19_0 hfz19_1 hfz19_2 hfz19_3 hfz19_4 hfz19_5 hfz19_6
  try clear hfz21_0 hfz21_1 hfz21_2 hfz21_3 hfz21_4 hfz21_5 hfz21_6
  try clear hfz23_0 hfz23_1 hfz23_2 hfz23_3 hfz23_4 hfz23_5 hfz23_6
  try clear hfz25_0 hfz25_1 hfz25_2 hfz25_3 hfz25_4 hfz25_5 hfz25_6
  try clear hfz27_0 hfz27_1 hfz27_2 hfz27_3 hfz27_4 hfz27_5 hfz27_6
  try clear hfz29_0 hfz29_1 hfz29_2 hfz29_3 hfz29_4 hfz29_5 hfz29_6
  try clear hfz31_0 hfz31_1 hfz31_2 hfz31_3 hfz31_4 hfz31_5 hfz31_6
  try clear hfz33_0 hfz33_1 hfz33_2 hfz33_3 hfz33_4 hfz33_5 hfz33_6
  try clear hfz35_0 hfz35_1 hfz35_2 hfz35_3 hfz35_4 hfz35_5 hfz35_6
  try clear hfz37_0 hfz37_1 hfz37_2 hfz37_3 hfz37_4 hfz37_5 hfz37_6
  try clear hfz38_0 hfz38_1 hfz38_2 hfz38_3 hfz38_4 hfz38_5 hfz38_6
  try clear hfz40_0 hfz40_1 hfz40_2 hfz40_3 hfz40_4 hfz40_5 hfz40_6
  try clear hfz41_0 hfz41_1 hfz41_2 hfz41_3 hfz41_4 hfz41_5 hfz41_6
  try clear hfz7_0 hfz7_1 hfz7_2 hfz7_3 hfz7_4 hfz7_5 hfz7_6
  try clear hfz9_0 hfz9_1 hfz9_2 hfz9_3 hfz9_4 hfz9_5 hfz9_6
  obtain ⟨kq, x53_1, rfl, HA, HJ1, BK505, HB⟩ := hcut
  cases kq with
  | zero => exact absurd HA.out (by simp [lodgerref05_May.j0])
  | succ kj1 =>
   have H := HA.out; clear HA; simp only [lodgerref05_May.j0] at H
   by_cases c43 : x53_1 = true
   ·subst c43
    have H1 : (some false) = some r := by rw [if_pos rfl] at H; exact H
    clear H; have H := H1; clear H1
    obtain rfl := Option.some.inj H
    go_wp2
    go_ret
    exact ⟨er_, hB_ HB⟩
   ·replace c43 := Bool.eq_false_iff.mpr c43
    subst c43
    have H1 : (lodgerref05_May.l0 kj1 0 a0_0 a0_1 l0_2 a0_3 a0_4 a0_5 a0_6) = some r := by rw [if_neg (show ¬ (false = true) by decide)] at H; exact H
    clear H; have H := H1; clear H1
    have H' := Aside0.mk H
    clear H
    go_wp2
    go_loopg [3] kj1 (fun kq v3 w' => ∃ (x3_2 : Int), v3 = .int .i64 x3_2 ∧ Aside0 (lodgerref05_May.l0 kq x3_2 a0_0 a0_1 l0_2 a0_3 a0_4 a0_5 a0_6 = some r) ∧ Aside0 (kq ≤ kj1) ∧ Aside0 (w'.heap[gb505]? = some (.cells #[.int .u32 a0_0, .int .i64 a0_1, (.slice A0_2 l0_2.length c0_2), .int .i64 a0_3, .int .i64 a0_4, .int .i64 a0_5, .int .i64 a0_6] 27 (0, 0))) ∧ Aside0 (Below w.heap.size w w'))
    case atStart => exact ⟨(0), rs_, H', ⟨Nat.le_refl _⟩, ⟨bk_ BK505⟩, ⟨hB_ HB⟩⟩
    case round =>
     clear H'
     try clear c1
     try clear c2
     try clear p2
     try clear c3
     try clear c4
     try clear c5
     try clear c6
     try clear c6b0
     try clear c6b1
     try clear c10
     try clear c10b0
     try clear c14
     try clear c14b0
     try clear c18
     try clear c18b0
     try clear c22
     try clear c22b0
     try clear c26
     try clear c26b0
     try clear c29
     try clear c30
     try clear c30b0
     try clear c34
     try clear c34b0
     try clear c43
     try clear hcz11_0 hcz11_1 hcz11_2 hcz11_3 hcz11_4 hcz11_5 hcz11_6
     try clear hcz13_0 hcz13_1 hcz13_2 hcz13_3 hcz13_4 hcz13_5 hcz13_6
     try clear hcz15_0 hcz15_1 hcz15_2 hcz15_3 hcz15_4 hcz15_5 hcz15_6
     try clear hcz17_0 hcz17_1 hcz17_2 hcz17_3 hcz17_4 hcz17_5 hcz17_6
     try clear hcz19_0 hcz19_1 hcz19_2 hcz19_3 hcz19_4 hcz19_5 hcz19_6
     try clear hcz21_0 hcz21_1 hcz21_2 hcz21_3 hcz21_4 hcz21_5 hcz21_6
     try clear hcz23_0 hcz23_1 hcz23_2 hcz23_3 hcz23_4 hcz23_5 hcz23_6
     try clear hcz25_0 hcz25_1 hcz25_2 hcz25_3 hcz25_4 hcz25_5 hcz25_6
     try clear hcz27_0 hcz27_1 hcz27_2 hcz27_3 hcz27_4 hcz27_5 hcz27_6
     try clear hcz29_0 hcz29_1 hcz29_2 hcz29_3 hcz29_4 hcz29_5 hcz29_6
     try clear hcz31_0 hcz31_1 hcz31_2 hcz31_3 hcz31_4 hcz31_5 hcz31_6
     try clear hcz33_0 hcz33_1 hcz33_2 hcz33_3 hcz33_4 hcz33_5 hcz33_6
     try clear hcz35_0 hcz35_1 hcz35_2 hcz35_3 hcz35_4 hcz35_5 hcz35_6
     try clear hcz37_0 hcz37_1 hcz37_2 hcz37_3 hcz37_4 hcz37_5 hcz37_6
     try clear hcz38_0 hcz38_1 hcz38_2 hcz38_3 hcz38_4 hcz38_5 hcz38_6
     try clear hcz40_0 hcz40_1 hcz40_2 hcz40_3 hcz40_4 hcz40_5 hcz40_6
     try clear hcz41_0 hcz41_1 hcz41_2 hcz41_3 hcz41_4 hcz41_5 hcz41_6
     try clear hcz7_0 hcz7_1 hcz7_2 hcz7_3 hcz7_4 hcz7_5 hcz7_6
     try clear hcz9_0 hcz9_1 hcz9_2 hcz9_3 hcz9_4 hcz9_5 hcz9_6
     try clear hfz11_0 hfz11_1 hfz11_2 hfz11_3 hfz11_4 hfz11_5 hfz11_6
     try clear hfz13_0 hfz13_1 hfz13_2 hfz13_3 hfz13_4 hfz13_5 hfz13_6
     try clear hfz15_0 hfz15_1 hfz15_2 hfz15_3 hfz15_4 hfz15_5 hfz15_6
     try clear hfz17_0 hfz17_1 hfz17_2 hfz17_3 hfz17_4 hfz17_5 hfz17_6
     try clear hfz19_0 hfz19_1 hfz19_2 hfz19_3 hfz19_4 hfz19_5 hfz19_6
     try clear hfz21_0 hfz21_1 hfz21_2 hfz21_3 hfz21_4 hfz21_5 hfz21_6
     try clear hfz23_0 hfz23_1 hfz23_2 hfz23_3 hfz23_4 hfz23_5 hfz23_6
     try clear hfz25_0 hfz25_1 hfz25_2 hfz25_3 hfz25_4 hfz25_5 hfz25_6
     try clear hfz27_0 hfz27_1 hfz27_2 hfz27_3 hfz27_4 hfz27_5 hfz27_6
     try clear hfz29_0 hfz29_1 hfz29_2 hfz29_3 hfz29_4 hfz29_5 hfz29_6
     try clear hfz31_0 hfz31_1 hfz31_2 hfz31_3 hfz31_4 hfz31_5 hfz31_6
     try clear hfz33_0 hfz33_1 hfz33_2 hfz33_3 hfz33_4 hfz33_5 hfz33_6
     try clear hfz35_0 hfz35_1 hfz35_2 hfz35_3 hfz35_4 hfz35_5 hfz35_6
     try clear hfz37_0 hfz37_1 hfz37_2 hfz37_3 hfz37_4 hfz37_5 hfz37_6
     try clear hfz38_0 hfz38_1 hfz38_2 hfz38_3 hfz38_4 hfz38_5 hfz38_6
     try clear hfz40_0 hfz40_1 hfz40_2 hfz40_3 hfz40_4 hfz40_5 hfz40_6
     try clear hfz41_0 hfz41_1 hfz41_2 hfz41_3 hfz41_4 hfz41_5 hfz41_6
     try clear hfz7_0 hfz7_1 hfz7_2 hfz7_3 hfz7_4 hfz7_5 hfz7_6
     try clear hfz9_0 hfz9_1 hfz9_2 hfz9_3 hfz9_4 hfz9_5 hfz9_6
     try clear p2
     obtain ⟨x3_2, rfl, HA, HK2, BK505, HB⟩ := hrel
     cases gk with
     | zero => exact absurd HA.out (by simp [lodgerref05_May.l0])
     | succ k2 =>
      have H := HA.out; clear HA; simp only [lodgerref05_May.l0] at H
      by_cases c44 : x3_2 < (l0_2.length : Int)
      ·rw [if_pos c44] at H
       have c44b0 : decide (x3_2 < (l0_2.length : Int)) = true := decide_eq_true c44
       clear c44
       by_cases c45 : 0 ≤ x3_2
       ·rw [if_pos c45] at H
        have c45b0 : decide (0 ≤ x3_2) = true := decide_eq_true c45
        clear c45
        by_cases c46 : (rd l0_2 x3_2) < 0
        ·rw [if_pos c46] at H
         have c46b0 : decide ((rd l0_2 x3_2) < 0) = true := decide_eq_true c46
         clear c46
         obtain rfl := Option.some.inj H
         obtain ⟨hcz47_0, hcz47_1, hcz47_2, hcz47_3, hcz47_4, hcz47_5, hcz47_6, hfz47_0, hfz47_1, hfz47_2, hfz47_3, hfz47_4, hfz47_5, hfz47_6⟩ := cz7_ (w := wr) BK505
         try go_wp2
         have n0_ := Aside0.mk (blk_drew BK505.out); have n1_ := Aside0.mk (below_drew1 HB.out); clear BK505; clear HB; have BK505 := n0_; have HB := n1_; clear n0_ n1_
         have p507 : 0 ≤ (x3_2 : Int) := od_
         have q507 : x3_2 < (l0_2.length : Int) := od_
         obtain ⟨ad507, e507, hx507_0⟩ := Kd.at_int HR0_2.out x3_2 p507 q507; have hw507_0 := hx507_0
         cases e507
         replace hx507_0 := (HB.out.cell (World.block_lt_of_cell? w _ hx507_0)).trans hx507_0; replace p507 := eq_true p507; replace q507 := eq_true q507
         refine start_ (n := 35) (S := fun w' => w'.cell? ⟨gb505, 0, none⟩ = some (.int .u32 a0_0) ∧ w'.cell? ⟨gb505, 1, none⟩ = some (.int .i64 a0_1) ∧ w'.cell? ⟨gb505, 2, none⟩ = some (.slice (some ad507) l0_2.length c0_2) ∧ w'.cell? ⟨gb505, 3, none⟩ = some (.int .i64 a0_3) ∧ w'.cell? ⟨gb505, 4, none⟩ = some (.int .i64 a0_4) ∧ w'.cell? ⟨gb505, 5, none⟩ = some (.int .i64 a0_5) ∧ w'.cell? ⟨gb505, 6, none⟩ = some (.int .i64 a0_6) ∧ w'.cell? (ad507.add (x3_2).toNat) = some (.int .i64 (rd l0_2 x3_2))) (ds := []) (tf 35 0) (by kernel_rfl) rfl rfl ⟨(blk_cell BK505.out 0).trans rfl, (blk_cell BK505.out 1).trans rfl, (blk_cell BK505.out 2).trans rfl, (blk_cell BK505.out 3).trans rfl, (blk_cell BK505.out 4).trans rfl, (blk_cell BK505.out 5).trans rfl, (blk_cell BK505.out 6).trans rfl, ((HB.out.cell (World.block_lt_of_cell? w _ hw507_0)).trans hw507_0)⟩ (fun hHeld => ?_); refine with_tabW lodgerref05_May.tab6 lodgerref05_May.bits6 (fun HT_ HW_ => ?_)
         generalize wr.drew = w48 at BK505 HB hx507_0 hHeld ⊢
         refine pu_ (i := 0) (N := some 61) (tf 35 1) HT_ ?_; refine pu_ (i := 2) (N := some 63) (tf 35 5) HT_ ?_; refine tk_ (i := 1) (N := some 62) (tf 35 7) rfl rfl HT_ HW_ hHeld (by rintro w' ⟨s0, s1, s2, s3, s4, s5, s6, s7⟩; go_simp; with_reducible rfl) ?_; refine pu_ (i := 3) (N := some 64) (tf 35 15) HT_ ?_; refine tk_ (i := 4) (N := some 65) (tf 35 31) rfl rfl HT_ HW_ hHeld (by rintro w' ⟨s0, s1, s2, s3, s4, s5, s6, s7⟩; go_simp; with_reducible rfl) ?_; refine pu_ (i := 5) (N := some 66) (tf 35 63) HT_ ?_; refine pu_ (i := 6) (N := some 67) (tf 35 127) HT_ ?_; refine pn_ (i := 7) (N := some 68) (tf 35 255) HT_ ?_; refine pn_ (i := 8) (N := some 69) (tf 35 511) HT_ ?_; refine pn_ (i := 9) (N := some 70) (tf 35 1023) HT_ ?_; refine pn_ (i := 10) (N := some 71) (tf 35 2047) HT_ ?_; refine pn_ (i := 11) (N := some 72) (tf 35 4095) HT_ ?_; refine pn_ (i := 12) (N := some 73) (tf 35 8191) HT_ ?_; refine pn_ (i := 13) (N := some 74) (tf 35 16383) HT_ ?_; refine pn_ (i := 14) (N := some 75) (tf 35 32767) HT_ ?_; refine pn_ (i := 15) (N := some 76) (tf 35 65535) HT_ ?_; refine pu_ (i := 16) (N := some 77) (tf 35 131071) HT_ ?_; refine pu_ (i := 17) (N := some 78) (tf 35 262143) HT_ ?_; refine pn_ (i := 18) (N := some 79) (tf 35 524287) HT_ ?_; refine pn_ (i := 19) (N := some 80) (tf 35 1048575) HT_ ?_; refine pn_ (i := 20) (N := some 81) (tf 35 2097151) HT_ ?_; refine pn_ (i := 21) (N := some 82) (tf 35 4194303) HT_ ?_; refine pn_ (i := 22) (N := some 83) (tf 35 8388607) HT_ ?_; refine pn_ (i := 23) (N := some 84) (tf 35 16777215) HT_ ?_; refine pn_ (i := 24) (N := some 85) (tf 35 33554431) HT_ ?_; refine pn_ (i := 25) (N := some 86) (tf 35 67108863) HT_ ?_; refine pn_ (i := 26) (N := some 87) (tf 35 134217727) HT_ ?_; refine pn_ (i := 27) (N := some 88) (tf 35 268435455) HT_ ?_; refine pn_ (i := 28) (N := some 89) (tf 35 536870911) HT_ ?_; refine pn_ (i := 29) (N := some 90) (tf 35 1073741823) HT_ ?_; refine pn_ (i := 30) (N := some 91) (tf 35 2147483647) HT_ ?_; refine pn_ (i := 31) (N := some 92) (tf 35 4294967295) HT_ ?_; refine pn_ (i := 32) (N := some 93) (tf 35 8589934591) HT_ ?_; refine pn_ (i := 33) (N := some 94) (tf 35 17179869183) HT_ ?_; refine pu_ (i := 34) (N := some 95) (tf 35 34359738367) HT_ ?_
         refine done_ (done_of HT_.out (by kernel_rfl)) ?_
         try go_wp2
         go_ret
         exact ⟨er_, hB_ HB⟩
        ·rw [if_neg c46] at H
         have c46b0 : decide ((rd l0_2 x3_2) < 0) = false := decide_eq_false c46
         clear c46; replace H := Option.bind_eq_some_iff.mp H; obtain ⟨t509, A490, H⟩ := H
         replace H : (if (rd l0_2 x3_2) ≥ t509 then (some false) else (if x3_2 > 0 then (if 0 ≤ (wrap64 (x3_2 - 1)) then (if (wrap64 (x3_2 - 1)) < (l0_2.length : Int) then (if (rd l0_2 x3_2) ≤ (rd l0_2 (wrap64 (x3_2 - 1))) then (some false) else (lodgerref05_May.l0 k2 (wrap64 (x3_2 + 1)) a0_0 a0_1 l0_2 a0_3 a0_4 a0_5 a0_6)) else (none)) else (none)) else (lodgerref05_May.l0 k2 (wrap64 (x3_2 + 1)) a0_0 a0_1 l0_2 a0_3 a0_4 a0_5 a0_6))) = some r := H
         have A49 := Aside0.mk A490; clear A490
         by_cases c50 : (rd l0_2 x3_2) ≥ t509
         ·rw [if_pos c50] at H
          have c50b0 : decide (t509 ≤ (rd l0_2 x3_2)) = true := decide_eq_true c50
          clear c50
          obtain rfl := Option.some.inj H
          obtain ⟨hcz51_0, hcz51_1, hcz51_2, hcz51_3, hcz51_4, hcz51_5, hcz51_6, hfz51_0, hfz51_1, hfz51_2, hfz51_3, hfz51_4, hfz51_5, hfz51_6⟩ := cz7_ (w := wr) BK505
          try go_wp2
          have n0_ := Aside0.mk (blk_drew BK505.out); have n1_ := Aside0.mk (below_drew1 HB.out); clear BK505; clear HB; have BK505 := n0_; have HB := n1_; clear n0_ n1_
          have p507 : 0 ≤ (x3_2 : Int) := od_
          have q507 : x3_2 < (l0_2.length : Int) := od_
          obtain ⟨ad507, e507, hx507_0⟩ := Kd.at_int HR0_2.out x3_2 p507 q507; have hw507_0 := hx507_0
          cases e507
          replace hx507_0 := (HB.out.cell (World.block_lt_of_cell? w _ hx507_0)).trans hx507_0; replace p507 := eq_true p507; replace q507 := eq_true q507
          have p508 : 0 ≤ (x3_2 : Int) := od_
          have q508 : x3_2 < (l0_2.length : Int) := od_
          obtain ⟨ad508, e508, hx508_0⟩ := Kd.at_int HR0_2.out x3_2 p508 q508; have hw508_0 := hx508_0
          obtain rfl : ad507 = ad508 := (by injection e508)
          replace hx508_0 := (HB.out.cell (World.block_lt_of_cell? w _ hx508_0)).trans hx508_0; replace p508 := eq_true p508; replace q508 := eq_true q508
          refine start_ (n := 35) (S := fun w' => w'.cell? ⟨gb505, 0, none⟩ = some (.int .u32 a0_0) ∧ w'.cell? ⟨gb505, 1, none⟩ = some (.int .i64 a0_1) ∧ w'.cell? ⟨gb505, 2, none⟩ = some (.slice (some ad507) l0_2.length c0_2) ∧ w'.cell? ⟨gb505, 3, none⟩ = some (.int .i64 a0_3) ∧ w'.cell? ⟨gb505, 4, none⟩ = some (.int .i64 a0_4) ∧ w'.cell? ⟨gb505, 5, none⟩ = some (.int .i64 a0_5) ∧ w'.cell? ⟨gb505, 6, none⟩ = some (.int .i64 a0_6) ∧ w'.cell? (ad507.add (x3_2).toNat) = some (.int .i64 (rd l0_2 x3_2)) ∧ w'.cell? (ad507.add (x3_2).toNat) = some (.int .i64 (rd l0_2 x3_2))) (ds := []) (tf 35 0) (by kernel_rfl) rfl rfl ⟨(blk_cell BK505.out 0).trans rfl, (blk_cell BK505.out 1).trans rfl, (blk_cell BK505.out 2).trans rfl, (blk_cell BK505.out 3).trans rfl, (blk_cell BK505.out 4).trans rfl, (blk_cell BK505.out 5).trans rfl, (blk_cell BK505.out 6).trans rfl, ((HB.out.cell (World.block_lt_of_cell? w _ hw507_0)).trans hw507_0), ((HB.out.cell (World.block_lt_of_cell? w _ hw508_0)).trans hw508_0)⟩ (fun hHeld => ?_); refine with_tabW lodgerref05_May.tab6 lodgerref05_May.bits6 (fun HT_ HW_ => ?_)
          generalize wr.drew = w52 at BK505 HB hx507_0 hx508_0 hHeld ⊢
          refine pu_ (i := 0) (N := some 61) (tf 35 1) HT_ ?_; refine pu_ (i := 2) (N := some 63) (tf 35 5) HT_ ?_; refine tk_ (i := 1) (N := some 62) (tf 35 7) rfl rfl HT_ HW_ hHeld (by rintro w' ⟨s0, s1, s2, s3, s4, s5, s6, s7, s8⟩; go_simp; with_reducible rfl) ?_; refine pu_ (i := 3) (N := some 64) (tf 35 15) HT_ ?_; refine tk_ (i := 4) (N := some 65) (tf 35 31) rfl rfl HT_ HW_ hHeld (by rintro w' ⟨s0, s1, s2, s3, s4, s5, s6, s7, s8⟩; go_simp; with_reducible rfl) ?_; refine pu_ (i := 5) (N := some 66) (tf 35 63) HT_ ?_; refine pu_ (i := 6) (N := some 67) (tf 35 127) HT_ ?_; refine pu_ (i := 7) (N := some 68) (tf 35 255) HT_ ?_; refine pu_ (i := 9) (N := some 70) (tf 35 767) HT_ ?_; refine pu_ (i := 12) (N := some 73) (tf 35 4863) HT_ ?_; refine tk_ (i := 8) (N := some 69) (tf 35 5119) rfl rfl HT_ HW_ hHeld (by rintro w' ⟨s0, s1, s2, s3, s4, s5, s6, s7, s8⟩; go_simp; with_reducible rfl) ?_; refine pu_ (i := 10) (N := some 71) (tf 35 6143) HT_ ?_; refine tk_ (i := 11) (N := some 72) (tf 35 8191) rfl rfl HT_ HW_ hHeld (by rintro w' ⟨s0, s1, s2, s3, s4, s5, s6, s7, s8⟩; go_simp; with_reducible rfl) ?_; refine tk_ (i := 13) (N := some 74) (tf 35 16383) rfl rfl HT_ HW_ hHeld (by rintro w' ⟨s0, s1, s2, s3, s4, s5, s6, s7, s8⟩; go_simp; with_reducible rfl) ?_
          refine one_ (i := 14) (N := some 75) (tf 35 32767) rfl rfl (one_of HT_.out (by kernel_rfl)) (by decide) (fun K hK => ?_)
          refine goes_ Tryd.func30 (by kernel_rfl) rfl #[.agg #[.int .u32 a0_0, .int .i64 a0_1]] (by rfl) rfl rfl am_ ?_
          with_reducible refine (lodgerref05_Many.calls k2 a0_0 a0_1 t509 _ A49.out).mono ?_
          rintro e w53 ⟨rfl, hb⟩
          refine ⟨_, rfl, ?_⟩
          have n0_ := bB_ BK505 hb; have n1_ := Aside0.mk (below_step (hB_ HB) hb); clear BK505; clear HB; have BK505 := n0_; have HB := n1_; clear n0_ n1_
          (try clear hb)
          (try clear hb2)
          (try clear hk)
          (try clear hi)
          refine hK.out _ _ ⟨(blk_cell BK505.out 0).trans rfl, (blk_cell BK505.out 1).trans rfl, (blk_cell BK505.out 2).trans rfl, (blk_cell BK505.out 3).trans rfl, (blk_cell BK505.out 4).trans rfl, (blk_cell BK505.out 5).trans rfl, (blk_cell BK505.out 6).trans rfl, ((HB.out.cell (World.block_lt_of_cell? w _ hw507_0)).trans hw507_0), ((HB.out.cell (World.block_lt_of_cell? w _ hw508_0)).trans hw508_0)⟩ (fun hHeld => ?_)
          clear hK K
          refine norm_ (a' := ?_) ?_ ?_
          rotate_left
          ·show Act.put _ (some 75) _ = _
           simp only [Act.put, List.setIfInBounds_toArray, List.set_cons_zero, List.set_cons_succ, i64_w, i32_w]
           rfl
          refine pu_ (i := 15) (N := some 76) (tf 35 65535) HT_ ?_; refine pu_ (i := 16) (N := some 77) (tf 35 131071) HT_ ?_; refine pu_ (i := 17) (N := some 78) (tf 35 262143) HT_ ?_; refine pn_ (i := 18) (N := some 79) (tf 35 524287) HT_ ?_; refine pn_ (i := 19) (N := some 80) (tf 35 1048575) HT_ ?_; refine pn_ (i := 20) (N := some 81) (tf 35 2097151) HT_ ?_; refine pn_ (i := 21) (N := some 82) (tf 35 4194303) HT_ ?_; refine pn_ (i := 22) (N := some 83) (tf 35 8388607) HT_ ?_; refine pn_ (i := 23) (N := some 84) (tf 35 16777215) HT_ ?_; refine pn_ (i := 24) (N := some 85) (tf 35 33554431) HT_ ?_; refine pn_ (i := 25) (N := some 86) (tf 35 67108863) HT_ ?_; refine pn_ (i := 26) (N := some 87) (tf 35 134217727) HT_ ?_; refine pn_ (i := 27) (N := some 88) (tf 35 268435455) HT_ ?_; refine pn_ (i := 28) (N := some 89) (tf 35 536870911) HT_ ?_; refine pn_ (i := 29) (N := some 90) (tf 35 1073741823) HT_ ?_; refine pn_ (i := 30) (N := some 91) (tf 35 2147483647) HT_ ?_; refine pn_ (i := 31) (N := some 92) (tf 35 4294967295) HT_ ?_; refine pn_ (i := 32) (N := some 93) (tf 35 8589934591) HT_ ?_; refine pn_ (i := 33) (N := some 94) (tf 35 17179869183) HT_ ?_; refine pu_ (i := 34) (N := some 95) (tf 35 34359738367) HT_ ?_
          refine done_ (done_of HT_.out (by kernel_rfl)) ?_
          try go_wp2
          go_ret
          exact ⟨er_, hB_ HB⟩
         ·rw [if_neg c50] at H
          have c50b0 : decide (t509 ≤ (rd l0_2 x3_2)) = false := decide_eq_false c50
          clear c50
          by_cases c54 : x3_2 > 0
          ·rw [if_pos c54] at H
           have c54b0 : decide (0 < x3_2) = true := decide_eq_true c54
           clear c54; obtain ⟨ji55, hji55⟩ : ∃ j_ : Int, (wrap64 (x3_2 - 1)) = j_ := ⟨_, rfl⟩
           replace H : (if 0 ≤ (ji55) then (if (ji55) < (l0_2.length : Int) then (if (rd l0_2 x3_2) ≤ (rd l0_2 (ji55)) then (some false) else (lodgerref05_May.l0 k2 (wrap64 (x3_2 + 1)) a0_0 a0_1 l0_2 a0_3 a0_4 a0_5 a0_6)) else (none)) else (none)) = some r := by first | (rw [hji55] at H; exact H) | (simp only [hji55] at H ⊢; exact H)
           (try rw [hji55] at A49)
           have hji55w : (IntKind.i64.wrap (x3_2 - 1)) = ji55 := (i64_w _).trans hji55
           by_cases c56 : 0 ≤ (ji55)
           ·rw [if_pos c56] at H
            have c56b0 : decide (0 ≤ (ji55)) = true := decide_eq_true c56
            clear c56
            by_cases c57 : (ji55) < (l0_2.length : Int)
            ·rw [if_pos c57] at H
             have c57b0 : decide ((ji55) < (l0_2.length : Int)) = true := decide_eq_true c57
             clear c57
             by_cases c58 : (rd l0_2 x3_2) ≤ (rd l0_2 (ji55))
             ·rw [if_pos c58] at H
              have c58b0 : decide ((rd l0_2 x3_2) ≤ (rd l0_2 (ji55))) = true := decide_eq_true c58
              clear c58
              obtain rfl := Option.some.inj H
              obtain ⟨hcz59_0, hcz59_1, hcz59_2, hcz59_3, hcz59_4, hcz59_5, hcz59_6, hfz59_0, hfz59_1, hfz59_2, hfz59_3, hfz59_4, hfz59_5, hfz59_6⟩ := cz7_ (w := wr) BK505
              try go_wp2
              have n0_ := Aside0.mk (blk_drew BK505.out); have n1_ := Aside0.mk (below_drew1 HB.out); clear BK505; clear HB; have BK505 := n0_; have HB := n1_; clear n0_ n1_
              have p507 : 0 ≤ (x3_2 : Int) := od_
              have q507 : x3_2 < (l0_2.length : Int) := od_
              obtain ⟨ad507, e507, hx507_0⟩ := Kd.at_int HR0_2.out x3_2 p507 q507; have hw507_0 := hx507_0
              cases e507
              replace hx507_0 := (HB.out.cell (World.block_lt_of_cell? w _ hx507_0)).trans hx507_0; replace p507 := eq_true p507; replace q507 := eq_true q507
              have p508 : 0 ≤ (x3_2 : Int) := od_
              have q508 : x3_2 < (l0_2.length : Int) := od_
              obtain ⟨ad508, e508, hx508_0⟩ := Kd.at_int HR0_2.out x3_2 p508 q508; have hw508_0 := hx508_0
              obtain rfl : ad507 = ad508 := (by injection e508)
              replace hx508_0 := (HB.out.cell (World.block_lt_of_cell? w _ hx508_0)).trans hx508_0; replace p508 := eq_true p508; replace q508 := eq_true q508
              have p510 : 0 ≤ (x3_2 : Int) := od_
              have q510 : x3_2 < (l0_2.length : Int) := od_
              obtain ⟨ad510, e510, hx510_0⟩ := Kd.at_int HR0_2.out x3_2 p510 q510; have hw510_0 := hx510_0
              obtain rfl : ad507 = ad510 := (by injection e510)
              replace hx510_0 := (HB.out.cell (World.block_lt_of_cell? w _ hx510_0)).trans hx510_0; replace p510 := eq_true p510; replace q510 := eq_true q510
              have p511 : 0 ≤ ((ji55) : Int) := od_
              have q511 : (ji55) < (l0_2.length : Int) := od_
              obtain ⟨ad511, e511, hx511_0⟩ := Kd.at_int HR0_2.out (ji55) p511 q511; have hw511_0 := hx511_0
              obtain rfl : ad507 = ad511 := (by injection e511)
              replace hx511_0 := (HB.out.cell (World.block_lt_of_cell? w _ hx511_0)).trans hx511_0; replace p511 := eq_true p511; replace q511 := eq_true q511
              refine start_ (n := 35) (S := fun w' => w'.cell? ⟨gb505, 0, none⟩ = some (.int .u32 a0_0) ∧ w'.cell? ⟨gb505, 1, none⟩ = some (.int .i64 a0_1) ∧ w'.cell? ⟨gb505, 2, none⟩ = some (.slice (some ad507) l0_2.length c0_2) ∧ w'.cell? ⟨gb505, 3, none⟩ = some (.int .i64 a0_3) ∧ w'.cell? ⟨gb505, 4, none⟩ = some (.int .i64 a0_4) ∧ w'.cell? ⟨gb505, 5, none⟩ = some (.int .i64 a0_5) ∧ w'.cell? ⟨gb505, 6, none⟩ = some (.int .i64 a0_6) ∧ w'.cell? (ad507.add (x3_2).toNat) = some (.int .i64 (rd l0_2 x3_2)) ∧ w'.cell? (ad507.add (x3_2).toNat) = some (.int .i64 (rd l0_2 x3_2)) ∧ w'.cell? (ad507.add (x3_2).toNat) = some (.int .i64 (rd l0_2 x3_2)) ∧ w'.cell? (ad507.add ((ji55)).toNat) = some (.int .i64 (rd l0_2 (ji55)))) (ds := []) (tf 35 0) (by kernel_rfl) rfl rfl ⟨(blk_cell BK505.out 0).trans rfl, (blk_cell BK505.out 1).trans rfl, (blk_cell BK505.out 2).trans rfl, (blk_cell BK505.out 3).trans rfl, (blk_cell BK505.out 4).trans rfl, (blk_cell BK505.out 5).trans rfl, (blk_cell BK505.out 6).trans rfl, ((HB.out.cell (World.block_lt_of_cell? w _ hw507_0)).trans hw507_0), ((HB.out.cell (World.block_lt_of_cell? w _ hw508_0)).trans hw508_0), ((HB.out.cell (World.block_lt_of_cell? w _ hw510_0)).trans hw510_0), ((HB.out.cell (World.block_lt_of_cell? w _ hw511_0)).trans hw511_0)⟩ (fun hHeld => ?_); refine with_tabW lodgerref05_May.tab6 lodgerref05_May.bits6 (fun HT_ HW_ => ?_)
              generalize wr.drew = w60 at BK505 HB hx507_0 hx508_0 hx510_0 hx511_0 hHeld ⊢
              refine pu_ (i := 0) (N := some 61) (tf 35 1) HT_ ?_; refine pu_ (i := 2) (N := some 63) (tf 35 5) HT_ ?_; refine tk_ (i := 1) (N := some 62) (tf 35 7) rfl rfl HT_ HW_ hHeld (by rintro w' ⟨s0, s1, s2, s3, s4, s5, s6, s7, s8, s9, s10⟩; go_simp; with_reducible rfl) ?_; refine pu_ (i := 3) (N := some 64) (tf 35 15) HT_ ?_; refine tk_ (i := 4) (N := some 65) (tf 35 31) rfl rfl HT_ HW_ hHeld (by rintro w' ⟨s0, s1, s2, s3, s4, s5, s6, s7, s8, s9, s10⟩; go_simp; with_reducible rfl) ?_; refine pu_ (i := 5) (N := some 66) (tf 35 63) HT_ ?_; refine pu_ (i := 6) (N := some 67) (tf 35 127) HT_ ?_; refine pu_ (i := 7) (N := some 68) (tf 35 255) HT_ ?_; refine pu_ (i := 9) (N := some 70) (tf 35 767) HT_ ?_; refine pu_ (i := 12) (N := some 73) (tf 35 4863) HT_ ?_; refine tk_ (i := 8) (N := some 69) (tf 35 5119) rfl rfl HT_ HW_ hHeld (by rintro w' ⟨s0, s1, s2, s3, s4, s5, s6, s7, s8, s9, s10⟩; go_simp; with_reducible rfl) ?_; refine pu_ (i := 10) (N := some 71) (tf 35 6143) HT_ ?_; refine tk_ (i := 11) (N := some 72) (tf 35 8191) rfl rfl HT_ HW_ hHeld (by rintro w' ⟨s0, s1, s2, s3, s4, s5, s6, s7, s8, s9, s10⟩; go_simp; with_reducible rfl) ?_; refine tk_ (i := 13) (N := some 74) (tf 35 16383) rfl rfl HT_ HW_ hHeld (by rintro w' ⟨s0, s1, s2, s3, s4, s5, s6, s7, s8, s9, s10⟩; go_simp; with_reducible rfl) ?_
              refine one_ (i := 14) (N := some 75) (tf 35 32767) rfl rfl (one_of HT_.out (by kernel_rfl)) (by decide) (fun K hK => ?_)
              refine goes_ Tryd.func30 (by kernel_rfl) rfl #[.agg #[.int .u32 a0_0, .int .i64 a0_1]] (by rfl) rfl rfl am_ ?_
              with_reducible refine (lodgerref05_Many.calls k2 a0_0 a0_1 t509 _ A49.out).mono ?_
              rintro e w61 ⟨rfl, hb⟩
              refine ⟨_, rfl, ?_⟩
              have n0_ := bB_ BK505 hb; have n1_ := Aside0.mk (below_step (hB_ HB) hb); clear BK505; clear HB; have BK505 := n0_; have HB := n1_; clear n0_ n1_
              (try clear hb)
              (try clear hb2)
              (try clear hk)
              (try clear hi)
              refine hK.out _ _ ⟨(blk_cell BK505.out 0).trans rfl, (blk_cell BK505.out 1).trans rfl, (blk_cell BK505.out 2).trans rfl, (blk_cell BK505.out 3).trans rfl, (blk_cell BK505.out 4).trans rfl, (blk_cell BK505.out 5).trans rfl, (blk_cell BK505.out 6).trans rfl, ((HB.out.cell (World.block_lt_of_cell? w _ hw507_0)).trans hw507_0), ((HB.out.cell (World.block_lt_of_cell? w _ hw508_0)).trans hw508_0), ((HB.out.cell (World.block_lt_of_cell? w _ hw510_0)).trans hw510_0), ((HB.out.cell (World.block_lt_of_cell? w _ hw511_0)).trans hw511_0)⟩ (fun hHeld => ?_)
              clear hK K
              refine norm_ (a' := ?_) ?_ ?_
              rotate_left
              ·show Act.put _ (some 75) _ = _
               simp only [Act.put, List.setIfInBounds_toArray, List.set_cons_zero, List.set_cons_succ, i64_w, i32_w]
               rfl
              refine pu_ (i := 15) (N := some 76) (tf 35 65535) HT_ ?_; refine pu_ (i := 16) (N := some 77) (tf 35 131071) HT_ ?_; refine pu_ (i := 17) (N := some 78) (tf 35 262143) HT_ ?_; refine pu_ (i := 18) (N := some 79) (tf 35 524287) HT_ ?_; refine pu_ (i := 19) (N := some 80) (tf 35 1048575) HT_ ?_; refine pu_ (i := 20) (N := some 81) (tf 35 2097151) HT_ ?_; refine pu_ (i := 21) (N := some 82) (tf 35 4194303) HT_ ?_; refine pu_ (i := 23) (N := some 84) (tf 35 12582911) HT_ ?_; refine pu_ (i := 26) (N := some 87) (tf 35 79691775) HT_ ?_; refine pu_ (i := 28) (N := some 89) (tf 35 348127231) HT_ ?_; refine pu_ (i := 29) (N := some 90) (tf 35 884998143) HT_ ?_; refine tk_ (i := 22) (N := some 83) (tf 35 889192447) rfl rfl HT_ HW_ hHeld (by rintro w' ⟨s0, s1, s2, s3, s4, s5, s6, s7, s8, s9, s10⟩; go_simp; with_reducible rfl) ?_; refine pu_ (i := 24) (N := some 85) (tf 35 905969663) HT_ ?_; refine tk_ (i := 25) (N := some 86) (tf 35 939524095) rfl rfl HT_ HW_ hHeld (by rintro w' ⟨s0, s1, s2, s3, s4, s5, s6, s7, s8, s9, s10⟩; go_simp; with_reducible rfl) ?_; refine tk_ (i := 27) (N := some 88) (tf 35 1073741823) rfl rfl HT_ HW_ hHeld (by rintro w' ⟨s0, s1, s2, s3, s4, s5, s6, s7, s8, s9, s10⟩; go_simp; with_reducible rfl) ?_; refine pu_ (i := 30) (N := some 91) (tf 35 2147483647) HT_ ?_; refine tk_ (i := 31) (N := some 92) (tf 35 4294967295) rfl rfl HT_ HW_ hHeld (by rintro w' ⟨s0, s1, s2, s3, s4, s5, s6, s7, s8, s9, s10⟩; go_simp; with_reducible rfl) ?_; refine pu_ (i := 32) (N := some 93) (tf 35 8589934591) HT_ ?_; refine pu_ (i := 33) (N := some 94) (tf 35 17179869183) HT_ ?_; refine pu_ (i := 34) (N := some 95) (tf 35 34359738367) HT_ ?_
              refine done_ (done_of HT_.out (by kernel_rfl)) ?_
              try go_wp2
              go_ret
              exact ⟨by first | rfl | (simp [errW_none, errW_some] <;> rfl) | (simp only [← hji55]; first | rfl | (simp [errW_none, errW_some] <;> rfl)) | (simp [*, errW_none, errW_some] <;> rfl), hB_ HB⟩
             ·rw [if_neg c58] at H
              have c58b0 : decide ((rd l0_2 x3_2) ≤ (rd l0_2 (ji55))) = false := decide_eq_false c58
              clear c58
              have H' := Aside0.mk H
              clear H; obtain ⟨hcz62_0, hcz62_1, hcz62_2, hcz62_3, hcz62_4, hcz62_5, hcz62_6, hfz62_0, hfz62_1, hfz62_2, hfz62_3, hfz62_4, hfz62_5, hfz62_6⟩ := cz7_ (w := wr) BK505
              try go_wp2
              have n0_ := Aside0.mk (blk_drew BK505.out); have n1_ := Aside0.mk (below_drew1 HB.out); clear BK505; clear HB; have BK505 := n0_; have HB := n1_; clear n0_ n1_
              have p507 : 0 ≤ (x3_2 : Int) := od_
              have q507 : x3_2 < (l0_2.length : Int) := od_
              obtain ⟨ad507, e507, hx507_0⟩ := Kd.at_int HR0_2.out x3_2 p507 q507; have hw507_0 := hx507_0
              cases e507
              replace hx507_0 := (HB.out.cell (World.block_lt_of_cell? w _ hx507_0)).trans hx507_0; replace p507 := eq_true p507; replace q507 := eq_true q507
              have p508 : 0 ≤ (x3_2 : Int) := od_
              have q508 : x3_2 < (l0_2.length : Int) := od_
              obtain ⟨ad508, e508, hx508_0⟩ := Kd.at_int HR0_2.out x3_2 p508 q508; have hw508_0 := hx508_0
              obtain rfl : ad507 = ad508 := (by injection e508)
              replace hx508_0 := (HB.out.cell (World.block_lt_of_cell? w _ hx508_0)).trans hx508_0; replace p508 := eq_true p508; replace q508 := eq_true q508
              have p510 : 0 ≤ (x3_2 : Int) := od_
              have q510 : x3_2 < (l0_2.length : Int) := od_
              obtain ⟨ad510, e510, hx510_0⟩ := Kd.at_int HR0_2.out x3_2 p510 q510; have hw510_0 := hx510_0
              obtain rfl : ad507 = ad510 := (by injection e510)
              replace hx510_0 := (HB.out.cell (World.block_lt_of_cell? w _ hx510_0)).trans hx510_0; replace p510 := eq_true p510; replace q510 := eq_true q510
              have p511 : 0 ≤ ((ji55) : Int) := od_
              have q511 : (ji55) < (l0_2.length : Int) := od_
              obtain ⟨ad511, e511, hx511_0⟩ := Kd.at_int HR0_2.out (ji55) p511 q511; have hw511_0 := hx511_0
              obtain rfl : ad507 = ad511 := (by injection e511)
              replace hx511_0 := (HB.out.cell (World.block_lt_of_cell? w _ hx511_0)).trans hx511_0; replace p511 := eq_true p511; replace q511 := eq_true q511
              refine start_ (n := 35) (S := fun w' => w'.cell? ⟨gb505, 0, none⟩ = some (.int .u32 a0_0) ∧ w'.cell? ⟨gb505, 1, none⟩ = some (.int .i64 a0_1) ∧ w'.cell? ⟨gb505, 2, none⟩ = some (.slice (some ad507) l0_2.length c0_2) ∧ w'.cell? ⟨gb505, 3, none⟩ = some (.int .i64 a0_3) ∧ w'.cell? ⟨gb505, 4, none⟩ = some (.int .i64 a0_4) ∧ w'.cell? ⟨gb505, 5, none⟩ = some (.int .i64 a0_5) ∧ w'.cell? ⟨gb505, 6, none⟩ = some (.int .i64 a0_6) ∧ w'.cell? (ad507.add (x3_2).toNat) = some (.int .i64 (rd l0_2 x3_2)) ∧ w'.cell? (ad507.add (x3_2).toNat) = some (.int .i64 (rd l0_2 x3_2)) ∧ w'.cell? (ad507.add (x3_2).toNat) = some (.int .i64 (rd l0_2 x3_2)) ∧ w'.cell? (ad507.add ((ji55)).toNat) = some (.int .i64 (rd l0_2 (ji55)))) (ds := []) (tf 35 0) (by kernel_rfl) rfl rfl ⟨(blk_cell BK505.out 0).trans rfl, (blk_cell BK505.out 1).trans rfl, (blk_cell BK505.out 2).trans rfl, (blk_cell BK505.out 3).trans rfl, (blk_cell BK505.out 4).trans rfl, (blk_cell BK505.out 5).trans rfl, (blk_cell BK505.out 6).trans rfl, ((HB.out.cell (World.block_lt_of_cell? w _ hw507_0)).trans hw507_0), ((HB.out.cell (World.block_lt_of_cell? w _ hw508_0)).trans hw508_0), ((HB.out.cell (World.block_lt_of_cell? w _ hw510_0)).trans hw510_0), ((HB.out.cell (World.block_lt_of_cell? w _ hw511_0)).trans hw511_0)⟩ (fun hHeld => ?_); refine with_tabW lodgerref05_May.tab6 lodgerref05_May.bits6 (fun HT_ HW_ => ?_)
              generalize wr.drew = w63 at BK505 HB hx507_0 hx508_0 hx510_0 hx511_0 hHeld ⊢
              refine pu_ (i := 0) (N := some 61) (tf 35 1) HT_ ?_; refine pu_ (i := 2) (N := some 63) (tf 35 5) HT_ ?_; refine tk_ (i := 1) (N := some 62) (tf 35 7) rfl rfl HT_ HW_ hHeld (by rintro w' ⟨s0, s1, s2, s3, s4, s5, s6, s7, s8, s9, s10⟩; go_simp; with_reducible rfl) ?_; refine pu_ (i := 3) (N := some 64) (tf 35 15) HT_ ?_; refine tk_ (i := 4) (N := some 65) (tf 35 31) rfl rfl HT_ HW_ hHeld (by rintro w' ⟨s0, s1, s2, s3, s4, s5, s6, s7, s8, s9, s10⟩; go_simp; with_reducible rfl) ?_; refine pu_ (i := 5) (N := some 66) (tf 35 63) HT_ ?_; refine pu_ (i := 6) (N := some 67) (tf 35 127) HT_ ?_; refine pu_ (i := 7) (N := some 68) (tf 35 255) HT_ ?_; refine pu_ (i := 9) (N := some 70) (tf 35 767) HT_ ?_; refine pu_ (i := 12) (N := some 73) (tf 35 4863) HT_ ?_; refine tk_ (i := 8) (N := some 69) (tf 35 5119) rfl rfl HT_ HW_ hHeld (by rintro w' ⟨s0, s1, s2, s3, s4, s5, s6, s7, s8, s9, s10⟩; go_simp; with_reducible rfl) ?_; refine pu_ (i := 10) (N := some 71) (tf 35 6143) HT_ ?_; refine tk_ (i := 11) (N := some 72) (tf 35 8191) rfl rfl HT_ HW_ hHeld (by rintro w' ⟨s0, s1, s2, s3, s4, s5, s6, s7, s8, s9, s10⟩; go_simp; with_reducible rfl) ?_; refine tk_ (i := 13) (N := some 74) (tf 35 16383) rfl rfl HT_ HW_ hHeld (by rintro w' ⟨s0, s1, s2, s3, s4, s5, s6, s7, s8, s9, s10⟩; go_simp; with_reducible rfl) ?_
              refine one_ (i := 14) (N := some 75) (tf 35 32767) rfl rfl (one_of HT_.out (by kernel_rfl)) (by decide) (fun K hK => ?_)
              refine goes_ Tryd.func30 (by kernel_rfl) rfl #[.agg #[.int .u32 a0_0, .int .i64 a0_1]] (by rfl) rfl rfl am_ ?_
              with_reducible refine (lodgerref05_Many.calls k2 a0_0 a0_1 t509 _ A49.out).mono ?_
              rintro e w64 ⟨rfl, hb⟩
              refine ⟨_, rfl, ?_⟩
              have n0_ := bB_ BK505 hb; have n1_ := Aside0.mk (below_step (hB_ HB) hb); clear BK505; clear HB; have BK505 := n0_; have HB := n1_; clear n0_ n1_
              (try clear hb)
              (try clear hb2)
              (try clear hk)
              (try clear hi)
              refine hK.out _ _ ⟨(blk_cell BK505.out 0).trans rfl, (blk_cell BK505.out 1).trans rfl, (blk_cell BK505.out 2).trans rfl, (blk_cell BK505.out 3).trans rfl, (blk_cell BK505.out 4).trans rfl, (blk_cell BK505.out 5).trans rfl, (blk_cell BK505.out 6).trans rfl, ((HB.out.cell (World.block_lt_of_cell? w _ hw507_0)).trans hw507_0), ((HB.out.cell (World.block_lt_of_cell? w _ hw508_0)).trans hw508_0), ((HB.out.cell (World.block_lt_of_cell? w _ hw510_0)).trans hw510_0), ((HB.out.cell (World.block_lt_of_cell? w _ hw511_0)).trans hw511_0)⟩ (fun hHeld => ?_)
              clear hK K
              refine norm_ (a' := ?_) ?_ ?_
              rotate_left
              ·show Act.put _ (some 75) _ = _
               simp only [Act.put, List.setIfInBounds_toArray, List.set_cons_zero, List.set_cons_succ, i64_w, i32_w]
               rfl
              refine pu_ (i := 15) (N := some 76) (tf 35 65535) HT_ ?_; refine pu_ (i := 16) (N := some 77) (tf 35 131071) HT_ ?_; refine pu_ (i := 17) (N := some 78) (tf 35 262143) HT_ ?_; refine pu_ (i := 18) (N := some 79) (tf 35 524287) HT_ ?_; refine pu_ (i := 19) (N := some 80) (tf 35 1048575) HT_ ?_; refine pu_ (i := 20) (N := some 81) (tf 35 2097151) HT_ ?_; refine pu_ (i := 21) (N := some 82) (tf 35 4194303) HT_ ?_; refine pu_ (i := 23) (N := some 84) (tf 35 12582911) HT_ ?_; refine pu_ (i := 26) (N := some 87) (tf 35 79691775) HT_ ?_; refine pu_ (i := 28) (N := some 89) (tf 35 348127231) HT_ ?_; refine pu_ (i := 29) (N := some 90) (tf 35 884998143) HT_ ?_; refine tk_ (i := 22) (N := some 83) (tf 35 889192447) rfl rfl HT_ HW_ hHeld (by rintro w' ⟨s0, s1, s2, s3, s4, s5, s6, s7, s8, s9, s10⟩; go_simp; with_reducible rfl) ?_; refine pu_ (i := 24) (N := some 85) (tf 35 905969663) HT_ ?_; refine tk_ (i := 25) (N := some 86) (tf 35 939524095) rfl rfl HT_ HW_ hHeld (by rintro w' ⟨s0, s1, s2, s3, s4, s5, s6, s7, s8, s9, s10⟩; go_simp; with_reducible rfl) ?_; refine tk_ (i := 27) (N := some 88) (tf 35 1073741823) rfl rfl HT_ HW_ hHeld (by rintro w' ⟨s0, s1, s2, s3, s4, s5, s6, s7, s8, s9, s10⟩; go_simp; with_reducible rfl) ?_; refine pu_ (i := 30) (N := some 91) (tf 35 2147483647) HT_ ?_; refine tk_ (i := 31) (N := some 92) (tf 35 4294967295) rfl rfl HT_ HW_ hHeld (by rintro w' ⟨s0, s1, s2, s3, s4, s5, s6, s7, s8, s9, s10⟩; go_simp; with_reducible rfl) ?_; refine pu_ (i := 32) (N := some 93) (tf 35 8589934591) HT_ ?_; refine pu_ (i := 33) (N := some 94) (tf 35 17179869183) HT_ ?_; refine pu_ (i := 34) (N := some 95) (tf 35 34359738367) HT_ ?_
              refine done_ (done_of HT_.out (by kernel_rfl)) ?_
              try go_wp2
              go_roundg k2
              case measure => have := HJ1.out; have := HK2.out; omega
              case rel => exact ⟨(wrap64 (x3_2 + 1)), rs_, H', ⟨by have := HJ1.out; have := HK2.out; omega⟩, ⟨bk_ BK505⟩, ⟨hB_ HB⟩⟩
            ·rw [if_neg c57] at H
             exact absurd H (by simp)
           ·rw [if_neg c56] at H
            exact absurd H (by simp)
          ·rw [if_neg c54] at H
           have c54b0 : decide (0 < x3_2) = false := decide_eq_false c54
           clear c54
           have H' := Aside0.mk H
           clear H; obtain ⟨hcz65_0, hcz65_1, hcz65_2, hcz65_3, hcz65_4, hcz65_5, hcz65_6, hfz65_0, hfz65_1, hfz65_2, hfz65_3, hfz65_4, hfz65_5, hfz65_6⟩ := cz7_ (w := wr) BK505
           try go_wp2
           have n0_ := Aside0.mk (blk_drew BK505.out); have n1_ := Aside0.mk (below_drew1 HB.out); clear BK505; clear HB; have BK505 := n0_; have HB := n1_; clear n0_ n1_
           have p507 : 0 ≤ (x3_2 : Int) := od_
           have q507 : x3_2 < (l0_2.length : Int) := od_
           obtain ⟨ad507, e507, hx507_0⟩ := Kd.at_int HR0_2.out x3_2 p507 q507; have hw507_0 := hx507_0
           cases e507
           replace hx507_0 := (HB.out.cell (World.block_lt_of_cell? w _ hx507_0)).trans hx507_0; replace p507 := eq_true p507; replace q507 := eq_true q507
           have p508 : 0 ≤ (x3_2 : Int) := od_
           have q508 : x3_2 < (l0_2.length : Int) := od_
           obtain ⟨ad508, e508, hx508_0⟩ := Kd.at_int HR0_2.out x3_2 p508 q508; have hw508_0 := hx508_0
           obtain rfl : ad507 = ad508 := (by injection e508)
           replace hx508_0 := (HB.out.cell (World.block_lt_of_cell? w _ hx508_0)).trans hx508_0; replace p508 := eq_true p508; replace q508 := eq_true q508
           refine start_ (n := 35) (S := fun w' => w'.cell? ⟨gb505, 0, none⟩ = some (.int .u32 a0_0) ∧ w'.cell? ⟨gb505, 1, none⟩ = some (.int .i64 a0_1) ∧ w'.cell? ⟨gb505, 2, none⟩ = some (.slice (some ad507) l0_2.length c0_2) ∧ w'.cell? ⟨gb505, 3, none⟩ = some (.int .i64 a0_3) ∧ w'.cell? ⟨gb505, 4, none⟩ = some (.int .i64 a0_4) ∧ w'.cell? ⟨gb505, 5, none⟩ = some (.int .i64 a0_5) ∧ w'.cell? ⟨gb505, 6, none⟩ = some (.int .i64 a0_6) ∧ w'.cell? (ad507.add (x3_2).toNat) = some (.int .i64 (rd l0_2 x3_2)) ∧ w'.cell? (ad507.add (x3_2).toNat) = some (.int .i64 (rd l0_2 x3_2))) (ds := []) (tf 35 0) (by kernel_rfl) rfl rfl ⟨(blk_cell BK505.out 0).trans rfl, (blk_cell BK505.out 1).trans rfl, (blk_cell BK505.out 2).trans rfl, (blk_cell BK505.out 3).trans rfl, (blk_cell BK505.out 4).trans rfl, (blk_cell BK505.out 5).trans rfl, (blk_cell BK505.out 6).trans rfl, ((HB.out.cell (World.block_lt_of_cell? w _ hw507_0)).trans hw507_0), ((HB.out.cell (World.block_lt_of_cell? w _ hw508_0)).trans hw508_0)⟩ (fun hHeld => ?_); refine with_tabW lodgerref05_May.tab6 lodgerref05_May.bits6 (fun HT_ HW_ => ?_)
           generalize wr.drew = w66 at BK505 HB hx507_0 hx508_0 hHeld ⊢
           refine pu_ (i := 0) (N := some 61) (tf 35 1) HT_ ?_; refine pu_ (i := 2) (N := some 63) (tf 35 5) HT_ ?_; refine tk_ (i := 1) (N := some 62) (tf 35 7) rfl rfl HT_ HW_ hHeld (by rintro w' ⟨s0, s1, s2, s3, s4, s5, s6, s7, s8⟩; go_simp; with_reducible rfl) ?_; refine pu_ (i := 3) (N := some 64) (tf 35 15) HT_ ?_; refine tk_ (i := 4) (N := some 65) (tf 35 31) rfl rfl HT_ HW_ hHeld (by rintro w' ⟨s0, s1, s2, s3, s4, s5, s6, s7, s8⟩; go_simp; with_reducible rfl) ?_; refine pu_ (i := 5) (N := some 66) (tf 35 63) HT_ ?_; refine pu_ (i := 6) (N := some 67) (tf 35 127) HT_ ?_; refine pu_ (i := 7) (N := some 68) (tf 35 255) HT_ ?_; refine pu_ (i := 9) (N := some 70) (tf 35 767) HT_ ?_; refine pu_ (i := 12) (N := some 73) (tf 35 4863) HT_ ?_; refine tk_ (i := 8) (N := some 69) (tf 35 5119) rfl rfl HT_ HW_ hHeld (by rintro w' ⟨s0, s1, s2, s3, s4, s5, s6, s7, s8⟩; go_simp; with_reducible rfl) ?_; refine pu_ (i := 10) (N := some 71) (tf 35 6143) HT_ ?_; refine tk_ (i := 11) (N := some 72) (tf 35 8191) rfl rfl HT_ HW_ hHeld (by rintro w' ⟨s0, s1, s2, s3, s4, s5, s6, s7, s8⟩; go_simp; with_reducible rfl) ?_; refine tk_ (i := 13) (N := some 74) (tf 35 16383) rfl rfl HT_ HW_ hHeld (by rintro w' ⟨s0, s1, s2, s3, s4, s5, s6, s7, s8⟩; go_simp; with_reducible rfl) ?_
           refine one_ (i := 14) (N := some 75) (tf 35 32767) rfl rfl (one_of HT_.out (by kernel_rfl)) (by decide) (fun K hK => ?_)
           refine goes_ Tryd.func30 (by kernel_rfl) rfl #[.agg #[.int .u32 a0_0, .int .i64 a0_1]] (by rfl) rfl rfl am_ ?_
           with_reducible refine (lodgerref05_Many.calls k2 a0_0 a0_1 t509 _ A49.out).mono ?_
           rintro e w67 ⟨rfl, hb⟩
           refine ⟨_, rfl, ?_⟩
           have n0_ := bB_ BK505 hb; have n1_ := Aside0.mk (below_step (hB_ HB) hb); clear BK505; clear HB; have BK505 := n0_; have HB := n1_; clear n0_ n1_
           (try clear hb)
           (try clear hb2)
           (try clear hk)
           (try clear hi)
           refine hK.out _ _ ⟨(blk_cell BK505.out 0).trans rfl, (blk_cell BK505.out 1).trans rfl, (blk_cell BK505.out 2).trans rfl, (blk_cell BK505.out 3).trans rfl, (blk_cell BK505.out 4).trans rfl, (blk_cell BK505.out 5).trans rfl, (blk_cell BK505.out 6).trans rfl, ((HB.out.cell (World.block_lt_of_cell? w _ hw507_0)).trans hw507_0), ((HB.out.cell (World.block_lt_of_cell? w _ hw508_0)).trans hw508_0)⟩ (fun hHeld => ?_)
           clear hK K
           refine norm_ (a' := ?_) ?_ ?_
           rotate_left
           ·show Act.put _ (some 75) _ = _
            simp only [Act.put, List.setIfInBounds_toArray, List.set_cons_zero, List.set_cons_succ, i64_w, i32_w]
            rfl
           refine pu_ (i := 15) (N := some 76) (tf 35 65535) HT_ ?_; refine pu_ (i := 16) (N := some 77) (tf 35 131071) HT_ ?_; refine pu_ (i := 17) (N := some 78) (tf 35 262143) HT_ ?_; refine pu_ (i := 18) (N := some 79) (tf 35 524287) HT_ ?_; refine pu_ (i := 19) (N := some 80) (tf 35 1048575) HT_ ?_; refine pu_ (i := 20) (N := some 81) (tf 35 2097151) HT_ ?_; refine pn_ (i := 21) (N := some 82) (tf 35 4194303) HT_ ?_; refine pn_ (i := 22) (N := some 83) (tf 35 8388607) HT_ ?_; refine pn_ (i := 23) (N := some 84) (tf 35 16777215) HT_ ?_; refine pn_ (i := 24) (N := some 85) (tf 35 33554431) HT_ ?_; refine pn_ (i := 25) (N := some 86) (tf 35 67108863) HT_ ?_; refine pn_ (i := 26) (N := some 87) (tf 35 134217727) HT_ ?_; refine pn_ (i := 27) (N := some 88) (tf 35 268435455) HT_ ?_; refine pn_ (i := 28) (N := some 89) (tf 35 536870911) HT_ ?_; refine pn_ (i := 29) (N := some 90) (tf 35 1073741823) HT_ ?_; refine pn_ (i := 30) (N := some 91) (tf 35 2147483647) HT_ ?_; refine pn_ (i := 31) (N := some 92) (tf 35 4294967295) HT_ ?_; refine pn_ (i := 32) (N := some 93) (tf 35 8589934591) HT_ ?_; refine pu_ (i := 33) (N := some 94) (tf 35 17179869183) HT_ ?_; refine pu_ (i := 34) (N := some 95) (tf 35 34359738367) HT_ ?_
           refine done_ (done_of HT_.out (by kernel_rfl)) ?_
           try go_wp2
           go_roundg k2
           case measure => have := HJ1.out; have := HK2.out; omega
           case rel => exact ⟨(wrap64 (x3_2 + 1)), rs_, H', ⟨by have := HJ1.out; have := HK2.out; omega⟩, ⟨bk_ BK505⟩, ⟨hB_ HB⟩⟩
       ·rw [if_neg c45] at H
        exact absurd H (by simp)
      ·rw [if_neg c44] at H
       have c44b0 : decide (x3_2 < (l0_2.length : Int)) = false := decide_eq_false c44
       clear c44
       obtain rfl := Option.some.inj H
       obtain ⟨hcz68_0, hcz68_1, hcz68_2, hcz68_3, hcz68_4, hcz68_5, hcz68_6, hfz68_0, hfz68_1, hfz68_2, hfz68_3, hfz68_4, hfz68_5, hfz68_6⟩ := cz7_ (w := wr) BK505
       go_wp2
       go_ret
       exact ⟨er_, hB_ HB⟩

end Go.Proofs.YtkiimboedgnoiaaDoor.PSpecLegal
