/- The walk of SpecLegal, part of it: what the Go functions answer; no condition. -/
import Derived.Test.YtkiimboedgnoiaaDoorQSpecLegalx0
import Derived.Test.YtkiimboedgnoiaaDoorQSpecLegalx7
namespace Go.Proofs.YtkiimboedgnoiaaDoor.PSpecLegal
open Go.RowKit Go.Proofs.YtkiimboedgnoiaaDoorW.PrintWords Go.Proofs.YtkiimboedgnoiaaDoorW.PrintLast Go.Proofs.YtkiimboedgnoiaaDoorW.PrintMore
attribute [local go_sem] max2_int min2_int max_two min_two max_three min_three max_four min_four   -- for this text's walks alone
set_option linter.unusedVariables false
set_option linter.unusedSimpArgs false

/-! ### lodgerref04_May: function 44 -/
def lodgerref04_May.f (k : Nat) (a0_0 : Int) (a0_1 : Int) : Option (Bool) := if a0_1 ≥ 16 then (if a0_1 ≤ 32 then ((lodgerref04_Many.f k a0_1).bind fun t504 => (if t504 = 0 then (none) else (some ((Int.tmod (wrap64 (a0_0)) t504) == 0)))) else (some false)) else (some false)
theorem lodgerref04_May.mono : ∀ a0 a1 k, LeO (lodgerref04_May.f k a0 a1) (lodgerref04_May.f (k + 1) a0 a1) := by
 intro a0 a1 k
 unfold lodgerref04_May.f
 repeat' first
   | (with_reducible exact lodgerref04_Many.mono _ _)
   | (with_reducible exact LeO.refl _)
   | (with_reducible exact LeO.none _)
   | (with_reducible refine LeO.ite ?_ ?_)
   | (with_reducible refine LeO.bind ?_ (fun _ => ?_))
   | exact lodgerref04_Many.mono _ _
   | exact LeO.none _
   | refine LeO.ite ?_ ?_
   | refine LeO.bind ?_ (fun _ => ?_)
set_option maxHeartbeats 8000000 in
set_option maxRecDepth 100000 in
theorem lodgerref04_May.calls (k : Nat) (a0_0 : Int) (a0_1 : Int) (r : Bool) (w : World) (h : lodgerref04_May.f k a0_0 a0_1 = some r) :
  Calls Tryd.prog 44 #[.agg #[.int .u32 a0_0, .int .i64 a0_1]] w fun e w' => e = .returned (.bool r) ∧ Below w.heap.size w w' := by
 have hu24 := Tryd.underlying24
 have HB := Aside0.mk (Below.refl w.heap.size w)
 have H : (if a0_1 ≥ 16 then (if a0_1 ≤ 32 then ((lodgerref04_Many.f k a0_1).bind fun t504 => (if t504 = 0 then (none) else (some ((Int.tmod (wrap64 (a0_0)) t504) == 0)))) else (some false)) else (some false)) = some r := h
 clear h
 by_cases c2 : a0_1 ≥ 16
 ·rw [if_pos c2] at H
  have c2b0 : decide (16 ≤ a0_1) = true := decide_eq_true c2
  clear c2
  by_cases c3 : a0_1 ≤ 32
  ·rw [if_pos c3] at H
   have c3b0 : decide (a0_1 ≤ 32) = true := decide_eq_true c3
   clear c3; replace H := Option.bind_eq_some_iff.mp H; obtain ⟨t504, A40, H⟩ := H
   replace H : (if t504 = 0 then (none) else (some ((Int.tmod (wrap64 (a0_0)) t504) == 0))) = some r := H
   have A4 := Aside0.mk A40; clear A40
   by_cases c5 : t504 = 0
   ·rw [if_pos c5] at H
    exact absurd H (by simp)
   ·rw [if_neg c5] at H
    have c5b0 : (t504 == 0) = false := beq_eq_false_iff_ne.mpr c5
    have c5b1 : (t504 != 0) = true := bne_iff_ne.mpr c5
    obtain rfl := Option.some.inj H
    go_enter Tryd.func44, Tryd.ntmps44
    go_wp2_with (first | ((with_reducible refine gate_dst (N := 1) rfl ?_); refine box_event ?hg (N := 1) ?hd (cs := #[.int .u32 a0_0, .int .i64 a0_1]) (t := 24) ?hr ?_; (case hd => rfl); (case hg => rfl); (case hr => first | (go_simp; done) | (go_simp; rfl)); intro gb503 hg w6 hbox hb; have n1_ := Aside0.mk (hbox); have n2_ := gG_ (w := w) hg HB; have n3_ := gG_ (w := w) hg HB; have BK503 := n1_; have GW503 := n2_; have GE503 := n3_; replace HB := hS_ HB hb; clear n1_ n2_ n3_; clear hb hbox hg; obtain ⟨hcz7_0, hcz7_1, hfz7_0, hfz7_1⟩ := cz2_ (w := w6) BK503) | (go_at_call 45; (with_reducible refine (lodgerref04_Many.calls k a0_1 t504 _ A4.out).mono ?_); rintro e w' ⟨rfl, ⟨nd, rfl⟩⟩; (try first | exact ⟨rfl, _, World.drewN_drewN _ _ _⟩ | exact ⟨rfl, _, Eq.trans (World.drewN_drewN _ _ _) (congrArg (World.drewN _) (Nat.add_assoc _ _ _))⟩)))
    repeat (go_quiet (first | ((with_reducible refine gate_dst (N := 1) rfl ?_); refine box_event ?hg (N := 1) ?hd (cs := #[.int .u32 a0_0, .int .i64 a0_1]) (t := 24) ?hr ?_; (case hd => rfl); (case hg => rfl); (case hr => first | (go_simp; done) | (go_simp; rfl)); intro gb503 hg w6 hbox hb; have n1_ := Aside0.mk (hbox); have n2_ := gG_ (w := w) hg HB; have n3_ := gG_ (w := w) hg HB; have BK503 := n1_; have GW503 := n2_; have GE503 := n3_; replace HB := hS_ HB hb; clear n1_ n2_ n3_; clear hb hbox hg; obtain ⟨hcz7_0, hcz7_1, hfz7_0, hfz7_1⟩ := cz2_ (w := w6) BK503) | (go_at_call 45; (with_reducible refine (lodgerref04_Many.calls k a0_1 t504 _ A4.out).mono ?_); rintro e w' ⟨rfl, ⟨nd, rfl⟩⟩; (try first | exact ⟨rfl, _, World.drewN_drewN _ _ _⟩ | exact ⟨rfl, _, Eq.trans (World.drewN_drewN _ _ _) (congrArg (World.drewN _) (Nat.add_assoc _ _ _))⟩))); try go_wp2_with (first | ((with_reducible refine gate_dst (N := 1) rfl ?_); refine box_event ?hg (N := 1) ?hd (cs := #[.int .u32 a0_0, .int .i64 a0_1]) (t := 24) ?hr ?_; (case hd => rfl); (case hg => rfl); (case hr => first | (go_simp; done) | (go_simp; rfl)); intro gb503 hg w6 hbox hb; have n1_ := Aside0.mk (hbox); have n2_ := gG_ (w := w) hg HB; have n3_ := gG_ (w := w) hg HB; have BK503 := n1_; have GW503 := n2_; have GE503 := n3_; replace HB := hS_ HB hb; clear n1_ n2_ n3_; clear hb hbox hg; obtain ⟨hcz7_0, hcz7_1, hfz7_0, hfz7_1⟩ := cz2_ (w := w6) BK503) | (go_at_call 45; (with_reducible refine (lodgerref04_Many.calls k a0_1 t504 _ A4.out).mono ?_); rintro e w' ⟨rfl, ⟨nd, rfl⟩⟩; (try first | exact ⟨rfl, _, World.drewN_drewN _ _ _⟩ | exact ⟨rfl, _, Eq.trans (World.drewN_drewN _ _ _) (congrArg (World.drewN _) (Nat.add_assoc _ _ _))⟩))))
    go_ret
    exact ⟨er_, hB_ HB⟩
  ·rw [if_neg c3] at H
   have c3b0 : decide (a0_1 ≤ 32) = false := decide_eq_false c3
   clear c3
   obtain rfl := Option.some.inj H
   go_enter Tryd.func44, Tryd.ntmps44
   go_wp2_with (first | ((with_reducible refine gate_dst (N := 1) rfl ?_); refine box_event ?hg (N := 1) ?hd (cs := #[.int .u32 a0_0, .int .i64 a0_1]) (t := 24) ?hr ?_; (case hd => rfl); (case hg => rfl); (case hr => first | (go_simp; done) | (go_simp; rfl)); intro gb503 hg w8 hbox hb; have n1_ := Aside0.mk (hbox); have n2_ := gG_ (w := w) hg HB; have n3_ := gG_ (w := w) hg HB; have BK503 := n1_; have GW503 := n2_; have GE503 := n3_; replace HB := hS_ HB hb; clear n1_ n2_ n3_; clear hb hbox hg; obtain ⟨hcz9_0, hcz9_1, hfz9_0, hfz9_1⟩ := cz2_ (w := w8) BK503))
   repeat (go_quiet (first | ((with_reducible refine gate_dst (N := 1) rfl ?_); refine box_event ?hg (N := 1) ?hd (cs := #[.int .u32 a0_0, .int .i64 a0_1]) (t := 24) ?hr ?_; (case hd => rfl); (case hg => rfl); (case hr => first | (go_simp; done) | (go_simp; rfl)); intro gb503 hg w8 hbox hb; have n1_ := Aside0.mk (hbox); have n2_ := gG_ (w := w) hg HB; have n3_ := gG_ (w := w) hg HB; have BK503 := n1_; have GW503 := n2_; have GE503 := n3_; replace HB := hS_ HB hb; clear n1_ n2_ n3_; clear hb hbox hg; obtain ⟨hcz9_0, hcz9_1, hfz9_0, hfz9_1⟩ := cz2_ (w := w8) BK503)); try go_wp2_with (first | ((with_reducible refine gate_dst (N := 1) rfl ?_); refine box_event ?hg (N := 1) ?hd (cs := #[.int .u32 a0_0, .int .i64 a0_1]) (t := 24) ?hr ?_; (case hd => rfl); (case hg => rfl); (case hr => first | (go_simp; done) | (go_simp; rfl)); intro gb503 hg w8 hbox hb; have n1_ := Aside0.mk (hbox); have n2_ := gG_ (w := w) hg HB; have n3_ := gG_ (w := w) hg HB; have BK503 := n1_; have GW503 := n2_; have GE503 := n3_; replace HB := hS_ HB hb; clear n1_ n2_ n3_; clear hb hbox hg; obtain ⟨hcz9_0, hcz9_1, hfz9_0, hfz9_1⟩ := cz2_ (w := w8) BK503)))
   go_ret
   exact ⟨er_, hB_ HB⟩
 ·rw [if_neg c2] at H
  have c2b0 : decide (16 ≤ a0_1) = false := decide_eq_false c2
  clear c2
  obtain rfl := Option.some.inj H
  go_enter Tryd.func44, Tryd.ntmps44
  go_wp2_with (first | ((with_reducible refine gate_dst (N := 1) rfl ?_); refine box_event ?hg (N := 1) ?hd (cs := #[.int .u32 a0_0, .int .i64 a0_1]) (t := 24) ?hr ?_; (case hd => rfl); (case hg => rfl); (case hr => first | (go_simp; done) | (go_simp; rfl)); intro gb503 hg w10 hbox hb; have n1_ := Aside0.mk (hbox); have n2_ := gG_ (w := w) hg HB; have n3_ := gG_ (w := w) hg HB; have BK503 := n1_; have GW503 := n2_; have GE503 := n3_; replace HB := hS_ HB hb; clear n1_ n2_ n3_; clear hb hbox hg; obtain ⟨hcz11_0, hcz11_1, hfz11_0, hfz11_1⟩ := cz2_ (w := w10) BK503))
  repeat (go_quiet (first | ((with_reducible refine gate_dst (N := 1) rfl ?_); refine box_event ?hg (N := 1) ?hd (cs := #[.int .u32 a0_0, .int .i64 a0_1]) (t := 24) ?hr ?_; (case hd => rfl); (case hg => rfl); (case hr => first | (go_simp; done) | (go_simp; rfl)); intro gb503 hg w10 hbox hb; have n1_ := Aside0.mk (hbox); have n2_ := gG_ (w := w) hg HB; have n3_ := gG_ (w := w) hg HB; have BK503 := n1_; have GW503 := n2_; have GE503 := n3_; replace HB := hS_ HB hb; clear n1_ n2_ n3_; clear hb hbox hg; obtain ⟨hcz11_0, hcz11_1, hfz11_0, hfz11_1⟩ := cz2_ (w := w10) BK503)); try go_wp2_with (first | ((with_reducible refine gate_dst (N := 1) rfl ?_); refine box_event ?hg (N := 1) ?hd (cs := #[.int .u32 a0_0, .int .i64 a0_1]) (t := 24) ?hr ?_; (case hd => rfl); (case hg => rfl); (case hr => first | (go_simp; done) | (go_simp; rfl)); intro gb503 hg w10 hbox hb; have n1_ := Aside0.mk (hbox); have n2_ := gG_ (w := w) hg HB; have n3_ := gG_ (w := w) hg HB; have BK503 := n1_; have GW503 := n2_; have GE503 := n3_; replace HB := hS_ HB hb; clear n1_ n2_ n3_; clear hb hbox hg; obtain ⟨hcz11_0, hcz11_1, hfz11_0, hfz11_1⟩ := cz2_ (w := w10) BK503)))
  go_ret
  exact ⟨er_, hB_ HB⟩

end Go.Proofs.YtkiimboedgnoiaaDoor.PSpecLegal
