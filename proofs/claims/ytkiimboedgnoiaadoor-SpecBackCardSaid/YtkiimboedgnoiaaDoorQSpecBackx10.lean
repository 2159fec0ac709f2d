/- The walk of SpecBack, part of it: what the Go functions answer; no condition. -/
import Derived.Test.YtkiimboedgnoiaaDoorQSpecBackx0
import Derived.Test.YtkiimboedgnoiaaDoorQSpecBackx7
namespace Go.Proofs.YtkiimboedgnoiaaDoor.PSpecBack
open Go.RowKit Go.Proofs.YtkiimboedgnoiaaDoorW.PrintWords Go.Proofs.YtkiimboedgnoiaaDoorW.PrintLast Go.Proofs.YtkiimboedgnoiaaDoorW.PrintMore
attribute [local go_sem] max2_int min2_int max_two min_two max_three min_three max_four min_four   -- for this text's walks alone
set_option linter.unusedVariables false
set_option linter.unusedSimpArgs false

/-! ### lodgerref04_May: function 44 -/
def lodgerref04_May.f (k : Nat) (a0_0 a0_1 : Int) : Option (Bool) := if a0_1 ≥ 16 then (if a0_1 ≤ 32 then ((lodgerref04_Many.f k a0_1).bind fun t504 => (if t504 = 0 then (none) else (some ((Int.tmod (wrap64 (a0_0)) t504) == 0)))) else (some false)) else (some false)
theorem lodgerref04_May.mono : ∀ a0 a1 k, LeO (lodgerref04_May.f k a0 a1) (lodgerref04_May.f (k + 1) a0 a1) := by
 intro a0 a1 k
 unfold lodgerref04_May.f
 repeat' (with_reducible first | apply lodgerref04_Many.mono | exact LeO.refl _ | exact LeO.none _ | refine LeO.ite ?_ ?_ | refine LeO.bind ?_ (fun _ => ?_))
set_option maxHeartbeats 8000000 in
set_option maxRecDepth 100000 in
theorem lodgerref04_May.calls (k : Nat) (ac aa : Int) (r : Bool) (w : World) (h : lodgerref04_May.f k ac aa = some r) :
  Calls Tryd.prog 44 #[.agg #[.int .u32 ac, .int .i64 aa]] w fun e w' => e = .returned (.bool r) ∧ Below w.heap.size w w' := by
 have hu24 := Tryd.underlying24
 have HB := Aside0.mk (Below.refl w.heap.size w)
 have H : (if aa ≥ 16 then (if aa ≤ 32 then ((lodgerref04_Many.f k aa).bind fun ad => (if ad = 0 then (none) else (some ((Int.tmod (wrap64 (ac)) ad) == 0)))) else (some false)) else (some false)) = some r := h
 clear h
 by_cases c2 : aa ≥ 16
 ·rw [if_pos c2] at H
  have av : decide (16 ≤ aa) = true := decide_eq_true c2
  clear c2
  by_cases c3 : aa ≤ 32
  ·rw [if_pos c3] at H
   have aw : decide (aa ≤ 32) = true := decide_eq_true c3
   clear c3; replace H := bi_ H; obtain ⟨ad, A40, H⟩ := H
   replace H : (if ad = 0 then (none) else (some ((Int.tmod (wrap64 (ac)) ad) == 0))) = some r := H
   have A4 := Aside0.mk A40; clear A40
   by_cases c5 : ad = 0
   ·rw [if_pos c5] at H
    exact absurd H (by simp)
   ·rw [if_neg c5] at H
    have ax : (ad == 0) = false := beq_eq_false_iff_ne.mpr c5
    have ay : (ad != 0) = true := bne_iff_ne.mpr c5
    obtain rfl := Option.some.inj H
    go_enter Tryd.func44, Tryd.ntmps44
    go_wp2_with (first | ((with_reducible refine gate_dst (N := 1) rfl ?_); refine bx_ (N := 1) (cs := #[.int .u32 ac, .int .i64 aa]) (t := 24) ?_; intro ag hg w6 ab hb; have af := gG_ hg HB; have ae := gG_ hg HB; replace HB := hS_ HB hb; clear hb hg; obtain ⟨al, am, ap, aq⟩ := cz2_ (w := w6) ab) | (go_at_call 45; (with_reducible refine (lodgerref04_Many.calls k aa ad _ A4.out).mono ?_); rintro e w' ⟨rfl, ⟨nd, rfl⟩⟩; (try first | exact ⟨rfl, _, World.drewN_drewN _ _ _⟩ | exact ⟨rfl, _, Eq.trans (World.drewN_drewN _ _ _) (congrArg (World.drewN _) (Nat.add_assoc _ _ _))⟩)))
    repeat (go_quiet (first | ((with_reducible refine gate_dst (N := 1) rfl ?_); refine bx_ (N := 1) (cs := #[.int .u32 ac, .int .i64 aa]) (t := 24) ?_; intro ag hg w6 ab hb; have af := gG_ hg HB; have ae := gG_ hg HB; replace HB := hS_ HB hb; clear hb hg; obtain ⟨al, am, ap, aq⟩ := cz2_ (w := w6) ab) | (go_at_call 45; (with_reducible refine (lodgerref04_Many.calls k aa ad _ A4.out).mono ?_); rintro e w' ⟨rfl, ⟨nd, rfl⟩⟩; (try first | exact ⟨rfl, _, World.drewN_drewN _ _ _⟩ | exact ⟨rfl, _, Eq.trans (World.drewN_drewN _ _ _) (congrArg (World.drewN _) (Nat.add_assoc _ _ _))⟩))); try go_wp2_with (first | ((with_reducible refine gate_dst (N := 1) rfl ?_); refine bx_ (N := 1) (cs := #[.int .u32 ac, .int .i64 aa]) (t := 24) ?_; intro ag hg w6 ab hb; have af := gG_ hg HB; have ae := gG_ hg HB; replace HB := hS_ HB hb; clear hb hg; obtain ⟨al, am, ap, aq⟩ := cz2_ (w := w6) ab) | (go_at_call 45; (with_reducible refine (lodgerref04_Many.calls k aa ad _ A4.out).mono ?_); rintro e w' ⟨rfl, ⟨nd, rfl⟩⟩; (try first | exact ⟨rfl, _, World.drewN_drewN _ _ _⟩ | exact ⟨rfl, _, Eq.trans (World.drewN_drewN _ _ _) (congrArg (World.drewN _) (Nat.add_assoc _ _ _))⟩))))
    go_ret
    exact ⟨er_, hB_ HB⟩
  ·rw [if_neg c3] at H
   have aw : decide (aa ≤ 32) = false := decide_eq_false c3
   clear c3
   obtain rfl := Option.some.inj H
   go_enter Tryd.func44, Tryd.ntmps44
   go_wp2_with (first | ((with_reducible refine gate_dst (N := 1) rfl ?_); refine bx_ (N := 1) (cs := #[.int .u32 ac, .int .i64 aa]) (t := 24) ?_; intro ag hg w8 ab hb; have af := gG_ hg HB; have ae := gG_ hg HB; replace HB := hS_ HB hb; clear hb hg; obtain ⟨an, ao, ar, au⟩ := cz2_ (w := w8) ab))
   repeat (go_quiet (first | ((with_reducible refine gate_dst (N := 1) rfl ?_); refine bx_ (N := 1) (cs := #[.int .u32 ac, .int .i64 aa]) (t := 24) ?_; intro ag hg w8 ab hb; have af := gG_ hg HB; have ae := gG_ hg HB; replace HB := hS_ HB hb; clear hb hg; obtain ⟨an, ao, ar, au⟩ := cz2_ (w := w8) ab)); try go_wp2_with (first | ((with_reducible refine gate_dst (N := 1) rfl ?_); refine bx_ (N := 1) (cs := #[.int .u32 ac, .int .i64 aa]) (t := 24) ?_; intro ag hg w8 ab hb; have af := gG_ hg HB; have ae := gG_ hg HB; replace HB := hS_ HB hb; clear hb hg; obtain ⟨an, ao, ar, au⟩ := cz2_ (w := w8) ab)))
   go_ret
   exact ⟨er_, hB_ HB⟩
 ·rw [if_neg c2] at H
  have av : decide (16 ≤ aa) = false := decide_eq_false c2
  clear c2
  obtain rfl := Option.some.inj H
  go_enter Tryd.func44, Tryd.ntmps44
  go_wp2_with (first | ((with_reducible refine gate_dst (N := 1) rfl ?_); refine bx_ (N := 1) (cs := #[.int .u32 ac, .int .i64 aa]) (t := 24) ?_; intro ag hg w10 ab hb; have af := gG_ hg HB; have ae := gG_ hg HB; replace HB := hS_ HB hb; clear hb hg; obtain ⟨ah, ai, aj, ak⟩ := cz2_ (w := w10) ab))
  repeat (go_quiet (first | ((with_reducible refine gate_dst (N := 1) rfl ?_); refine bx_ (N := 1) (cs := #[.int .u32 ac, .int .i64 aa]) (t := 24) ?_; intro ag hg w10 ab hb; have af := gG_ hg HB; have ae := gG_ hg HB; replace HB := hS_ HB hb; clear hb hg; obtain ⟨ah, ai, aj, ak⟩ := cz2_ (w := w10) ab)); try go_wp2_with (first | ((with_reducible refine gate_dst (N := 1) rfl ?_); refine bx_ (N := 1) (cs := #[.int .u32 ac, .int .i64 aa]) (t := 24) ?_; intro ag hg w10 ab hb; have af := gG_ hg HB; have ae := gG_ hg HB; replace HB := hS_ HB hb; clear hb hg; obtain ⟨ah, ai, aj, ak⟩ := cz2_ (w := w10) ab)))
  go_ret
  exact ⟨er_, hB_ HB⟩

end Go.Proofs.YtkiimboedgnoiaaDoor.PSpecBack
