/- The walk of SpecLegal, part of it: what the Go functions answer; no condition. -/
import Derived.Test.YtkiimboedgnoiaaDoorQSpecLegalx0
import Derived.Test.YtkiimboedgnoiaaDoorQSpecLegalx7
namespace Go.Proofs.YtkiimboedgnoiaaDoor.PSpecLegal
open Go.RowKit Go.Proofs.YtkiimboedgnoiaaDoorW.PrintWords Go.Proofs.YtkiimboedgnoiaaDoorW.PrintLast Go.Proofs.YtkiimboedgnoiaaDoorW.PrintMore
attribute [local go_sem] max2_int min2_int max_two min_two max_three min_three max_four min_four   -- for this text's walks alone
set_option linter.unusedVariables false
set_option linter.unusedSimpArgs false

/-! ### lodgerref05_Many: function 30 -/
def lodgerref05_Many.f (k : Nat) (a0_0 : Int) (a0_1 : Int) : Option (Int) := (lodgerref04_Many.f k a0_1).bind fun t494 => (some t494)
theorem lodgerref05_Many.mono : ∀ a0 a1 k, LeO (lodgerref05_Many.f k a0 a1) (lodgerref05_Many.f (k + 1) a0 a1) := by
 intro a0 a1 k
 unfold lodgerref05_Many.f
 repeat' first
   | (with_reducible exact lodgerref04_Many.mono _ _)
   | (with_reducible exact LeO.refl _)
   | (with_reducible exact LeO.none _)
   | (with_reducible refine LeO.ite ?_ ?_)
   | (with_reducible refine LeO.bind ?_ (fun _ => ?_))
   | exact lodgerref04_Many.mono _ _
   | exact LeO.none _
   | refine LeO.ite ?_ ?_
   | refine LeO.bind ?_ (fun _ => ?_)
set_option maxHeartbeats 8000000 in
set_option maxRecDepth 100000 in
theorem lodgerref05_Many.calls (k : Nat) (a0_0 : Int) (a0_1 : Int) (r : Int) (w : World) (h : lodgerref05_Many.f k a0_0 a0_1 = some r) :
  Calls Tryd.prog 30 #[.agg #[.int .u32 a0_0, .int .i64 a0_1]] w fun e w' => e = .returned (.int .i64 r) ∧ Below w.heap.size w w' := by
 have hu24 := Tryd.underlying24
 have HB := Aside0.mk (Below.refl w.heap.size w)
 have H : ((lodgerref04_Many.f k a0_1).bind fun t494 => (some t494)) = some r := h
 clear h
 replace H := Option.bind_eq_some_iff.mp H
 obtain ⟨t494, A20, H⟩ := H
 replace H : (some t494) = some r := H
 have A2 := Aside0.mk A20
 clear A20
 obtain rfl := Option.some.inj H
 go_enter Tryd.func30, Tryd.ntmps30
 go_wp2_with (first | ((with_reducible refine gate_dst (N := 1) rfl ?_); refine box_event ?hg (N := 1) ?hd (cs := #[.int .u32 a0_0, .int .i64 a0_1]) (t := 24) ?hr ?_; (case hd => rfl); (case hg => rfl); (case hr => first | (go_simp; done) | (go_simp; rfl)); intro gb493 hg w3 hbox hb; have n1_ := Aside0.mk (hbox); have n2_ := gG_ (w := w) hg HB; have n3_ := gG_ (w := w) hg HB; have BK493 := n1_; have GW493 := n2_; have GE493 := n3_; replace HB := hS_ HB hb; clear n1_ n2_ n3_; clear hb hbox hg; obtain ⟨hcz4_0, hcz4_1, hfz4_0, hfz4_1⟩ := cz2_ (w := w3) BK493) | ((with_reducible refine gate_callee (f := 45) rfl ?_); refine goesL_ (some 5) rfl rfl Tryd.func45 (by kernel_rfl) rfl #[.int .i64 a0_1] rfl am_ ?_; (with_reducible refine (lodgerref04_Many.calls k a0_1 t494 _ A2.out).mono ?_); rintro e w' ⟨rfl, ⟨nd, rfl⟩⟩; refine ⟨_, rfl, ?_⟩) | (go_at_call 45; (with_reducible refine (lodgerref04_Many.calls k a0_1 t494 _ A2.out).mono ?_); rintro e w' ⟨rfl, ⟨nd, rfl⟩⟩))
 go_ret
 exact ⟨er_, hB_ HB⟩

end Go.Proofs.YtkiimboedgnoiaaDoor.PSpecLegal
