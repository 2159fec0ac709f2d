/- The walk of SpecBack, part of it: what the Go functions answer; no condition. -/
import Derived.Test.YtkiimboedgnoiaaDoorQSpecBackx0
import Derived.Test.YtkiimboedgnoiaaDoorQSpecBackx7
namespace Go.Proofs.YtkiimboedgnoiaaDoor.PSpecBack
open Go.RowKit Go.Proofs.YtkiimboedgnoiaaDoorW.PrintWords Go.Proofs.YtkiimboedgnoiaaDoorW.PrintLast Go.Proofs.YtkiimboedgnoiaaDoorW.PrintMore
attribute [local go_sem] max2_int min2_int max_two min_two max_three min_three max_four min_four   -- for this text's walks alone
set_option linter.unusedVariables false
set_option linter.unusedSimpArgs false

/-! ### lodgerref05_Many: function 30 -/
def lodgerref05_Many.f (k : Nat) (a0_0 a0_1 : Int) : Option (Int) := (lodgerref04_Many.f k a0_1).bind fun t494 => (some t494)
theorem lodgerref05_Many.mono : ∀ a0 a1 k, LeO (lodgerref05_Many.f k a0 a1) (lodgerref05_Many.f (k + 1) a0 a1) := by
 intro a0 a1 k
 unfold lodgerref05_Many.f
 repeat' (with_reducible first | apply lodgerref04_Many.mono | exact LeO.refl _ | exact LeO.none _ | refine LeO.ite ?_ ?_ | refine LeO.bind ?_ (fun _ => ?_))
set_option maxHeartbeats 8000000 in
set_option maxRecDepth 100000 in
theorem lodgerref05_Many.calls (k : Nat) (ac aa r : Int) (w : World) (h : lodgerref05_Many.f k ac aa = some r) :
  Calls Tryd.prog 30 #[.agg #[.int .u32 ac, .int .i64 aa]] w fun e w' => e = .returned (.int .i64 r) ∧ Below w.heap.size w w' := by
 have hu24 := Tryd.underlying24
 have HB := Aside0.mk (Below.refl w.heap.size w)
 have H : ((lodgerref04_Many.f k aa).bind fun ab => (some ab)) = some r := h
 clear h
 replace H := bi_ H
 obtain ⟨ab, A20, H⟩ := H
 replace H : (some ab) = some r := H
 have A2 := Aside0.mk A20
 clear A20
 obtain rfl := Option.some.inj H
 go_enter Tryd.func30, Tryd.ntmps30
 go_wp2_with (first | ((with_reducible refine gate_dst (N := 1) rfl ?_); refine bx_ (N := 1) (cs := #[.int .u32 ac, .int .i64 aa]) (t := 24) ?_; intro ak hg w3 ad hb; have aj := gG_ hg HB; have ai := gG_ hg HB; replace HB := hS_ HB hb; clear hb hg; obtain ⟨ae, af, ag, ah⟩ := cz2_ (w := w3) ad) | ((with_reducible refine gate_callee (f := 45) rfl ?_); refine gL_ (some 5) Tryd.func45 #[.int .i64 aa] ?_; (with_reducible refine (lodgerref04_Many.calls k aa ab _ A2.out).mono ?_); rintro e w' ⟨rfl, ⟨nd, rfl⟩⟩; refine ⟨_, rfl, ?_⟩) | (go_at_call 45; (with_reducible refine (lodgerref04_Many.calls k aa ab _ A2.out).mono ?_); rintro e w' ⟨rfl, ⟨nd, rfl⟩⟩))
 go_ret
 exact ⟨er_, hB_ HB⟩

end Go.Proofs.YtkiimboedgnoiaaDoor.PSpecBack
