/- The walk of GaugeOrder, part of it: what the Go functions answer; no condition. -/
import Derived.Test.YtepgjabpoabjnaaQGaugeOrderx0
namespace Go.Proofs.Ytepgjabpoabjnaa.PGaugeOrder
open Go.RowKit Go.Proofs.YtepgjabpoabjnaaW.PrintWords Go.Proofs.YtepgjabpoabjnaaW.PrintLast Go.Proofs.YtepgjabpoabjnaaW.PrintMore
attribute [local go_sem] max2_int min2_int max_two min_two max_three min_three max_four min_four   -- for this text's walks alone
set_option linter.unusedVariables false
set_option linter.unusedSimpArgs false

/-! ### lodgerref05_Held: function 25 -/
def lodgerref05_Held.l0 : Nat → Int → Int → Int → Int → List Int → Int → Int → Int → Int → Option (Bool)
 | 0, _, _, _, _, _, _, _, _, _ => none
 | k + 1, x1, x5, x172000, x172001, x172002, x172003, x172004, x172005, x172006 => if x5 < (x172002.length : Int) then (if 0 ≤ x5 then (if (rd x172002 x5) = x1 then (some true) else (lodgerref05_Held.l0 k x1 (wrap64 (x5 + 1)) x172000 x172001 x172002 x172003 x172004 x172005 x172006)) else (none)) else (some false)
def lodgerref05_Held.f (k : Nat) (a0_0 a0_1 : Int) (l0_2 : List Int) (a0_3 a0_4 : Int) (a0_5 a0_6 a1 : Int) : Option (Bool) := lodgerref05_Held.l0 k a1 0 a0_0 a0_1 l0_2 a0_3 a0_4 a0_5 a0_6
theorem lodgerref05_Held.mono_l : ∀ k, (∀ y0 y1 y2 y3 y4 y5 y6 y7 y8, LeO (lodgerref05_Held.l0 k y0 y1 y2 y3 y4 y5 y6 y7 y8) (lodgerref05_Held.l0 (k + 1) y0 y1 y2 y3 y4 y5 y6 y7 y8))
 | 0 => fun _ _ _ _ _ _ _ _ _ r h => by simp [lodgerref05_Held.l0] at h
 | k + 1 => by
  have ih0 := lodgerref05_Held.mono_l k
  ·intro y0 y1 y2 y3 y4 y5 y6 y7 y8
   unfold lodgerref05_Held.l0
   repeat' (with_reducible first | apply ih0 | exact LeO.refl _ | exact LeO.none _ | refine LeO.ite ?_ ?_ | refine LeO.bind ?_ (fun _ => ?_))
theorem lodgerref05_Held.mono : ∀ a0 a1 a2 a3 a4 a5 a6 a7 k, LeO (lodgerref05_Held.f k a0 a1 a2 a3 a4 a5 a6 a7) (lodgerref05_Held.f (k + 1) a0 a1 a2 a3 a4 a5 a6 a7) := by
 intro a0 a1 a2 a3 a4 a5 a6 a7 k
 have ih0 := lodgerref05_Held.mono_l k
 unfold lodgerref05_Held.f
 repeat' (with_reducible first | apply ih0 | exact LeO.refl _ | exact LeO.none _ | refine LeO.ite ?_ ?_ | refine LeO.bind ?_ (fun _ => ?_))
set_option maxHeartbeats 8000000 in
set_option maxRecDepth 100000 in
theorem lodgerref05_Held.calls (k : Nat) (ad ae : Int) (aj : Option Addr) (ak : Nat) (ab : List Int) (af ag : Int) (ah ai a1 : Int) (r : Bool) (w : World) (hr0_2 : Kd.C (Kd.int .i64) w aj ab.length ab) (hc0_2 : ab.length ≤ ak) (h : lodgerref05_Held.f k ad ae ab af ag ah ai a1 = some r) :
  Calls Try.prog 25 #[.agg #[.int .u32 ad, .int .i64 ae, .slice aj ab.length ak, .int .i64 af, .int .i64 ag, .int .i64 ah, .int .i64 ai], .int .i64 a1] w fun e w' => e = .returned (.bool r) ∧ Below w.heap.size w w' := by
 have hu27 := Try.underlying27
 have al := Aside0.mk hr0_2
 have bb := Aside0.mk hc0_2
 clear hr0_2 hc0_2
 have HB := Aside0.mk (Below.refl w.heap.size w)
 have H : (lodgerref05_Held.l0 k a1 0 ad ae ab af ag ah ai) = some r := h
 clear h
 have H' := Aside0.mk H
 clear H
 go_enter Try.func25, Try.ntmps25
 go_wp2_with (first | ((with_reducible refine gd_ 2 ?_); refine bx_ (N := 2) (cs := #[.int .u32 ad, .int .i64 ae, .slice aj ab.length ak, .int .i64 af, .int .i64 ag, .int .i64 ah, .int .i64 ai]) (t := 27) ?_; intro am hg w3 ac hb; have ba := gG_ hg HB; have a9 := gG_ hg HB; replace HB := hS_ HB hb; clear hb hg))
 go_loopg [5] k (fun kq v5 w' => ∃ (aa : Int), v5 = .int .i64 aa ∧ Aside0 (lodgerref05_Held.l0 kq a1 aa ad ae ab af ag ah ai = some r) ∧ Aside0 (kq ≤ k) ∧ Aside0 (w'.heap[am]? = some (.cells #[.int .u32 ad, .int .i64 ae, (.slice aj ab.length ak), .int .i64 af, .int .i64 ag, .int .i64 ah, .int .i64 ai] 27 (0, 0))) ∧ Aside0 (Below w.heap.size w w'))
 case atStart => exact ⟨(0), rs_, H', ⟨Nat.le_refl _⟩, ⟨bk_ ac⟩, ⟨hB_ HB⟩⟩
 case round =>
  clear H'
  try clear c2
  try clear p2
  obtain ⟨aa, rfl, HA, HK1, ac, HB⟩ := hrel
  cases gk with
  | zero => exact absurd HA.out (by simp [lodgerref05_Held.l0])
  | succ k1 =>
   have H := HA.out; clear HA; simp only [lodgerref05_Held.l0] at H
   by_cases c4 : aa < (ab.length : Int)
   ·rw [if_pos c4] at H
    have an : decide (aa < (ab.length : Int)) = true := decide_eq_true c4
    clear c4
    by_cases c5 : 0 ≤ aa
    ·rw [if_pos c5] at H
     have bc : decide (0 ≤ aa) = true := decide_eq_true c5
     clear c5
     by_cases c6 : (rd ab aa) = a1
     ·rw [if_pos c6] at H
      have ao : ((rd ab aa) == a1) = true := beq_iff_eq.mpr c6
      have ap : ((rd ab aa) != a1) = false := bne_eq_false_iff_eq.mpr c6
      clear c6
      obtain rfl := Option.some.inj H
      obtain ⟨aq, ar, au, av, aw, ax, ay, aN, aO, aP, aQ, aR, aS, aT⟩ := cz7_ (w := wr) ac
      have p172 : 0 ≤ (aa : Int) := od_
      have q172 : aa < (ab.length : Int) := od_
      obtain ⟨ad172, e172, hx172_0⟩ := Kd.at_int al.out aa p172 q172
      cases e172
      replace hx172_0 := (HB.out.cell (World.block_lt_of_cell? w _ hx172_0)).trans hx172_0; replace p172 := eq_true p172; replace q172 := eq_true q172
      go_wp2
      go_ret
      exact ⟨er_, hB_ HB⟩
     ·rw [if_neg c6] at H
      have ao : ((rd ab aa) == a1) = false := beq_eq_false_iff_ne.mpr c6
      have ap : ((rd ab aa) != a1) = true := bne_iff_ne.mpr c6
      have H' := Aside0.mk H
      clear H; obtain ⟨az, aA, aB, aC, aD, aE, aF, aU, aV, aW, aX, aY, aZ, a0⟩ := cz7_ (w := wr) ac
      have p172 : 0 ≤ (aa : Int) := od_
      have q172 : aa < (ab.length : Int) := od_
      obtain ⟨ad172, e172, hx172_0⟩ := Kd.at_int al.out aa p172 q172
      cases e172
      replace hx172_0 := (HB.out.cell (World.block_lt_of_cell? w _ hx172_0)).trans hx172_0; replace p172 := eq_true p172; replace q172 := eq_true q172
      go_wp2
      go_roundg k1
      case measure => have := HK1.out; omega
      case rel => exact ⟨(wrap64 (aa + 1)), rs_, H', ⟨om_ HK1⟩, ⟨bk_ ac⟩, ⟨hB_ HB⟩⟩
    ·rw [if_neg c5] at H
     exact absurd H (by simp)
   ·rw [if_neg c4] at H
    have an : decide (aa < (ab.length : Int)) = false := decide_eq_false c4
    clear c4
    obtain rfl := Option.some.inj H
    obtain ⟨aG, aH, aI, aJ, aK, aL, aM, a2, a3, a4, a5, a6, a7, a8⟩ := cz7_ (w := wr) ac
    go_wp2
    go_ret
    exact ⟨er_, hB_ HB⟩

end Go.Proofs.Ytepgjabpoabjnaa.PGaugeOrder
