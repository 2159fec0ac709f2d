/- The walk of CellsDo, part of it: what the Go functions answer; no condition. -/
import Derived.Test.YtpkomlobikmkkaaQCellsDox0
import Derived.Test.YtpkomlobikmkkaaQCellsDox1
namespace Go.Proofs.Ytpkomlobikmkkaa.PCellsDo
open Go.RowKit Go.Proofs.YtpkomlobikmkkaaW.PrintWords Go.Proofs.YtpkomlobikmkkaaW.PrintLast Go.Proofs.YtpkomlobikmkkaaW.PrintMore
attribute [local go_sem] max2_int min2_int max_two min_two max_three min_three max_four min_four   -- for this text's walks alone
set_option linter.unusedVariables false
set_option linter.unusedSimpArgs false

/-! ### lodgerref02_Swap: function 14 -/
def lodgerref02_Swap.f (k : Nat) (l0 : List Int) (a1 : Int) (a2 : Int) (a3 : Int) : Option (List Int × Bool) := if a1 < 0 then (some (l0, false)) else (if a1 ≥ (l0.length : Int) then (some (l0, false)) else (if 0 ≤ a1 then (if a1 < (l0.length : Int) then (if (rd l0 a1) = a2 then ((lodgerref02_Set.f k l0 a1 a3).bind fun t150 => (some (t150, true))) else (some (l0, false))) else (none)) else (none)))
theorem lodgerref02_Swap.mono : ∀ a0 a1 a2 a3 k, LeO (lodgerref02_Swap.f k a0 a1 a2 a3) (lodgerref02_Swap.f (k + 1) a0 a1 a2 a3) := by
  intro a0 a1 a2 a3 k
  unfold lodgerref02_Swap.f
  repeat' first
      | (with_reducible exact lodgerref02_Set.mono _ _ _ _)
      | (with_reducible exact LeO.refl _)
      | (with_reducible exact LeO.none _)
      | (with_reducible refine LeO.ite ?_ ?_)
      | (with_reducible refine LeO.bind ?_ (fun _ => ?_))
      | exact lodgerref02_Set.mono _ _ _ _
      | exact LeO.none _
      | refine LeO.ite ?_ ?_
      | refine LeO.bind ?_ (fun _ => ?_)
set_option maxHeartbeats 8000000 in
set_option maxRecDepth 100000 in
theorem lodgerref02_Swap.calls (k : Nat) (P0_ : Nat → Prop) (A0 : Option Addr) (c0 : Nat) (l0 : List Int) (a1 : Int) (a2 : Int) (a3 : Int) (r1 : List Int) (r2 : Bool) (w : World) (hs0 : Kd.V (Kd.int .u64) 23 w w.heap.size (fun k_ => P0_ k_) (.slice A0 l0.length c0) l0) (h : lodgerref02_Swap.f k l0 a1 a2 a3 = some (r1, r2)) :
    Calls Try.prog 14 #[.slice A0 l0.length c0, .int .i64 a1, .int .u64 a2, .int .u64 a3] w fun e w' => ∃ v0_ : Value, e = .returned (.tuple #[v0_, .bool r2]) ∧ Kd.V (Kd.int .u64) 23 w' w.heap.size (fun k_ => (P0_ k_ ∨ w.heap.size ≤ k_)) v0_ r1 ∧ Below w.heap.size w w' := by
  have HO0 := Aside0.mk (show Kd.V (Kd.int .u64) 23 w w.heap.size (fun k_ => (P0_ k_ ∨ w.heap.size ≤ k_)) (.slice A0 l0.length c0) l0 from Kd.V_mono hs0 (fun k_ hk => .inl hk))
  have HB := Aside0.mk (Below.refl w.heap.size w)
  have H : (if a1 < 0 then (some (l0, false)) else (if a1 ≥ (l0.length : Int) then (some (l0, false)) else (if 0 ≤ a1 then (if a1 < (l0.length : Int) then (if (rd l0 a1) = a2 then ((lodgerref02_Set.f k l0 a1 a3).bind fun t150 => (some (t150, true))) else (some (l0, false))) else (none)) else (none)))) = some (r1, r2) := h
  clear h
  by_cases c5 : a1 < 0
  · rw [if_pos c5] at H
    have c5b0 : decide (a1 < 0) = true := decide_eq_true c5
    clear c5
    simp only [Option.some.injEq, Prod.mk.injEq] at H
    obtain ⟨rfl, rfl⟩ := H
    go_enter Try.func14, Try.ntmps14
    go_wp2
    go_ret2
    exact ⟨_, by first | rfl | (simp [errW_none, errW_some] <;> rfl) | (simp [*, errW_none, errW_some] <;> rfl), by (with_reducible repeat (first | apply Kd.V_alloc | apply Kd.V_drewN | apply Kd.V_drew)); exact HO0.out, by repeat (first | (with_reducible first | exact HB.out | apply below_alloc | apply pw_below_drewN | apply below_drew1) | exact HB.out)⟩
  · rw [if_neg c5] at H
    have c5b0 : decide (a1 < 0) = false := decide_eq_false c5
    clear c5
    by_cases c6 : a1 ≥ (l0.length : Int)
    · rw [if_pos c6] at H
      have c6b0 : decide ((l0.length : Int) ≤ a1) = true := decide_eq_true c6
      clear c6
      simp only [Option.some.injEq, Prod.mk.injEq] at H
      obtain ⟨rfl, rfl⟩ := H
      go_enter Try.func14, Try.ntmps14
      go_wp2
      go_ret2
      exact ⟨_, by first | rfl | (simp [errW_none, errW_some] <;> rfl) | (simp [*, errW_none, errW_some] <;> rfl), by (with_reducible repeat (first | apply Kd.V_alloc | apply Kd.V_drewN | apply Kd.V_drew)); exact HO0.out, by repeat (first | (with_reducible first | exact HB.out | apply below_alloc | apply pw_below_drewN | apply below_drew1) | exact HB.out)⟩
    · rw [if_neg c6] at H
      have c6b0 : decide ((l0.length : Int) ≤ a1) = false := decide_eq_false c6
      clear c6
      by_cases c7 : 0 ≤ a1
      · rw [if_pos c7] at H
        have c7b0 : decide (0 ≤ a1) = true := decide_eq_true c7
        clear c7
        by_cases c8 : a1 < (l0.length : Int)
        · rw [if_pos c8] at H
          have c8b0 : decide (a1 < (l0.length : Int)) = true := decide_eq_true c8
          clear c8
          by_cases c9 : (rd l0 a1) = a2
          · rw [if_pos c9] at H
            have c9b0 : ((rd l0 a1) == a2) = true := beq_iff_eq.mpr c9
            have c9b1 : ((rd l0 a1) != a2) = false := bne_eq_false_iff_eq.mpr c9
            clear c9
            replace H := Option.bind_eq_some_iff.mp H
            obtain ⟨t150, A100, H⟩ := H
            replace H : (some (t150, true)) = some (r1, r2) := H
            have A10 := Aside0.mk A100
            clear A100
            simp only [Option.some.injEq, Prod.mk.injEq] at H
            obtain ⟨rfl, rfl⟩ := H
            have p149 : 0 ≤ (a1 : Int) := of_decide_eq_true (by first | (with_reducible assumption) | assumption)
            have q149 : a1 < (l0.length : Int) := of_decide_eq_true (by first | (with_reducible assumption) | assumption)
            obtain ⟨ad149, e149, hx149_0⟩ := Kd.at_int (Kd.V_reads' HO0.out).2.2 a1 p149 q149
            cases e149
            replace p149 := eq_true p149
            replace q149 := eq_true q149
            go_enter Try.func14, Try.ntmps14
            go_wp2_with (first | ((with_reducible refine gate_callee (f := 19) rfl ?_); refine goesL_ (some 30) rfl rfl Try.func19 (by kernel_rfl) rfl #[.slice (some ad149) l0.length c0, .int .i64 a1, .int .u64 a3] rfl (by (try simp only [List.map_toArray, List.map_cons, List.map_nil]); first | done | rfl | (simp only [List.length_drop, List.length_take]; rfl)) ?_; (with_reducible refine (lodgerref02_Set.calls k _ _ l0 a1 a3 t150 _ ?side1 ?side2 A10.out).mono ?_); (case side1 => repeat (first | exact (Kd.V_reads' HO0.out).2.2 | (with_reducible refine Kd.C_alloc ?_ _) | (with_reducible refine Kd.C_drewN ?_ _) | (with_reducible refine Kd.C_drew ?_))); (case side2 => exact (Kd.V_reads' HO0.out).2.1); rintro e w11 ⟨v151, rfl, ho0, hb⟩; refine ⟨_, rfl, ?_⟩; have n0_ := Aside0.mk (Kd.V_elder' (by (with_reducible repeat (first | apply Kd.V_alloc | apply Kd.V_drewN | apply Kd.V_drew)); exact HO0.out) (Kd.R_base ho0) hb); have n1_ := Aside0.mk (Kd.R_lower (Kd.R_newM (M := fun k_ => (w.heap.size ≤ k_)) ho0 (below_size (by repeat (first | (with_reducible first | exact HB.out | apply below_alloc | apply pw_below_drewN | apply below_drew1) | exact HB.out))) (fun k_ h_ => h_)) (below_size (by repeat (first | (with_reducible first | exact HB.out | apply below_alloc | apply pw_below_drewN | apply below_drew1) | exact HB.out)))); have n2_ := Aside0.mk (below_step (by repeat (first | (with_reducible first | exact HB.out | apply below_alloc | apply pw_below_drewN | apply below_drew1) | exact HB.out)) hb); clear HO0; clear HB; have HO0 := n0_; have HO152 := n1_; have HB := n2_; clear n0_ n1_ n2_; (try clear hb); (try clear hb2); (try clear hk); (try clear hi); (try clear ho0)))
            go_ret2
            exact ⟨_, by first | rfl | (simp [errW_none, errW_some] <;> rfl) | (simp [*, errW_none, errW_some] <;> rfl), Kd.V_mono (Kd.R_V (by (with_reducible repeat (first | apply Kd.R_alloc | apply Kd.R_drewN | apply Kd.R_drew)); exact Kd.R_mono HO152.out (fun _ hk => hk.1))) (fun k_ hk => by first | exact ⟨(.inr (hk.1)), hk.2⟩ | exact (.inr (hk))), by repeat (first | (with_reducible first | exact HB.out | apply below_alloc | apply pw_below_drewN | apply below_drew1) | exact HB.out)⟩
          · rw [if_neg c9] at H
            have c9b0 : ((rd l0 a1) == a2) = false := beq_eq_false_iff_ne.mpr c9
            have c9b1 : ((rd l0 a1) != a2) = true := bne_iff_ne.mpr c9
            simp only [Option.some.injEq, Prod.mk.injEq] at H
            obtain ⟨rfl, rfl⟩ := H
            have p149 : 0 ≤ (a1 : Int) := of_decide_eq_true (by first | (with_reducible assumption) | assumption)
            have q149 : a1 < (l0.length : Int) := of_decide_eq_true (by first | (with_reducible assumption) | assumption)
            obtain ⟨ad149, e149, hx149_0⟩ := Kd.at_int (Kd.V_reads' HO0.out).2.2 a1 p149 q149
            cases e149
            replace p149 := eq_true p149
            replace q149 := eq_true q149
            go_enter Try.func14, Try.ntmps14
            go_wp2
            go_ret2
            exact ⟨_, by first | rfl | (simp [errW_none, errW_some] <;> rfl) | (simp [*, errW_none, errW_some] <;> rfl), by (with_reducible repeat (first | apply Kd.V_alloc | apply Kd.V_drewN | apply Kd.V_drew)); exact HO0.out, by repeat (first | (with_reducible first | exact HB.out | apply below_alloc | apply pw_below_drewN | apply below_drew1) | exact HB.out)⟩
        · rw [if_neg c8] at H
          exact absurd H (by simp)
      · rw [if_neg c7] at H
        exact absurd H (by simp)

/-! ### lodgerref02_Load: function 16 -/
def lodgerref02_Load.l0 : Nat → List Int → Int → Int → Option (Int)
  | 0, _, _, _ => none
  | k + 1, x0, x1, x5 => if x5 < (x0.length : Int) then (if x5 = x1 then (if 0 ≤ x5 then (some (rd x0 x5)) else (none)) else (lodgerref02_Load.l0 k x0 x1 (wrap64 (x5 + 1)))) else (some 0)
def lodgerref02_Load.f (k : Nat) (l0 : List Int) (a1 : Int) : Option (Int) := lodgerref02_Load.l0 k l0 a1 0
theorem lodgerref02_Load.mono_l : ∀ k, (∀ y0 y1 y2, LeO (lodgerref02_Load.l0 k y0 y1 y2) (lodgerref02_Load.l0 (k + 1) y0 y1 y2))
  | 0 => fun _ _ _ r h => by simp [lodgerref02_Load.l0] at h
  | k + 1 => by
    have ih0 := lodgerref02_Load.mono_l k
    · intro y0 y1 y2
      unfold lodgerref02_Load.l0
      repeat' first
      | (with_reducible exact ih0 _ _ _)
      | (with_reducible exact LeO.refl _)
      | (with_reducible exact LeO.none _)
      | (with_reducible refine LeO.ite ?_ ?_)
      | (with_reducible refine LeO.bind ?_ (fun _ => ?_))
      | exact ih0 _ _ _
      | exact LeO.none _
      | refine LeO.ite ?_ ?_
      | refine LeO.bind ?_ (fun _ => ?_)
theorem lodgerref02_Load.mono : ∀ a0 a1 k, LeO (lodgerref02_Load.f k a0 a1) (lodgerref02_Load.f (k + 1) a0 a1) := by
  intro a0 a1 k
  have ih0 := lodgerref02_Load.mono_l k
  unfold lodgerref02_Load.f
  repeat' first
      | (with_reducible exact ih0 _ _ _)
      | (with_reducible exact LeO.refl _)
      | (with_reducible exact LeO.none _)
      | (with_reducible refine LeO.ite ?_ ?_)
      | (with_reducible refine LeO.bind ?_ (fun _ => ?_))
      | exact ih0 _ _ _
      | exact LeO.none _
      | refine LeO.ite ?_ ?_
      | refine LeO.bind ?_ (fun _ => ?_)
set_option maxHeartbeats 8000000 in
set_option maxRecDepth 100000 in
theorem lodgerref02_Load.calls (k : Nat) (A0 : Option Addr) (c0 : Nat) (l0 : List Int) (a1 : Int) (r : Int) (w : World) (hr0 : Kd.C (Kd.int .u64) w A0 l0.length l0) (hc0 : l0.length ≤ c0) (h : lodgerref02_Load.f k l0 a1 = some r) :
    Calls Try.prog 16 #[.slice A0 l0.length c0, .int .i64 a1] w fun e w' => e = .returned (.int .u64 r) ∧ Drawn0 w w' := by
  have HR0 := Aside0.mk hr0
  have HC0 := Aside0.mk hc0
  clear hr0 hc0
  have H : (lodgerref02_Load.l0 k l0 a1 0) = some r := h
  clear h
  have H' := Aside0.mk H
  clear H
  go_enter Try.func16, Try.ntmps16
  go_wp2
  go_loopg [5] k (fun kq v5 w' => ∃ (x5_1 : Int), v5 = .int .i64 x5_1 ∧ Aside0 (lodgerref02_Load.l0 kq l0 a1 x5_1 = some r) ∧ Aside0 (kq ≤ k) ∧ Drawn0 w w')
  case atStart => exact ⟨(0), (by first | rfl | (simp; done) | (simp [*]; done)), H', ⟨Nat.le_refl _⟩, by repeat (first | exact Drawn0.refl _ | apply Drawn0.step)⟩
  case round =>
    clear H'
    try clear c1
    try clear p2
    obtain ⟨x5_1, rfl, HA, HK1, ⟨m1, rfl⟩⟩ := hrel
    cases gk with
    | zero => exact absurd HA.out (by simp [lodgerref02_Load.l0])
    | succ k1 =>
      have H := HA.out
      clear HA
      simp only [lodgerref02_Load.l0] at H
      by_cases c3 : x5_1 < (l0.length : Int)
      · rw [if_pos c3] at H
        have c3b0 : decide (x5_1 < (l0.length : Int)) = true := decide_eq_true c3
        clear c3
        by_cases c4 : x5_1 = a1
        · rw [if_pos c4] at H
          have c4b0 : (x5_1 == a1) = true := beq_iff_eq.mpr c4
          have c4b1 : (x5_1 != a1) = false := bne_eq_false_iff_eq.mpr c4
          clear c4
          by_cases c5 : 0 ≤ x5_1
          · rw [if_pos c5] at H
            have c5b0 : decide (0 ≤ x5_1) = true := decide_eq_true c5
            clear c5
            obtain rfl := Option.some.inj H
            have p153 : 0 ≤ (x5_1 : Int) := of_decide_eq_true (by first | (with_reducible assumption) | assumption)
            have q153 : x5_1 < (l0.length : Int) := of_decide_eq_true (by first | (with_reducible assumption) | assumption)
            obtain ⟨ad153, e153, hx153_0⟩ := Kd.at_int HR0.out x5_1 p153 q153
            cases e153
            replace p153 := eq_true p153
            replace q153 := eq_true q153
            go_wp2
            go_ret
            exact ⟨by first | rfl | (simp; done) | (simp [*]; done), by repeat (first | exact Drawn0.refl _ | apply Drawn0.step)⟩
          · rw [if_neg c5] at H
            exact absurd H (by simp)
        · rw [if_neg c4] at H
          have c4b0 : (x5_1 == a1) = false := beq_eq_false_iff_ne.mpr c4
          have c4b1 : (x5_1 != a1) = true := bne_iff_ne.mpr c4
          have H' := Aside0.mk H
          clear H
          go_wp2
          go_roundg k1
          case measure => have := HK1.out; omega
          case rel => exact ⟨(wrap64 (x5_1 + 1)), (by first | rfl | (simp; done) | (simp [*]; done)), H', ⟨by have := HK1.out; omega⟩, by repeat (first | exact Drawn0.refl _ | apply Drawn0.step)⟩
      · rw [if_neg c3] at H
        have c3b0 : decide (x5_1 < (l0.length : Int)) = false := decide_eq_false c3
        clear c3
        obtain rfl := Option.some.inj H
        go_wp2
        go_ret
        exact ⟨by first | rfl | (simp; done) | (simp [*]; done), by repeat (first | exact Drawn0.refl _ | apply Drawn0.step)⟩

/-! ### lodgerlaw02_CellsDo: function 3 -/
def lodgerlaw02_CellsDo.j0 : Nat → List Int → Int → Int → Int → Bool → Option (Bool)
  | 0, _, _, _, _, _ => none
  | k + 1, x0, x1, x2, x3, x19 => if x19 = true then ((lodgerlaw02_awake.f k).bind fun t155 => (some t155)) else ((cells_Swap.f x0 x1 x2 x3).bind fun bt156 => ((lodgerref02_Swap.f k x0 x1 x2 x3).bind fun bt160 => ((cells_Load.f x0 x1).bind fun t164 => ((lodgerref02_Load.f k x0 x1).bind fun t165 => (if t164 = t165 then ((cells_Store.f x0 x1 x3).bind fun t166 => ((lodgerref02_Set.f k x0 x1 x3).bind fun t169 => ((lodgerref02_Same.f k t166 t169).bind fun t172 => (if t172 = true then ((cells_Add.f x0 x1 x3).bind fun t173 => ((lodgerref02_Load.f k x0 x1).bind fun t176 => ((lodgerref02_Set.f k x0 x1 (IntKind.u64.wrap (t176 + x3))).bind fun t177 => ((lodgerref02_Same.f k t173 t177).bind fun t180 => (if t180 = true then ((lodgerref02_Same.f k bt156.1 bt160.1).bind fun t181 => (if t181 = true then (some (bt156.2 == bt160.2)) else (some false))) else (some false)))))) else (some false))))) else (some false))))))
def lodgerlaw02_CellsDo.f (k : Nat) (l0 : List Int) (a1 : Int) (a2 : Int) (a3 : Int) : Option (Bool) := (lodgerlaw02_awake.f k).bind fun t154 => (if t154 = true then (lodgerlaw02_CellsDo.j0 k l0 a1 a2 a3 (decide ((l0.length : Int) > 2000))) else (lodgerlaw02_CellsDo.j0 k l0 a1 a2 a3 true))
theorem lodgerlaw02_CellsDo.mono_l : ∀ k, (∀ y0 y1 y2 y3 y4, LeO (lodgerlaw02_CellsDo.j0 k y0 y1 y2 y3 y4) (lodgerlaw02_CellsDo.j0 (k + 1) y0 y1 y2 y3 y4))
  | 0 => fun _ _ _ _ _ r h => by simp [lodgerlaw02_CellsDo.j0] at h
  | k + 1 => by
    have ih0 := lodgerlaw02_CellsDo.mono_l k
    · intro y0 y1 y2 y3 y4
      unfold lodgerlaw02_CellsDo.j0
      repeat' first
      | (with_reducible exact ih0 _ _ _ _ _)
      | (with_reducible exact lodgerlaw02_awake.mono _)
      | (with_reducible exact lodgerref02_Load.mono _ _ _)
      | (with_reducible exact lodgerref02_Same.mono _ _ _)
      | (with_reducible exact lodgerref02_Set.mono _ _ _ _)
      | (with_reducible exact lodgerref02_Swap.mono _ _ _ _ _)
      | (with_reducible exact LeO.refl _)
      | (with_reducible exact LeO.none _)
      | (with_reducible refine LeO.ite ?_ ?_)
      | (with_reducible refine LeO.bind ?_ (fun _ => ?_))
      | exact ih0 _ _ _ _ _
      | exact lodgerlaw02_awake.mono _
      | exact lodgerref02_Load.mono _ _ _
      | exact lodgerref02_Same.mono _ _ _
      | exact lodgerref02_Set.mono _ _ _ _
      | exact lodgerref02_Swap.mono _ _ _ _ _
      | exact LeO.none _
      | refine LeO.ite ?_ ?_
      | refine LeO.bind ?_ (fun _ => ?_)
theorem lodgerlaw02_CellsDo.mono : ∀ a0 a1 a2 a3 k, LeO (lodgerlaw02_CellsDo.f k a0 a1 a2 a3) (lodgerlaw02_CellsDo.f (k + 1) a0 a1 a2 a3) := by
  intro a0 a1 a2 a3 k
  have ih0 := lodgerlaw02_CellsDo.mono_l k
  unfold lodgerlaw02_CellsDo.f
  repeat' first
      | (with_reducible exact ih0 _ _ _ _ _)
      | (with_reducible exact lodgerlaw02_awake.mono _)
      | (with_reducible exact lodgerref02_Load.mono _ _ _)
      | (with_reducible exact lodgerref02_Same.mono _ _ _)
      | (with_reducible exact lodgerref02_Set.mono _ _ _ _)
      | (with_reducible exact lodgerref02_Swap.mono _ _ _ _ _)
      | (with_reducible exact LeO.refl _)
      | (with_reducible exact LeO.none _)
      | (with_reducible refine LeO.ite ?_ ?_)
      | (with_reducible refine LeO.bind ?_ (fun _ => ?_))
      | exact ih0 _ _ _ _ _
      | exact lodgerlaw02_awake.mono _
      | exact lodgerref02_Load.mono _ _ _
      | exact lodgerref02_Same.mono _ _ _
      | exact lodgerref02_Set.mono _ _ _ _
      | exact lodgerref02_Swap.mono _ _ _ _ _
      | exact LeO.none _
      | refine LeO.ite ?_ ?_
      | refine LeO.bind ?_ (fun _ => ?_)
set_option maxHeartbeats 8000000 in
set_option maxRecDepth 100000 in
theorem lodgerlaw02_CellsDo.calls (k : Nat) (A0 : Option Addr) (c0 : Nat) (l0 : List Int) (a1 : Int) (a2 : Int) (a3 : Int) (r : Bool) (w : World) (hr0 : Kd.C (Kd.int .u64) w A0 l0.length l0) (hc0 : l0.length ≤ c0) (hr_ : r = true) (h : lodgerlaw02_CellsDo.f k l0 a1 a2 a3 = some r) :
    Calls Try.prog 3 #[.slice A0 l0.length c0, .int .i64 a1, .int .u64 a2, .int .u64 a3] w fun e w' => e = .returned (.bool r) ∧ Below w.heap.size w w' := by
  have HR0 := Aside0.mk hr0
  have HC0 := Aside0.mk hc0
  clear hr0 hc0
  have HB := Aside0.mk (Below.refl w.heap.size w)
  replace hr_ := Aside0.mk hr_
  have H : ((lodgerlaw02_awake.f k).bind fun t154 => (if t154 = true then (lodgerlaw02_CellsDo.j0 k l0 a1 a2 a3 (decide ((l0.length : Int) > 2000))) else (lodgerlaw02_CellsDo.j0 k l0 a1 a2 a3 true))) = some r := h
  clear h
  have HC5 := Aside0.mk H
  clear H
  go_enter Try.func3, Try.ntmps3
  go_upto_region 1 with (fail)
  go_cut [19] (fun v19 wc => ∃ (kq : Nat) (x19_4 : Bool), v19 = .bool x19_4 ∧ Aside0 (lodgerlaw02_CellsDo.j0 kq l0 a1 a2 a3 x19_4 = some r) ∧ Aside0 (kq ≤ k) ∧ Aside0 (Below w.heap.size w wc))
  case first =>
    have H := HC5.out
    clear HC5
    replace H := Option.bind_eq_some_iff.mp H
    obtain ⟨t154, A60, H⟩ := H
    replace H : (if t154 = true then (lodgerlaw02_CellsDo.j0 k l0 a1 a2 a3 (decide ((l0.length : Int) > 2000))) else (lodgerlaw02_CellsDo.j0 k l0 a1 a2 a3 true)) = some r := H
    have A6 := Aside0.mk A60
    clear A60
    by_cases c7 : t154 = true
    · subst c7
      have H1 : (lodgerlaw02_CellsDo.j0 k l0 a1 a2 a3 (decide ((l0.length : Int) > 2000))) = some r := by rw [if_pos rfl] at H; exact H
      clear H
      have H := H1
      clear H1
      have H' := Aside0.mk H
      clear H
      go_wp2_with (first | ((with_reducible refine gate_callee (f := 12) rfl ?_); refine goesL_ (some 13) rfl rfl Try.func12 (by kernel_rfl) rfl #[] rfl (by (try simp only [List.map_toArray, List.map_cons, List.map_nil]); first | done | rfl | (simp only [List.length_drop, List.length_take]; rfl)) ?_; (with_reducible refine (lodgerlaw02_awake.calls k  true _ A6.out).mono ?_); rintro e w8 ⟨rfl, hb⟩; refine ⟨_, rfl, ?_⟩; have n0_ := Aside0.mk (below_step (by repeat (first | (with_reducible first | exact HB.out | apply below_alloc | apply pw_below_drewN | apply below_drew1) | exact HB.out)) hb); clear HB; have HB := n0_; clear n0_; (try clear hb); (try clear hb2); (try clear hk); (try clear hi)))
      go_meet
      case rel => exact ⟨_, (decide ((l0.length : Int) > 2000)), (by first | rfl | (simp; done) | (simp [*]; done)), H', ⟨by first | omega | exact Nat.le_refl _⟩, ⟨by repeat (first | (with_reducible first | exact HB.out | apply below_alloc | apply pw_below_drewN | apply below_drew1) | exact HB.out)⟩⟩
    · replace c7 := Bool.eq_false_iff.mpr c7
      subst c7
      have H1 : (lodgerlaw02_CellsDo.j0 k l0 a1 a2 a3 true) = some r := by rw [if_neg (show ¬ (false = true) by decide)] at H; exact H
      clear H
      have H := H1
      clear H1
      have H' := Aside0.mk H
      clear H
      go_wp2_with (first | ((with_reducible refine gate_callee (f := 12) rfl ?_); refine goesL_ (some 13) rfl rfl Try.func12 (by kernel_rfl) rfl #[] rfl (by (try simp only [List.map_toArray, List.map_cons, List.map_nil]); first | done | rfl | (simp only [List.length_drop, List.length_take]; rfl)) ?_; (with_reducible refine (lodgerlaw02_awake.calls k  false _ A6.out).mono ?_); rintro e w9 ⟨rfl, hb⟩; refine ⟨_, rfl, ?_⟩; have n0_ := Aside0.mk (below_step (by repeat (first | (with_reducible first | exact HB.out | apply below_alloc | apply pw_below_drewN | apply below_drew1) | exact HB.out)) hb); clear HB; have HB := n0_; clear n0_; (try clear hb); (try clear hb2); (try clear hk); (try clear hi)))
      go_meet
      case rel => exact ⟨_, (true), (by first | rfl | (simp; done) | (simp [*]; done)), H', ⟨by first | omega | exact Nat.le_refl _⟩, ⟨by repeat (first | (with_reducible first | exact HB.out | apply below_alloc | apply pw_below_drewN | apply below_drew1) | exact HB.out)⟩⟩
  case rest =>
    clear HC5
    try clear c1
    try clear p2
    try clear c3
    try clear c7
    obtain ⟨kq, x19_4, rfl, HA, HJ4, HB⟩ := hcut
    cases kq with
    | zero => exact absurd HA.out (by simp [lodgerlaw02_CellsDo.j0])
    | succ kj4 =>
      have H := HA.out
      clear HA
      simp only [lodgerlaw02_CellsDo.j0] at H
      by_cases c10 : x19_4 = true
      · subst c10
        have H1 : ((lodgerlaw02_awake.f kj4).bind fun t155 => (some t155)) = some r := by rw [if_pos rfl] at H; exact H
        clear H
        have H := H1
        clear H1
        replace H := Option.bind_eq_some_iff.mp H
        obtain ⟨t155, A110, H⟩ := H
        replace H : (some t155) = some r := H
        have A11 := Aside0.mk A110
        clear A110
        first | (exfalso; rw [hr_.out] at H; exact absurd (Option.some.inj H) (by decide)) | (try clear hr_)
        all_goals
          obtain rfl := Option.some.inj H
          go_wp2_with (first | ((with_reducible refine gate_callee (f := 12) rfl ?_); refine goesL_ (some 20) rfl rfl Try.func12 (by kernel_rfl) rfl #[] rfl (by (try simp only [List.map_toArray, List.map_cons, List.map_nil]); first | done | rfl | (simp only [List.length_drop, List.length_take]; rfl)) ?_; (with_reducible refine (lodgerlaw02_awake.calls kj4  t155 _ A11.out).mono ?_); rintro e w12 ⟨rfl, hb⟩; refine ⟨_, rfl, ?_⟩; have n0_ := Aside0.mk (below_step (by repeat (first | (with_reducible first | exact HB.out | apply below_alloc | apply pw_below_drewN | apply below_drew1) | exact HB.out)) hb); clear HB; have HB := n0_; clear n0_; (try clear hb); (try clear hb2); (try clear hk); (try clear hi)))
          go_ret
          exact ⟨by first | rfl | (simp [errW_none, errW_some] <;> rfl) | (simp [*, errW_none, errW_some] <;> rfl), by repeat (first | (with_reducible first | exact HB.out | apply below_alloc | apply pw_below_drewN | apply below_drew1) | exact HB.out)⟩
      · replace c10 := Bool.eq_false_iff.mpr c10
        subst c10
        have H1 : ((cells_Swap.f l0 a1 a2 a3).bind fun bt156 => ((lodgerref02_Swap.f kj4 l0 a1 a2 a3).bind fun bt160 => ((cells_Load.f l0 a1).bind fun t164 => ((lodgerref02_Load.f kj4 l0 a1).bind fun t165 => (if t164 = t165 then ((cells_Store.f l0 a1 a3).bind fun t166 => ((lodgerref02_Set.f kj4 l0 a1 a3).bind fun t169 => ((lodgerref02_Same.f kj4 t166 t169).bind fun t172 => (if t172 = true then ((cells_Add.f l0 a1 a3).bind fun t173 => ((lodgerref02_Load.f kj4 l0 a1).bind fun t176 => ((lodgerref02_Set.f kj4 l0 a1 (IntKind.u64.wrap (t176 + a3))).bind fun t177 => ((lodgerref02_Same.f kj4 t173 t177).bind fun t180 => (if t180 = true then ((lodgerref02_Same.f kj4 bt156.1 bt160.1).bind fun t181 => (if t181 = true then (some (bt156.2 == bt160.2)) else (some false))) else (some false)))))) else (some false))))) else (some false)))))) = some r := by rw [if_neg (show ¬ (false = true) by decide)] at H; exact H
        clear H
        have H := H1
        clear H1
        replace H := Option.bind_eq_some_iff.mp H
        obtain ⟨⟨t156, t159⟩, A130, H⟩ := H
        replace H : ((lodgerref02_Swap.f kj4 l0 a1 a2 a3).bind fun bt160 => ((cells_Load.f l0 a1).bind fun t164 => ((lodgerref02_Load.f kj4 l0 a1).bind fun t165 => (if t164 = t165 then ((cells_Store.f l0 a1 a3).bind fun t166 => ((lodgerref02_Set.f kj4 l0 a1 a3).bind fun t169 => ((lodgerref02_Same.f kj4 t166 t169).bind fun t172 => (if t172 = true then ((cells_Add.f l0 a1 a3).bind fun t173 => ((lodgerref02_Load.f kj4 l0 a1).bind fun t176 => ((lodgerref02_Set.f kj4 l0 a1 (IntKind.u64.wrap (t176 + a3))).bind fun t177 => ((lodgerref02_Same.f kj4 t173 t177).bind fun t180 => (if t180 = true then ((lodgerref02_Same.f kj4 t156 bt160.1).bind fun t181 => (if t181 = true then (some (t159 == bt160.2)) else (some false))) else (some false)))))) else (some false))))) else (some false))))) = some r := H
        have A13 := Aside0.mk A130
        clear A130
        replace H := Option.bind_eq_some_iff.mp H
        obtain ⟨⟨t160, t163⟩, A140, H⟩ := H
        replace H : ((cells_Load.f l0 a1).bind fun t164 => ((lodgerref02_Load.f kj4 l0 a1).bind fun t165 => (if t164 = t165 then ((cells_Store.f l0 a1 a3).bind fun t166 => ((lodgerref02_Set.f kj4 l0 a1 a3).bind fun t169 => ((lodgerref02_Same.f kj4 t166 t169).bind fun t172 => (if t172 = true then ((cells_Add.f l0 a1 a3).bind fun t173 => ((lodgerref02_Load.f kj4 l0 a1).bind fun t176 => ((lodgerref02_Set.f kj4 l0 a1 (IntKind.u64.wrap (t176 + a3))).bind fun t177 => ((lodgerref02_Same.f kj4 t173 t177).bind fun t180 => (if t180 = true then ((lodgerref02_Same.f kj4 t156 t160).bind fun t181 => (if t181 = true then (some (t159 == t163)) else (some false))) else (some false)))))) else (some false))))) else (some false)))) = some r := H
        have A14 := Aside0.mk A140
        clear A140
        replace H := Option.bind_eq_some_iff.mp H
        obtain ⟨t164, A150, H⟩ := H
        replace H : ((lodgerref02_Load.f kj4 l0 a1).bind fun t165 => (if t164 = t165 then ((cells_Store.f l0 a1 a3).bind fun t166 => ((lodgerref02_Set.f kj4 l0 a1 a3).bind fun t169 => ((lodgerref02_Same.f kj4 t166 t169).bind fun t172 => (if t172 = true then ((cells_Add.f l0 a1 a3).bind fun t173 => ((lodgerref02_Load.f kj4 l0 a1).bind fun t176 => ((lodgerref02_Set.f kj4 l0 a1 (IntKind.u64.wrap (t176 + a3))).bind fun t177 => ((lodgerref02_Same.f kj4 t173 t177).bind fun t180 => (if t180 = true then ((lodgerref02_Same.f kj4 t156 t160).bind fun t181 => (if t181 = true then (some (t159 == t163)) else (some false))) else (some false)))))) else (some false))))) else (some false))) = some r := H
        have A15 := Aside0.mk A150
        clear A150
        replace H := Option.bind_eq_some_iff.mp H
        obtain ⟨t165, A160, H⟩ := H
        replace H : (if t164 = t165 then ((cells_Store.f l0 a1 a3).bind fun t166 => ((lodgerref02_Set.f kj4 l0 a1 a3).bind fun t169 => ((lodgerref02_Same.f kj4 t166 t169).bind fun t172 => (if t172 = true then ((cells_Add.f l0 a1 a3).bind fun t173 => ((lodgerref02_Load.f kj4 l0 a1).bind fun t176 => ((lodgerref02_Set.f kj4 l0 a1 (IntKind.u64.wrap (t176 + a3))).bind fun t177 => ((lodgerref02_Same.f kj4 t173 t177).bind fun t180 => (if t180 = true then ((lodgerref02_Same.f kj4 t156 t160).bind fun t181 => (if t181 = true then (some (t159 == t163)) else (some false))) else (some false)))))) else (some false))))) else (some false)) = some r := H
        have A16 := Aside0.mk A160
        clear A160
        by_cases c17 : t164 = t165
        · rw [if_pos c17] at H
          have c17b0 : (t164 == t165) = true := beq_iff_eq.mpr c17
          have c17b1 : (t164 != t165) = false := bne_eq_false_iff_eq.mpr c17
          clear c17
          replace H := Option.bind_eq_some_iff.mp H
          obtain ⟨t166, A180, H⟩ := H
          replace H : ((lodgerref02_Set.f kj4 l0 a1 a3).bind fun t169 => ((lodgerref02_Same.f kj4 t166 t169).bind fun t172 => (if t172 = true then ((cells_Add.f l0 a1 a3).bind fun t173 => ((lodgerref02_Load.f kj4 l0 a1).bind fun t176 => ((lodgerref02_Set.f kj4 l0 a1 (IntKind.u64.wrap (t176 + a3))).bind fun t177 => ((lodgerref02_Same.f kj4 t173 t177).bind fun t180 => (if t180 = true then ((lodgerref02_Same.f kj4 t156 t160).bind fun t181 => (if t181 = true then (some (t159 == t163)) else (some false))) else (some false)))))) else (some false)))) = some r := H
          have A18 := Aside0.mk A180
          clear A180
          replace H := Option.bind_eq_some_iff.mp H
          obtain ⟨t169, A190, H⟩ := H
          replace H : ((lodgerref02_Same.f kj4 t166 t169).bind fun t172 => (if t172 = true then ((cells_Add.f l0 a1 a3).bind fun t173 => ((lodgerref02_Load.f kj4 l0 a1).bind fun t176 => ((lodgerref02_Set.f kj4 l0 a1 (IntKind.u64.wrap (t176 + a3))).bind fun t177 => ((lodgerref02_Same.f kj4 t173 t177).bind fun t180 => (if t180 = true then ((lodgerref02_Same.f kj4 t156 t160).bind fun t181 => (if t181 = true then (some (t159 == t163)) else (some false))) else (some false)))))) else (some false))) = some r := H
          have A19 := Aside0.mk A190
          clear A190
          replace H := Option.bind_eq_some_iff.mp H
          obtain ⟨t172, A200, H⟩ := H
          replace H : (if t172 = true then ((cells_Add.f l0 a1 a3).bind fun t173 => ((lodgerref02_Load.f kj4 l0 a1).bind fun t176 => ((lodgerref02_Set.f kj4 l0 a1 (IntKind.u64.wrap (t176 + a3))).bind fun t177 => ((lodgerref02_Same.f kj4 t173 t177).bind fun t180 => (if t180 = true then ((lodgerref02_Same.f kj4 t156 t160).bind fun t181 => (if t181 = true then (some (t159 == t163)) else (some false))) else (some false)))))) else (some false)) = some r := H
          have A20 := Aside0.mk A200
          clear A200
          by_cases c21 : t172 = true
          · subst c21
            have H1 : ((cells_Add.f l0 a1 a3).bind fun t173 => ((lodgerref02_Load.f kj4 l0 a1).bind fun t176 => ((lodgerref02_Set.f kj4 l0 a1 (IntKind.u64.wrap (t176 + a3))).bind fun t177 => ((lodgerref02_Same.f kj4 t173 t177).bind fun t180 => (if t180 = true then ((lodgerref02_Same.f kj4 t156 t160).bind fun t181 => (if t181 = true then (some (t159 == t163)) else (some false))) else (some false)))))) = some r := by rw [if_pos rfl] at H; exact H
            clear H
            have H := H1
            clear H1
            replace H := Option.bind_eq_some_iff.mp H
            obtain ⟨t173, A220, H⟩ := H
            replace H : ((lodgerref02_Load.f kj4 l0 a1).bind fun t176 => ((lodgerref02_Set.f kj4 l0 a1 (IntKind.u64.wrap (t176 + a3))).bind fun t177 => ((lodgerref02_Same.f kj4 t173 t177).bind fun t180 => (if t180 = true then ((lodgerref02_Same.f kj4 t156 t160).bind fun t181 => (if t181 = true then (some (t159 == t163)) else (some false))) else (some false))))) = some r := H
            have A22 := Aside0.mk A220
            clear A220
            replace H := Option.bind_eq_some_iff.mp H
            obtain ⟨t176, A230, H⟩ := H
            replace H : ((lodgerref02_Set.f kj4 l0 a1 (IntKind.u64.wrap (t176 + a3))).bind fun t177 => ((lodgerref02_Same.f kj4 t173 t177).bind fun t180 => (if t180 = true then ((lodgerref02_Same.f kj4 t156 t160).bind fun t181 => (if t181 = true then (some (t159 == t163)) else (some false))) else (some false)))) = some r := H
            have A23 := Aside0.mk A230
            clear A230
            replace H := Option.bind_eq_some_iff.mp H
            obtain ⟨t177, A240, H⟩ := H
            replace H : ((lodgerref02_Same.f kj4 t173 t177).bind fun t180 => (if t180 = true then ((lodgerref02_Same.f kj4 t156 t160).bind fun t181 => (if t181 = true then (some (t159 == t163)) else (some false))) else (some false))) = some r := H
            have A24 := Aside0.mk A240
            clear A240
            replace H := Option.bind_eq_some_iff.mp H
            obtain ⟨t180, A250, H⟩ := H
            replace H : (if t180 = true then ((lodgerref02_Same.f kj4 t156 t160).bind fun t181 => (if t181 = true then (some (t159 == t163)) else (some false))) else (some false)) = some r := H
            have A25 := Aside0.mk A250
            clear A250
            by_cases c26 : t180 = true
            · subst c26
              have H1 : ((lodgerref02_Same.f kj4 t156 t160).bind fun t181 => (if t181 = true then (some (t159 == t163)) else (some false))) = some r := by rw [if_pos rfl] at H; exact H
              clear H
              have H := H1
              clear H1
              replace H := Option.bind_eq_some_iff.mp H
              obtain ⟨t181, A270, H⟩ := H
              replace H : (if t181 = true then (some (t159 == t163)) else (some false)) = some r := H
              have A27 := Aside0.mk A270
              clear A270
              by_cases c28 : t181 = true
              · subst c28
                have H1 : (some (t159 == t163)) = some r := by rw [if_pos rfl] at H; exact H
                clear H
                have H := H1
                clear H1
                first | (exfalso; rw [hr_.out] at H; exact absurd (Option.some.inj H) (by decide)) | (try clear hr_)
                all_goals
                  obtain rfl := Option.some.inj H
                  go_wp2_with (first | ((with_reducible refine gate_callee (f := 13) rfl ?_); refine goesL_ (some 26) rfl rfl Try.func13 (by kernel_rfl) rfl #[.slice A0 l0.length c0, .int .i64 a1, .int .u64 a2, .int .u64 a3] rfl (by (try simp only [List.map_toArray, List.map_cons, List.map_nil]); first | done | rfl | (simp only [List.length_drop, List.length_take]; rfl)) ?_; (with_reducible refine (cells_Swap.calls (fun k_ => k_ < w.heap.size) _ _ l0 a1 a2 a3 t156 t159 _ ?side1 A13.out).mono ?_); (case side1 => exact Kd.V_mk HC0.out (Kd.F_below (Kd.C_F (Kd.heap_int .u64) HR0.out) (by repeat (first | (with_reducible first | exact HB.out | apply below_alloc | apply pw_below_drewN | apply below_drew1) | exact HB.out)))); rintro e w29 ⟨v157, rfl, ho0, hb⟩; refine ⟨_, rfl, ?_⟩; have n0_ := Aside0.mk (Kd.V_lower (Kd.V_mono (ok' := fun k_ => True) ho0 (fun k_ hk_ => trivial)) (below_size (by repeat (first | (with_reducible first | exact HB.out | apply below_alloc | apply pw_below_drewN | apply below_drew1) | exact HB.out)))); have n1_ := Aside0.mk (below_step (by repeat (first | (with_reducible first | exact HB.out | apply below_alloc | apply pw_below_drewN | apply below_drew1) | exact HB.out)) hb); clear HB; have HO158 := n0_; have HB := n1_; clear n0_ n1_; (try clear hb); (try clear hb2); (try clear hk); (try clear hi); (try clear ho0)) | ((with_reducible refine gate_callee (f := 14) rfl ?_); refine goesL_ (some 34) rfl rfl Try.func14 (by kernel_rfl) rfl #[.slice A0 l0.length c0, .int .i64 a1, .int .u64 a2, .int .u64 a3] rfl (by (try simp only [List.map_toArray, List.map_cons, List.map_nil]); first | done | rfl | (simp only [List.length_drop, List.length_take]; rfl)) ?_; (with_reducible refine (lodgerref02_Swap.calls kj4 (fun k_ => k_ < w.heap.size) _ _ l0 a1 a2 a3 t160 t163 _ ?side1 A14.out).mono ?_); (case side1 => exact Kd.V_mk HC0.out (Kd.F_below (Kd.C_F (Kd.heap_int .u64) HR0.out) (by repeat (first | (with_reducible first | exact HB.out | apply below_alloc | apply pw_below_drewN | apply below_drew1) | exact HB.out)))); rintro e w30 ⟨v161, rfl, ho0, hb⟩; refine ⟨_, rfl, ?_⟩; have n0_ := Aside0.mk (Kd.V_below (by (with_reducible repeat (first | apply Kd.V_alloc | apply Kd.V_drewN | apply Kd.V_drew)); exact HO158.out) hb); have n1_ := Aside0.mk (Kd.V_lower (Kd.V_mono (ok' := fun k_ => True) ho0 (fun k_ hk_ => trivial)) (below_size (by repeat (first | (with_reducible first | exact HB.out | apply below_alloc | apply pw_below_drewN | apply below_drew1) | exact HB.out)))); have n2_ := Aside0.mk (below_step (by repeat (first | (with_reducible first | exact HB.out | apply below_alloc | apply pw_below_drewN | apply below_drew1) | exact HB.out)) hb); clear HO158; clear HB; have HO158 := n0_; have HO162 := n1_; have HB := n2_; clear n0_ n1_ n2_; (try clear hb); (try clear hb2); (try clear hk); (try clear hi); (try clear ho0)) | ((with_reducible refine gate_callee (f := 15) rfl ?_); refine goesL_ (some 39) rfl rfl Try.func15 (by kernel_rfl) rfl #[.slice A0 l0.length c0, .int .i64 a1] rfl (by (try simp only [List.map_toArray, List.map_cons, List.map_nil]); first | done | rfl | (simp only [List.length_drop, List.length_take]; rfl)) ?_; (with_reducible refine (cells_Load.calls _ _ l0 a1 t164 _ ?side1 ?side2 A15.out).mono ?_); (case side1 => repeat (first | exact (Kd.C_below HR0.out HB.out) | (with_reducible refine Kd.C_alloc ?_ _) | (with_reducible refine Kd.C_drewN ?_ _) | (with_reducible refine Kd.C_drew ?_))); (case side2 => exact HC0.out); rintro e w' ⟨rfl, ⟨nd, rfl⟩⟩; refine ⟨_, rfl, ?_⟩) | ((with_reducible refine gate_callee (f := 16) rfl ?_); refine goesL_ (some 42) rfl rfl Try.func16 (by kernel_rfl) rfl #[.slice A0 l0.length c0, .int .i64 a1] rfl (by (try simp only [List.map_toArray, List.map_cons, List.map_nil]); first | done | rfl | (simp only [List.length_drop, List.length_take]; rfl)) ?_; (with_reducible refine (lodgerref02_Load.calls kj4 _ _ l0 a1 t165 _ ?side1 ?side2 A16.out).mono ?_); (case side1 => repeat (first | exact (Kd.C_below HR0.out (by repeat (first | (with_reducible first | exact HB.out | apply below_alloc | apply pw_below_drewN | apply below_drew1) | exact HB.out))) | (with_reducible refine Kd.C_alloc ?_ _) | (with_reducible refine Kd.C_drewN ?_ _) | (with_reducible refine Kd.C_drew ?_))); (case side2 => exact HC0.out); rintro e w' ⟨rfl, ⟨nd, rfl⟩⟩; refine ⟨_, rfl, ?_⟩) | (go_at_call 18; (with_reducible refine (cells_Store.calls (fun k_ => k_ < w.heap.size) _ _ l0 a1 a3 t166 _ ?side1 A18.out).mono ?_); (case side1 => exact Kd.V_mk HC0.out (Kd.F_below (Kd.C_F (Kd.heap_int .u64) HR0.out) (by repeat (first | (with_reducible first | exact HB.out | apply below_alloc | apply pw_below_drewN | apply below_drew1) | exact HB.out)))); rintro e w31 ⟨v167, rfl, ho0, hb⟩; have n0_ := Aside0.mk (Kd.V_below (by (with_reducible repeat (first | apply Kd.V_alloc | apply Kd.V_drewN | apply Kd.V_drew)); exact HO158.out) hb); have n1_ := Aside0.mk (Kd.V_below (by (with_reducible repeat (first | apply Kd.V_alloc | apply Kd.V_drewN | apply Kd.V_drew)); exact HO162.out) hb); have n2_ := Aside0.mk (Kd.V_lower (Kd.V_mono (ok' := fun k_ => True) ho0 (fun k_ hk_ => trivial)) (below_size (by repeat (first | (with_reducible first | exact HB.out | apply below_alloc | apply pw_below_drewN | apply below_drew1) | exact HB.out)))); have n3_ := Aside0.mk (below_step (by repeat (first | (with_reducible first | exact HB.out | apply below_alloc | apply pw_below_drewN | apply below_drew1) | exact HB.out)) hb); clear HO158; clear HO162; clear HB; have HO158 := n0_; have HO162 := n1_; have HO168 := n2_; have HB := n3_; clear n0_ n1_ n2_ n3_; (try clear hb); (try clear hb2); (try clear hk); (try clear hi); (try clear ho0)) | (go_at_call 19; (with_reducible refine (lodgerref02_Set.calls kj4 _ _ l0 a1 a3 t169 _ ?side1 ?side2 A19.out).mono ?_); (case side1 => repeat (first | exact (Kd.C_below HR0.out HB.out) | (with_reducible refine Kd.C_alloc ?_ _) | (with_reducible refine Kd.C_drewN ?_ _) | (with_reducible refine Kd.C_drew ?_))); (case side2 => exact HC0.out); rintro e w32 ⟨v170, rfl, ho0, hb⟩; have n0_ := Aside0.mk (Kd.V_elder' (by (with_reducible repeat (first | apply Kd.V_alloc | apply Kd.V_drewN | apply Kd.V_drew)); exact HO158.out) (Kd.R_base ho0) hb); have n1_ := Aside0.mk (Kd.V_elder' (by (with_reducible repeat (first | apply Kd.V_alloc | apply Kd.V_drewN | apply Kd.V_drew)); exact HO162.out) (Kd.R_base ho0) hb); have n2_ := Aside0.mk (Kd.V_elder' (by (with_reducible repeat (first | apply Kd.V_alloc | apply Kd.V_drewN | apply Kd.V_drew)); exact HO168.out) (Kd.R_base ho0) hb); have n3_ := Aside0.mk (Kd.R_lower ho0 (below_size (by repeat (first | (with_reducible first | exact HB.out | apply below_alloc | apply pw_below_drewN | apply below_drew1) | exact HB.out)))); have n4_ := Aside0.mk (below_step (by repeat (first | (with_reducible first | exact HB.out | apply below_alloc | apply pw_below_drewN | apply below_drew1) | exact HB.out)) hb); clear HO158; clear HO162; clear HO168; clear HB; have HO158 := n0_; have HO162 := n1_; have HO168 := n2_; have HO171 := n3_; have HB := n4_; clear n0_ n1_ n2_ n3_ n4_; (try clear hb); (try clear hb2); (try clear hk); (try clear hi); (try clear ho0); obtain ⟨Ao33, co33, eo33⟩ := Kd.V_slice HO168.out; subst eo33; obtain ⟨Ao34, co34, eo34⟩ := Kd.R_slice HO171.out; subst eo34) | (go_at_call 17; (with_reducible refine (lodgerref02_Same.calls kj4 _ _ t166 _ _ t169 true _ ?side1 ?side2 ?side3 ?side4 A20.out).mono ?_); (case side1 => repeat (first | exact (Kd.V_reads' HO168.out).2.2 | (with_reducible refine Kd.C_alloc ?_ _) | (with_reducible refine Kd.C_drewN ?_ _) | (with_reducible refine Kd.C_drew ?_))); (case side2 => exact (Kd.V_reads' HO168.out).2.1); (case side3 => repeat (first | exact (Kd.R_reads' HO171.out).2.2 | (with_reducible refine Kd.C_alloc ?_ _) | (with_reducible refine Kd.C_drewN ?_ _) | (with_reducible refine Kd.C_drew ?_))); (case side4 => exact (Kd.R_reads' HO171.out).2.1); rintro e w' ⟨rfl, ⟨nd, rfl⟩⟩) | (go_at_call 20; (with_reducible refine (cells_Add.calls (fun k_ => k_ < w.heap.size) _ _ l0 a1 a3 t173 _ ?side1 A22.out).mono ?_); (case side1 => exact Kd.V_mk HC0.out (Kd.F_below (Kd.C_F (Kd.heap_int .u64) HR0.out) (by repeat (first | (with_reducible first | exact HB.out | apply below_alloc | apply pw_below_drewN | apply below_drew1) | exact HB.out)))); rintro e w35 ⟨v174, rfl, ho0, hb⟩; have n0_ := Aside0.mk (Kd.V_below (by (with_reducible repeat (first | apply Kd.V_alloc | apply Kd.V_drewN | apply Kd.V_drew)); exact HO158.out) hb); have n1_ := Aside0.mk (Kd.V_below (by (with_reducible repeat (first | apply Kd.V_alloc | apply Kd.V_drewN | apply Kd.V_drew)); exact HO162.out) hb); have n2_ := Aside0.mk (Kd.V_below (by (with_reducible repeat (first | apply Kd.V_alloc | apply Kd.V_drewN | apply Kd.V_drew)); exact HO168.out) hb); have n3_ := Aside0.mk (Kd.R_below (by (with_reducible repeat (first | apply Kd.R_alloc | apply Kd.R_drewN | apply Kd.R_drew)); exact HO171.out) hb); have n4_ := Aside0.mk (Kd.V_lower (Kd.V_mono (ok' := fun k_ => some k_ ≠ (.slice Ao34 t169.length co34 : Value).ownBlock) ho0 (fun k_ hk_ => Or.elim hk_ (fun hs_ => fun e_ => Nat.not_le.2 hs_ (Kd.R_base HO171.out k_ e_.symm)) (fun hn_ => (Kd.fresh' (Kd.R_lt (by (with_reducible repeat (first | apply Kd.R_alloc | apply Kd.R_drewN | apply Kd.R_drew)); exact HO171.out)) k_ hn_)))) (below_size (by repeat (first | (with_reducible first | exact HB.out | apply below_alloc | apply pw_below_drewN | apply below_drew1) | exact HB.out)))); have n5_ := Aside0.mk (below_step (by repeat (first | (with_reducible first | exact HB.out | apply below_alloc | apply pw_below_drewN | apply below_drew1) | exact HB.out)) hb); clear HO158; clear HO162; clear HO168; clear HO171; clear HB; have HO158 := n0_; have HO162 := n1_; have HO168 := n2_; have HO171 := n3_; have HO175 := n4_; have HB := n5_; clear n0_ n1_ n2_ n3_ n4_ n5_; (try clear hb); (try clear hb2); (try clear hk); (try clear hi); (try clear ho0)) | (go_at_call 16; (with_reducible refine (lodgerref02_Load.calls kj4 _ _ l0 a1 t176 _ ?side1 ?side2 A23.out).mono ?_); (case side1 => repeat (first | exact (Kd.C_below HR0.out HB.out) | (with_reducible refine Kd.C_alloc ?_ _) | (with_reducible refine Kd.C_drewN ?_ _) | (with_reducible refine Kd.C_drew ?_))); (case side2 => exact HC0.out); rintro e w' ⟨rfl, ⟨nd, rfl⟩⟩) | (go_at_call 19; (with_reducible refine (lodgerref02_Set.calls kj4 _ _ l0 a1 (IntKind.u64.wrap (t176 + a3)) t177 _ ?side1 ?side2 A24.out).mono ?_); (case side1 => repeat (first | exact (Kd.C_below HR0.out (by repeat (first | (with_reducible first | exact HB.out | apply below_alloc | apply pw_below_drewN | apply below_drew1) | exact HB.out))) | (with_reducible refine Kd.C_alloc ?_ _) | (with_reducible refine Kd.C_drewN ?_ _) | (with_reducible refine Kd.C_drew ?_))); (case side2 => exact HC0.out); rintro e w36 ⟨v178, rfl, ho0, hb⟩; have n0_ := Aside0.mk (Kd.V_elder' (by (with_reducible repeat (first | apply Kd.V_alloc | apply Kd.V_drewN | apply Kd.V_drew)); exact HO158.out) (Kd.R_base ho0) hb); have n1_ := Aside0.mk (Kd.V_elder' (by (with_reducible repeat (first | apply Kd.V_alloc | apply Kd.V_drewN | apply Kd.V_drew)); exact HO162.out) (Kd.R_base ho0) hb); have n2_ := Aside0.mk (Kd.V_elder' (by (with_reducible repeat (first | apply Kd.V_alloc | apply Kd.V_drewN | apply Kd.V_drew)); exact HO168.out) (Kd.R_base ho0) hb); have n3_ := Aside0.mk (Kd.R_elder' (by (with_reducible repeat (first | apply Kd.R_alloc | apply Kd.R_drewN | apply Kd.R_drew)); exact HO171.out) (Kd.R_base ho0) hb); have n4_ := Aside0.mk (Kd.V_elder' (by (with_reducible repeat (first | apply Kd.V_alloc | apply Kd.V_drewN | apply Kd.V_drew)); exact HO175.out) (Kd.R_base ho0) hb); have n5_ := Aside0.mk (Kd.R_lower (Kd.R_new' ho0 (Kd.R_lt (by (with_reducible repeat (first | apply Kd.R_alloc | apply Kd.R_drewN | apply Kd.R_drew)); exact HO171.out))) (below_size (by repeat (first | (with_reducible first | exact HB.out | apply below_alloc | apply pw_below_drewN | apply below_drew1) | exact HB.out)))); have n6_ := Aside0.mk (below_step (by repeat (first | (with_reducible first | exact HB.out | apply below_alloc | apply pw_below_drewN | apply below_drew1) | exact HB.out)) hb); clear HO158; clear HO162; clear HO168; clear HO171; clear HO175; clear HB; have HO158 := n0_; have HO162 := n1_; have HO168 := n2_; have HO171 := n3_; have HO175 := n4_; have HO179 := n5_; have HB := n6_; clear n0_ n1_ n2_ n3_ n4_ n5_ n6_; (try clear hb); (try clear hb2); (try clear hk); (try clear hi); (try clear ho0); obtain ⟨Ao37, co37, eo37⟩ := Kd.V_slice HO175.out; subst eo37; obtain ⟨Ao38, co38, eo38⟩ := Kd.R_slice HO179.out; subst eo38) | (go_at_call 17; (with_reducible refine (lodgerref02_Same.calls kj4 _ _ t173 _ _ t177 true _ ?side1 ?side2 ?side3 ?side4 A25.out).mono ?_); (case side1 => repeat (first | exact (Kd.V_reads' HO175.out).2.2 | (with_reducible refine Kd.C_alloc ?_ _) | (with_reducible refine Kd.C_drewN ?_ _) | (with_reducible refine Kd.C_drew ?_))); (case side2 => exact (Kd.V_reads' HO175.out).2.1); (case side3 => repeat (first | exact (Kd.R_reads' HO179.out).2.2 | (with_reducible refine Kd.C_alloc ?_ _) | (with_reducible refine Kd.C_drewN ?_ _) | (with_reducible refine Kd.C_drew ?_))); (case side4 => exact (Kd.R_reads' HO179.out).2.1); rintro e w' ⟨rfl, ⟨nd, rfl⟩⟩; obtain ⟨Ao39, co39, eo39⟩ := Kd.V_slice HO158.out; subst eo39; obtain ⟨Ao40, co40, eo40⟩ := Kd.V_slice HO162.out; subst eo40) | (go_at_call 17; (with_reducible refine (lodgerref02_Same.calls kj4 _ _ t156 _ _ t160 true _ ?side1 ?side2 ?side3 ?side4 A27.out).mono ?_); (case side1 => repeat (first | exact (Kd.V_reads' HO158.out).2.2 | (with_reducible refine Kd.C_alloc ?_ _) | (with_reducible refine Kd.C_drewN ?_ _) | (with_reducible refine Kd.C_drew ?_))); (case side2 => exact (Kd.V_reads' HO158.out).2.1); (case side3 => repeat (first | exact (Kd.V_reads' HO162.out).2.2 | (with_reducible refine Kd.C_alloc ?_ _) | (with_reducible refine Kd.C_drewN ?_ _) | (with_reducible refine Kd.C_drew ?_))); (case side4 => exact (Kd.V_reads' HO162.out).2.1); rintro e w' ⟨rfl, ⟨nd, rfl⟩⟩))
                  go_ret
                  exact ⟨by first | rfl | (simp [errW_none, errW_some] <;> rfl) | (simp [*, errW_none, errW_some] <;> rfl), by repeat (first | (with_reducible first | exact HB.out | apply below_alloc | apply pw_below_drewN | apply below_drew1) | exact HB.out)⟩
              · replace c28 := Bool.eq_false_iff.mpr c28
                subst c28
                have H1 : (some false) = some r := by rw [if_neg (show ¬ (false = true) by decide)] at H; exact H
                rw [hr_.out] at H1
                exact absurd (Option.some.inj H1) (by decide)
            · replace c26 := Bool.eq_false_iff.mpr c26
              subst c26
              have H1 : (some false) = some r := by rw [if_neg (show ¬ (false = true) by decide)] at H; exact H
              rw [hr_.out] at H1
              exact absurd (Option.some.inj H1) (by decide)
          · replace c21 := Bool.eq_false_iff.mpr c21
            subst c21
            have H1 : (some false) = some r := by rw [if_neg (show ¬ (false = true) by decide)] at H; exact H
            rw [hr_.out] at H1
            exact absurd (Option.some.inj H1) (by decide)
        · rw [if_neg c17] at H
          rw [hr_.out] at H
          exact absurd (Option.some.inj H) (by decide)

/-- THE ONE PURE STATEMENT of lodgerlaw02_CellsDo: yours. -/
def lodgerlaw02_CellsDo.Pure : Prop := ∀ (l0 : List Int) (a1 : Int) (a2 : Int) (a3 : Int), l0.length ≤ maxLen → l0.length * 8 ≤ 140737488351232 → (∀ x ∈ l0, (Lit.int .u64 x).wf = true) → (Lit.int .i64 a1).wf = true → (Lit.int .u64 a2).wf = true → (Lit.int .u64 a3).wf = true → ∃ k, lodgerlaw02_CellsDo.f k l0 a1 a2 a3 = some true
theorem lodgerlaw02_CellsDo.walk (P : lodgerlaw02_CellsDo.Pure) (a0 : Option Addr) (len0 cap0 : Nat) (z0 : List Int) (a1 : Int) (a2 : Int) (a3 : Int) (w : World) (w0 : (a0 = none ∧ len0 = 0 ∧ cap0 = 0 ∧ z0 = []) ∨ ∃ x, a0 = some x ∧ len0 ≤ cap0 ∧ cap0 ≤ maxLen ∧ z0.length = cap0 ∧ (∀ i, i < z0.length → w.cell? (x.add i) = some (.int .u64 (z0.getD i 0))) ∧ ∀ n ∈ z0, (Lit.int .u64 n).wf = true) (y0 : len0 * 8 ≤ 140737488351232) (w1 : (Lit.int .i64 a1).wf = true) (w2 : (Lit.int .u64 a2).wf = true) (w3 : (Lit.int .u64 a3).wf = true) :
    Calls Try.prog 3 #[.slice a0 len0 cap0, .int .i64 a1, .int .u64 a2, .int .u64 a3] w fun e w' => e = .returned (.bool true) ∧ Below w.heap.size w w' := by
  obtain ⟨l0, rfl, hr0, hm0, hw0, hc0⟩ := ReadsInt.ofRowC w0
  obtain ⟨k, h⟩ := P l0 a1 a2 a3 hm0 y0 hw0 w1 w2 w3
  refine (lodgerlaw02_CellsDo.calls k _ _ l0 a1 a2 a3 true w (Kd.C_of_reads (d := (0 : Int)) (h1 := fun _ => rfl) hr0) hc0 rfl h).mono ?_
  rintro e w' ⟨rfl, hd⟩
  exact ⟨rfl, hd⟩

end Go.Proofs.Ytpkomlobikmkkaa.PCellsDo
