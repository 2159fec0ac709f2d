/- The walk of CellsKeep, part of it: what the Go functions answer; no condition. -/
import Derived.Test.YtmchledhamhlgaaQCellsKeepx0
import Derived.Test.YtmchledhamhlgaaQCellsKeepx1
namespace Go.Proofs.Ytmchledhamhlgaa.PCellsKeep
open Go.RowKit Go.Proofs.YtmchledhamhlgaaW.PrintWords Go.Proofs.YtmchledhamhlgaaW.PrintLast Go.Proofs.YtmchledhamhlgaaW.PrintMore
attribute [local go_sem] max2_int min2_int max_two min_two max_three min_three max_four min_four   -- for this text's walks alone
set_option linter.unusedVariables false
set_option linter.unusedSimpArgs false

/-! ### lodgerlaw02_awake: function 5 -/
def lodgerlaw02_awake.f (k : Nat)  : Option (Bool) := (cells_New.f 2).bind fun t113 => (if (t113.length : Int) = 2 then ((cells_Store.f t113 1 5).bind fun t116 => ((cells_Swap.f t116 1 5 6).bind fun bt119 => ((cells_Swap.f bt119.1 1 5 6).bind fun bt123 => ((cells_Add.f bt119.1 0 18446744073709551615).bind fun t127 => ((cells_Load.f t116 1).bind fun t130 => (if t130 = 5 then (if bt119.2 = true then (if bt123.2 = true then (some false) else ((cells_Load.f bt119.1 1).bind fun t131 => (if t131 = 6 then ((cells_Load.f t127 0).bind fun t132 => (if t132 = 18446744073709551615 then ((cells_Load.f t127 2).bind fun t133 => (if t133 = 0 then ((cells_Store.f t127 (-1) 9).bind fun t134 => ((lodgerref02_Same.f k t134 t127).bind fun t137 => (if t137 = true then ((cells_Add.f t127 0 2).bind fun t138 => ((cells_Load.f t138 0).bind fun t141 => (some (t141 == 1)))) else (some false)))) else (some false))) else (some false))) else (some false)))) else (some false)) else (some false))))))) else (some false))
theorem lodgerlaw02_awake.mono : ∀ k, LeO (lodgerlaw02_awake.f k ) (lodgerlaw02_awake.f (k + 1) ) := by
 intro  k
 unfold lodgerlaw02_awake.f
 repeat' first
   | (with_reducible exact lodgerref02_Same.mono _ _ _)
   | (with_reducible exact LeO.refl _)
   | (with_reducible exact LeO.none _)
   | (with_reducible refine LeO.ite ?_ ?_)
   | (with_reducible refine LeO.bind ?_ (fun _ => ?_))
   | exact lodgerref02_Same.mono _ _ _
   | exact LeO.none _
   | refine LeO.ite ?_ ?_
   | refine LeO.bind ?_ (fun _ => ?_)
set_option maxHeartbeats 8000000 in
set_option maxRecDepth 100000 in
theorem lodgerlaw02_awake.only {k : Nat} {r : Bool} (h : lodgerlaw02_awake.f k = some r) : r = true := by
 have e : lodgerlaw02_awake.f 500 = some true := by decide +kernel
 have h1 := at_rounds lodgerlaw02_awake.mono (Nat.le_max_left k 500) h
 rw [at_rounds lodgerlaw02_awake.mono (Nat.le_max_right k 500) e] at h1
 exact (Option.some.inj h1).symm
set_option maxHeartbeats 8000000 in
set_option maxRecDepth 100000 in
theorem lodgerlaw02_awake.calls (k : Nat)  (r : Bool) (w : World) (h : lodgerlaw02_awake.f k  = some r) :
  Calls Try.prog 5 #[] w fun e w' => e = .returned (.bool r) ∧ Below w.heap.size w w' := by
 have HB := Aside0.mk (Below.refl w.heap.size w)
 have hr_ := Aside0.mk (lodgerlaw02_awake.only h)
 have H : ((cells_New.f 2).bind fun t113 => (if (t113.length : Int) = 2 then ((cells_Store.f t113 1 5).bind fun t116 => ((cells_Swap.f t116 1 5 6).bind fun bt119 => ((cells_Swap.f bt119.1 1 5 6).bind fun bt123 => ((cells_Add.f bt119.1 0 18446744073709551615).bind fun t127 => ((cells_Load.f t116 1).bind fun t130 => (if t130 = 5 then (if bt119.2 = true then (if bt123.2 = true then (some false) else ((cells_Load.f bt119.1 1).bind fun t131 => (if t131 = 6 then ((cells_Load.f t127 0).bind fun t132 => (if t132 = 18446744073709551615 then ((cells_Load.f t127 2).bind fun t133 => (if t133 = 0 then ((cells_Store.f t127 (-1) 9).bind fun t134 => ((lodgerref02_Same.f k t134 t127).bind fun t137 => (if t137 = true then ((cells_Add.f t127 0 2).bind fun t138 => ((cells_Load.f t138 0).bind fun t141 => (some (t141 == 1)))) else (some false)))) else (some false))) else (some false))) else (some false)))) else (some false)) else (some false))))))) else (some false))) = some r := h
 clear h
 replace H := Option.bind_eq_some_iff.mp H
 obtain ⟨t113, A10, H⟩ := H
 replace H : (if (t113.length : Int) = 2 then ((cells_Store.f t113 1 5).bind fun t116 => ((cells_Swap.f t116 1 5 6).bind fun bt119 => ((cells_Swap.f bt119.1 1 5 6).bind fun bt123 => ((cells_Add.f bt119.1 0 18446744073709551615).bind fun t127 => ((cells_Load.f t116 1).bind fun t130 => (if t130 = 5 then (if bt119.2 = true then (if bt123.2 = true then (some false) else ((cells_Load.f bt119.1 1).bind fun t131 => (if t131 = 6 then ((cells_Load.f t127 0).bind fun t132 => (if t132 = 18446744073709551615 then ((cells_Load.f t127 2).bind fun t133 => (if t133 = 0 then ((cells_Store.f t127 (-1) 9).bind fun t134 => ((lodgerref02_Same.f k t134 t127).bind fun t137 => (if t137 = true then ((cells_Add.f t127 0 2).bind fun t138 => ((cells_Load.f t138 0).bind fun t141 => (some (t141 == 1)))) else (some false)))) else (some false))) else (some false))) else (some false)))) else (some false)) else (some false))))))) else (some false)) = some r := H
 have A1 := Aside0.mk A10
 clear A10
 by_cases c2 : (t113.length : Int) = 2
 ·rw [if_pos c2] at H
  have c2b0 : ((t113.length : Int) == 2) = true := beq_iff_eq.mpr c2
  have c2b1 : ((t113.length : Int) != 2) = false := bne_eq_false_iff_eq.mpr c2
  clear c2
  replace H := Option.bind_eq_some_iff.mp H
  obtain ⟨t116, A30, H⟩ := H
  replace H : ((cells_Swap.f t116 1 5 6).bind fun bt119 => ((cells_Swap.f bt119.1 1 5 6).bind fun bt123 => ((cells_Add.f bt119.1 0 18446744073709551615).bind fun t127 => ((cells_Load.f t116 1).bind fun t130 => (if t130 = 5 then (if bt119.2 = true then (if bt123.2 = true then (some false) else ((cells_Load.f bt119.1 1).bind fun t131 => (if t131 = 6 then ((cells_Load.f t127 0).bind fun t132 => (if t132 = 18446744073709551615 then ((cells_Load.f t127 2).bind fun t133 => (if t133 = 0 then ((cells_Store.f t127 (-1) 9).bind fun t134 => ((lodgerref02_Same.f k t134 t127).bind fun t137 => (if t137 = true then ((cells_Add.f t127 0 2).bind fun t138 => ((cells_Load.f t138 0).bind fun t141 => (some (t141 == 1)))) else (some false)))) else (some false))) else (some false))) else (some false)))) else (some false)) else (some false)))))) = some r := H
  have A3 := Aside0.mk A30
  clear A30
  replace H := Option.bind_eq_some_iff.mp H
  obtain ⟨⟨t119, t122⟩, A40, H⟩ := H
  replace H : ((cells_Swap.f t119 1 5 6).bind fun bt123 => ((cells_Add.f t119 0 18446744073709551615).bind fun t127 => ((cells_Load.f t116 1).bind fun t130 => (if t130 = 5 then (if t122 = true then (if bt123.2 = true then (some false) else ((cells_Load.f t119 1).bind fun t131 => (if t131 = 6 then ((cells_Load.f t127 0).bind fun t132 => (if t132 = 18446744073709551615 then ((cells_Load.f t127 2).bind fun t133 => (if t133 = 0 then ((cells_Store.f t127 (-1) 9).bind fun t134 => ((lodgerref02_Same.f k t134 t127).bind fun t137 => (if t137 = true then ((cells_Add.f t127 0 2).bind fun t138 => ((cells_Load.f t138 0).bind fun t141 => (some (t141 == 1)))) else (some false)))) else (some false))) else (some false))) else (some false)))) else (some false)) else (some false))))) = some r := H
  have A4 := Aside0.mk A40
  clear A40
  replace H := Option.bind_eq_some_iff.mp H
  obtain ⟨⟨t123, t126⟩, A50, H⟩ := H
  replace H : ((cells_Add.f t119 0 18446744073709551615).bind fun t127 => ((cells_Load.f t116 1).bind fun t130 => (if t130 = 5 then (if t122 = true then (if t126 = true then (some false) else ((cells_Load.f t119 1).bind fun t131 => (if t131 = 6 then ((cells_Load.f t127 0).bind fun t132 => (if t132 = 18446744073709551615 then ((cells_Load.f t127 2).bind fun t133 => (if t133 = 0 then ((cells_Store.f t127 (-1) 9).bind fun t134 => ((lodgerref02_Same.f k t134 t127).bind fun t137 => (if t137 = true then ((cells_Add.f t127 0 2).bind fun t138 => ((cells_Load.f t138 0).bind fun t141 => (some (t141 == 1)))) else (some false)))) else (some false))) else (some false))) else (some false)))) else (some false)) else (some false)))) = some r := H
  have A5 := Aside0.mk A50
  clear A50
  replace H := Option.bind_eq_some_iff.mp H
  obtain ⟨t127, A60, H⟩ := H
  replace H : ((cells_Load.f t116 1).bind fun t130 => (if t130 = 5 then (if t122 = true then (if t126 = true then (some false) else ((cells_Load.f t119 1).bind fun t131 => (if t131 = 6 then ((cells_Load.f t127 0).bind fun t132 => (if t132 = 18446744073709551615 then ((cells_Load.f t127 2).bind fun t133 => (if t133 = 0 then ((cells_Store.f t127 (-1) 9).bind fun t134 => ((lodgerref02_Same.f k t134 t127).bind fun t137 => (if t137 = true then ((cells_Add.f t127 0 2).bind fun t138 => ((cells_Load.f t138 0).bind fun t141 => (some (t141 == 1)))) else (some false)))) else (some false))) else (some false))) else (some false)))) else (some false)) else (some false))) = some r := H
  have A6 := Aside0.mk A60
  clear A60
  replace H := Option.bind_eq_some_iff.mp H
  obtain ⟨t130, A70, H⟩ := H
  replace H : (if t130 = 5 then (if t122 = true then (if t126 = true then (some false) else ((cells_Load.f t119 1).bind fun t131 => (if t131 = 6 then ((cells_Load.f t127 0).bind fun t132 => (if t132 = 18446744073709551615 then ((cells_Load.f t127 2).bind fun t133 => (if t133 = 0 then ((cells_Store.f t127 (-1) 9).bind fun t134 => ((lodgerref02_Same.f k t134 t127).bind fun t137 => (if t137 = true then ((cells_Add.f t127 0 2).bind fun t138 => ((cells_Load.f t138 0).bind fun t141 => (some (t141 == 1)))) else (some false)))) else (some false))) else (some false))) else (some false)))) else (some false)) else (some false)) = some r := H
  have A7 := Aside0.mk A70
  clear A70
  by_cases c8 : t130 = 5
  ·rw [if_pos c8] at H
   have c8b0 : (t130 == 5) = true := beq_iff_eq.mpr c8
   have c8b1 : (t130 != 5) = false := bne_eq_false_iff_eq.mpr c8
   clear c8
   by_cases c9 : t122 = true
   ·subst c9
    have H1 : (if t126 = true then (some false) else ((cells_Load.f t119 1).bind fun t131 => (if t131 = 6 then ((cells_Load.f t127 0).bind fun t132 => (if t132 = 18446744073709551615 then ((cells_Load.f t127 2).bind fun t133 => (if t133 = 0 then ((cells_Store.f t127 (-1) 9).bind fun t134 => ((lodgerref02_Same.f k t134 t127).bind fun t137 => (if t137 = true then ((cells_Add.f t127 0 2).bind fun t138 => ((cells_Load.f t138 0).bind fun t141 => (some (t141 == 1)))) else (some false)))) else (some false))) else (some false))) else (some false)))) = some r := by rw [if_pos rfl] at H; exact H
    clear H
    have H := H1
    clear H1
    by_cases c10 : t126 = true
    ·subst c10
     have H1 : (some false) = some r := by rw [if_pos rfl] at H; exact H
     rw [hr_.out] at H1
     exact absurd (Option.some.inj H1) (by decide)
    ·replace c10 := Bool.eq_false_iff.mpr c10
     subst c10
     have H1 : ((cells_Load.f t119 1).bind fun t131 => (if t131 = 6 then ((cells_Load.f t127 0).bind fun t132 => (if t132 = 18446744073709551615 then ((cells_Load.f t127 2).bind fun t133 => (if t133 = 0 then ((cells_Store.f t127 (-1) 9).bind fun t134 => ((lodgerref02_Same.f k t134 t127).bind fun t137 => (if t137 = true then ((cells_Add.f t127 0 2).bind fun t138 => ((cells_Load.f t138 0).bind fun t141 => (some (t141 == 1)))) else (some false)))) else (some false))) else (some false))) else (some false))) = some r := by rw [if_neg (show ¬ (false = true) by decide)] at H; exact H
     clear H
     have H := H1
     clear H1
     replace H := Option.bind_eq_some_iff.mp H
     obtain ⟨t131, A190, H⟩ := H
     replace H : (if t131 = 6 then ((cells_Load.f t127 0).bind fun t132 => (if t132 = 18446744073709551615 then ((cells_Load.f t127 2).bind fun t133 => (if t133 = 0 then ((cells_Store.f t127 (-1) 9).bind fun t134 => ((lodgerref02_Same.f k t134 t127).bind fun t137 => (if t137 = true then ((cells_Add.f t127 0 2).bind fun t138 => ((cells_Load.f t138 0).bind fun t141 => (some (t141 == 1)))) else (some false)))) else (some false))) else (some false))) else (some false)) = some r := H
     have A19 := Aside0.mk A190
     clear A190
     by_cases c20 : t131 = 6
     ·rw [if_pos c20] at H
      have c20b0 : (t131 == 6) = true := beq_iff_eq.mpr c20
      have c20b1 : (t131 != 6) = false := bne_eq_false_iff_eq.mpr c20
      clear c20
      replace H := Option.bind_eq_some_iff.mp H
      obtain ⟨t132, A210, H⟩ := H
      replace H : (if t132 = 18446744073709551615 then ((cells_Load.f t127 2).bind fun t133 => (if t133 = 0 then ((cells_Store.f t127 (-1) 9).bind fun t134 => ((lodgerref02_Same.f k t134 t127).bind fun t137 => (if t137 = true then ((cells_Add.f t127 0 2).bind fun t138 => ((cells_Load.f t138 0).bind fun t141 => (some (t141 == 1)))) else (some false)))) else (some false))) else (some false)) = some r := H
      have A21 := Aside0.mk A210
      clear A210
      by_cases c22 : t132 = 18446744073709551615
      ·rw [if_pos c22] at H
       have c22b0 : (t132 == 18446744073709551615) = true := beq_iff_eq.mpr c22
       have c22b1 : (t132 != 18446744073709551615) = false := bne_eq_false_iff_eq.mpr c22
       clear c22
       replace H := Option.bind_eq_some_iff.mp H
       obtain ⟨t133, A230, H⟩ := H
       replace H : (if t133 = 0 then ((cells_Store.f t127 (-1) 9).bind fun t134 => ((lodgerref02_Same.f k t134 t127).bind fun t137 => (if t137 = true then ((cells_Add.f t127 0 2).bind fun t138 => ((cells_Load.f t138 0).bind fun t141 => (some (t141 == 1)))) else (some false)))) else (some false)) = some r := H
       have A23 := Aside0.mk A230
       clear A230
       by_cases c24 : t133 = 0
       ·rw [if_pos c24] at H
        have c24b0 : (t133 == 0) = true := beq_iff_eq.mpr c24
        have c24b1 : (t133 != 0) = false := bne_eq_false_iff_eq.mpr c24
        clear c24
        replace H := Option.bind_eq_some_iff.mp H
        obtain ⟨t134, A250, H⟩ := H
        replace H : ((lodgerref02_Same.f k t134 t127).bind fun t137 => (if t137 = true then ((cells_Add.f t127 0 2).bind fun t138 => ((cells_Load.f t138 0).bind fun t141 => (some (t141 == 1)))) else (some false))) = some r := H
        have A25 := Aside0.mk A250
        clear A250
        replace H := Option.bind_eq_some_iff.mp H
        obtain ⟨t137, A260, H⟩ := H
        replace H : (if t137 = true then ((cells_Add.f t127 0 2).bind fun t138 => ((cells_Load.f t138 0).bind fun t141 => (some (t141 == 1)))) else (some false)) = some r := H
        have A26 := Aside0.mk A260
        clear A260
        by_cases c27 : t137 = true
        ·subst c27
         have H1 : ((cells_Add.f t127 0 2).bind fun t138 => ((cells_Load.f t138 0).bind fun t141 => (some (t141 == 1)))) = some r := by rw [if_pos rfl] at H; exact H
         clear H
         have H := H1
         clear H1
         replace H := Option.bind_eq_some_iff.mp H
         obtain ⟨t138, A280, H⟩ := H
         replace H : ((cells_Load.f t138 0).bind fun t141 => (some (t141 == 1))) = some r := H
         have A28 := Aside0.mk A280
         clear A280
         replace H := Option.bind_eq_some_iff.mp H
         obtain ⟨t141, A290, H⟩ := H
         replace H : (some (t141 == 1)) = some r := H
         have A29 := Aside0.mk A290
         clear A290
         first | (exfalso; rw [hr_.out] at H; exact absurd (Option.some.inj H) (by decide)) | (try clear hr_)
         all_goals
          obtain rfl := Option.some.inj H
          go_enter Try.func5, Try.ntmps5
          go_wp2_with (first | ((with_reducible refine gate_callee (f := 10) rfl ?_); refine goesL_ (some 8) rfl rfl Try.func10 (by kernel_rfl) rfl #[.int .i64 2] rfl (by (try simp only [List.map_toArray, List.map_cons, List.map_nil]); first | done | rfl | (simp only [List.length_drop, List.length_take]; rfl)) ?_; (with_reducible refine (cells_New.calls 2 t113 _ A1.out).mono ?_); rintro e w30 ⟨v114, rfl, ho0, hb⟩; refine ⟨_, rfl, ?_⟩; have n0_ := Aside0.mk (Kd.R_lower ho0 (below_size (by repeat (first | (with_reducible first | exact HB.out | apply below_alloc | apply pw_below_drewN | apply below_drew1) | exact HB.out)))); have n1_ := Aside0.mk (below_step (by repeat (first | (with_reducible first | exact HB.out | apply below_alloc | apply pw_below_drewN | apply below_drew1) | exact HB.out)) hb); clear HB; have HO115 := n0_; have HB := n1_; clear n0_ n1_; (try clear hb); (try clear hb2); (try clear hk); (try clear hi); (try clear ho0); obtain ⟨Ao31, co31, eo31⟩ := Kd.R_slice HO115.out; subst eo31) | ((with_reducible refine gate_callee (f := 6) rfl ?_); refine goesL_ (some 13) rfl rfl Try.func6 (by kernel_rfl) rfl #[.slice Ao31 t113.length co31, .int .i64 1, .int .u64 5] rfl (by (try simp only [List.map_toArray, List.map_cons, List.map_nil]); first | done | rfl | (simp only [List.length_drop, List.length_take]; rfl)) ?_; (with_reducible refine (cells_Store.calls (fun k_ => some k_ = (.slice Ao31 t113.length co31 : Value).ownBlock) _ _ t113 1 5 t116 _ ?side1 A3.out).mono ?_); (case side1 => exact Kd.R_V (Kd.R_tight rfl (HO115.out))); rintro e w32 ⟨v117, rfl, ho0, hb⟩; refine ⟨_, rfl, ?_⟩; have n0_ := Aside0.mk (Kd.R_below (by (with_reducible repeat (first | apply Kd.R_alloc | apply Kd.R_drewN | apply Kd.R_drew)); exact HO115.out) hb); have n1_ := Aside0.mk (Kd.V_lower (Kd.V_mono (ok' := fun k_ => True) ho0 (fun k_ hk_ => trivial)) (below_size (by repeat (first | (with_reducible first | exact HB.out | apply below_alloc | apply pw_below_drewN | apply below_drew1) | exact HB.out)))); have n2_ := Aside0.mk (below_step (by repeat (first | (with_reducible first | exact HB.out | apply below_alloc | apply pw_below_drewN | apply below_drew1) | exact HB.out)) hb); clear HO115; clear HB; have HO115 := n0_; have HO118 := n1_; have HB := n2_; clear n0_ n1_ n2_; (try clear hb); (try clear hb2); (try clear hk); (try clear hi); (try clear ho0); obtain ⟨Ao33, co33, eo33⟩ := Kd.V_slice HO118.out; subst eo33) | ((with_reducible refine gate_callee (f := 8) rfl ?_); refine goesL_ (some 16) rfl rfl Try.func8 (by kernel_rfl) rfl #[.slice Ao33 t116.length co33, .int .i64 1, .int .u64 5, .int .u64 6] rfl (by (try simp only [List.map_toArray, List.map_cons, List.map_nil]); first | done | rfl | (simp only [List.length_drop, List.length_take]; rfl)) ?_; (with_reducible refine (cells_Swap.calls (fun k_ => True) _ _ t116 1 5 6 t119 true _ ?side1 A4.out).mono ?_); (case side1 => exact HO118.out); rintro e w34 ⟨v120, rfl, ho0, hb⟩; refine ⟨_, rfl, ?_⟩; have n0_ := Aside0.mk (Kd.R_below (by (with_reducible repeat (first | apply Kd.R_alloc | apply Kd.R_drewN | apply Kd.R_drew)); exact HO115.out) hb); have n1_ := Aside0.mk (Kd.V_below (by (with_reducible repeat (first | apply Kd.V_alloc | apply Kd.V_drewN | apply Kd.V_drew)); exact HO118.out) hb); have n2_ := Aside0.mk (Kd.V_lower (Kd.V_mono (ok' := fun k_ => True) ho0 (fun k_ hk_ => trivial)) (below_size (by repeat (first | (with_reducible first | exact HB.out | apply below_alloc | apply pw_below_drewN | apply below_drew1) | exact HB.out)))); have n3_ := Aside0.mk (below_step (by repeat (first | (with_reducible first | exact HB.out | apply below_alloc | apply pw_below_drewN | apply below_drew1) | exact HB.out)) hb); clear HO115; clear HO118; clear HB; have HO115 := n0_; have HO118 := n1_; have HO121 := n2_; have HB := n3_; clear n0_ n1_ n2_ n3_; (try clear hb); (try clear hb2); (try clear hk); (try clear hi); (try clear ho0); obtain ⟨Ao35, co35, eo35⟩ := Kd.V_slice HO121.out; subst eo35) | ((with_reducible refine gate_callee (f := 8) rfl ?_); refine goesL_ (some 21) rfl rfl Try.func8 (by kernel_rfl) rfl #[.slice Ao35 t119.length co35, .int .i64 1, .int .u64 5, .int .u64 6] rfl (by (try simp only [List.map_toArray, List.map_cons, List.map_nil]); first | done | rfl | (simp only [List.length_drop, List.length_take]; rfl)) ?_; (with_reducible refine (cells_Swap.calls (fun k_ => True) _ _ t119 1 5 6 t123 false _ ?side1 A5.out).mono ?_); (case side1 => exact HO121.out); rintro e w36 ⟨v124, rfl, ho0, hb⟩; refine ⟨_, rfl, ?_⟩; have n0_ := Aside0.mk (Kd.R_below (by (with_reducible repeat (first | apply Kd.R_alloc | apply Kd.R_drewN | apply Kd.R_drew)); exact HO115.out) hb); have n1_ := Aside0.mk (Kd.V_below (by (with_reducible repeat (first | apply Kd.V_alloc | apply Kd.V_drewN | apply Kd.V_drew)); exact HO118.out) hb); have n2_ := Aside0.mk (Kd.V_below (by (with_reducible repeat (first | apply Kd.V_alloc | apply Kd.V_drewN | apply Kd.V_drew)); exact HO121.out) hb); have n3_ := Aside0.mk (Kd.V_lower (Kd.V_mono (ok' := fun k_ => True) ho0 (fun k_ hk_ => trivial)) (below_size (by repeat (first | (with_reducible first | exact HB.out | apply below_alloc | apply pw_below_drewN | apply below_drew1) | exact HB.out)))); have n4_ := Aside0.mk (below_step (by repeat (first | (with_reducible first | exact HB.out | apply below_alloc | apply pw_below_drewN | apply below_drew1) | exact HB.out)) hb); clear HO115; clear HO118; clear HO121; clear HB; have HO115 := n0_; have HO118 := n1_; have HO121 := n2_; have HO125 := n3_; have HB := n4_; clear n0_ n1_ n2_ n3_ n4_; (try clear hb); (try clear hb2); (try clear hk); (try clear hi); (try clear ho0)) | ((with_reducible refine gate_callee (f := 7) rfl ?_); refine goesL_ (some 25) rfl rfl Try.func7 (by kernel_rfl) rfl #[.slice Ao35 t119.length co35, .int .i64 0, .int .u64 18446744073709551615] rfl (by (try simp only [List.map_toArray, List.map_cons, List.map_nil]); first | done | rfl | (simp only [List.length_drop, List.length_take]; rfl)) ?_; (with_reducible refine (cells_Add.calls (fun k_ => True) _ _ t119 0 18446744073709551615 t127 _ ?side1 A6.out).mono ?_); (case side1 => exact HO121.out); rintro e w37 ⟨v128, rfl, ho0, hb⟩; refine ⟨_, rfl, ?_⟩; have n0_ := Aside0.mk (Kd.R_below (by (with_reducible repeat (first | apply Kd.R_alloc | apply Kd.R_drewN | apply Kd.R_drew)); exact HO115.out) hb); have n1_ := Aside0.mk (Kd.V_below (by (with_reducible repeat (first | apply Kd.V_alloc | apply Kd.V_drewN | apply Kd.V_drew)); exact HO118.out) hb); have n2_ := Aside0.mk (Kd.V_below (by (with_reducible repeat (first | apply Kd.V_alloc | apply Kd.V_drewN | apply Kd.V_drew)); exact HO121.out) hb); have n3_ := Aside0.mk (Kd.V_below (by (with_reducible repeat (first | apply Kd.V_alloc | apply Kd.V_drewN | apply Kd.V_drew)); exact HO125.out) hb); have n4_ := Aside0.mk (Kd.V_lower (Kd.V_mono (ok' := fun k_ => True) ho0 (fun k_ hk_ => trivial)) (below_size (by repeat (first | (with_reducible first | exact HB.out | apply below_alloc | apply pw_below_drewN | apply below_drew1) | exact HB.out)))); have n5_ := Aside0.mk (below_step (by repeat (first | (with_reducible first | exact HB.out | apply below_alloc | apply pw_below_drewN | apply below_drew1) | exact HB.out)) hb); clear HO115; clear HO118; clear HO121; clear HO125; clear HB; have HO115 := n0_; have HO118 := n1_; have HO121 := n2_; have HO125 := n3_; have HO129 := n4_; have HB := n5_; clear n0_ n1_ n2_ n3_ n4_ n5_; (try clear hb); (try clear hb2); (try clear hk); (try clear hi); (try clear ho0)) | ((with_reducible refine gate_callee (f := 23) rfl ?_); refine goesL_ (some 27) rfl rfl Try.func23 (by kernel_rfl) rfl #[.slice Ao33 t116.length co33, .int .i64 1] rfl (by (try simp only [List.map_toArray, List.map_cons, List.map_nil]); first | done | rfl | (simp only [List.length_drop, List.length_take]; rfl)) ?_; (with_reducible refine (cells_Load.calls _ _ t116 1 t130 _ ?side1 ?side2 A7.out).mono ?_); (case side1 => repeat (first | exact (Kd.V_reads' HO118.out).2.2 | (with_reducible refine Kd.C_alloc ?_ _) | (with_reducible refine Kd.C_drewN ?_ _) | (with_reducible refine Kd.C_drew ?_))); (case side2 => exact (Kd.V_reads' HO118.out).2.1); rintro e w' ⟨rfl, ⟨nd, rfl⟩⟩; refine ⟨_, rfl, ?_⟩) | (go_at_call 23; (with_reducible refine (cells_Load.calls _ _ t119 1 t131 _ ?side1 ?side2 A19.out).mono ?_); (case side1 => repeat (first | exact (Kd.V_reads' HO121.out).2.2 | (with_reducible refine Kd.C_alloc ?_ _) | (with_reducible refine Kd.C_drewN ?_ _) | (with_reducible refine Kd.C_drew ?_))); (case side2 => exact (Kd.V_reads' HO121.out).2.1); rintro e w' ⟨rfl, ⟨nd, rfl⟩⟩; obtain ⟨Ao38, co38, eo38⟩ := Kd.V_slice HO129.out; subst eo38) | (go_at_call 23; (with_reducible refine (cells_Load.calls _ _ t127 0 t132 _ ?side1 ?side2 A21.out).mono ?_); (case side1 => repeat (first | exact (Kd.V_reads' HO129.out).2.2 | (with_reducible refine Kd.C_alloc ?_ _) | (with_reducible refine Kd.C_drewN ?_ _) | (with_reducible refine Kd.C_drew ?_))); (case side2 => exact (Kd.V_reads' HO129.out).2.1); rintro e w' ⟨rfl, ⟨nd, rfl⟩⟩) | (go_at_call 23; (with_reducible refine (cells_Load.calls _ _ t127 2 t133 _ ?side1 ?side2 A23.out).mono ?_); (case side1 => repeat (first | exact (Kd.V_reads' HO129.out).2.2 | (with_reducible refine Kd.C_alloc ?_ _) | (with_reducible refine Kd.C_drewN ?_ _) | (with_reducible refine Kd.C_drew ?_))); (case side2 => exact (Kd.V_reads' HO129.out).2.1); rintro e w' ⟨rfl, ⟨nd, rfl⟩⟩) | (go_at_call 6; (with_reducible refine (cells_Store.calls (fun k_ => True) _ _ t127 (-1) 9 t134 _ ?side1 A25.out).mono ?_); (case side1 => exact HO129.out); rintro e w39 ⟨v135, rfl, ho0, hb⟩; have n0_ := Aside0.mk (Kd.R_below (by (with_reducible repeat (first | apply Kd.R_alloc | apply Kd.R_drewN | apply Kd.R_drew)); exact HO115.out) hb); have n1_ := Aside0.mk (Kd.V_below (by (with_reducible repeat (first | apply Kd.V_alloc | apply Kd.V_drewN | apply Kd.V_drew)); exact HO118.out) hb); have n2_ := Aside0.mk (Kd.V_below (by (with_reducible repeat (first | apply Kd.V_alloc | apply Kd.V_drewN | apply Kd.V_drew)); exact HO121.out) hb); have n3_ := Aside0.mk (Kd.V_below (by (with_reducible repeat (first | apply Kd.V_alloc | apply Kd.V_drewN | apply Kd.V_drew)); exact HO125.out) hb); have n4_ := Aside0.mk (Kd.V_below (by (with_reducible repeat (first | apply Kd.V_alloc | apply Kd.V_drewN | apply Kd.V_drew)); exact HO129.out) hb); have n5_ := Aside0.mk (Kd.V_lower (Kd.V_mono (ok' := fun k_ => True) ho0 (fun k_ hk_ => trivial)) (below_size (by repeat (first | (with_reducible first | exact HB.out | apply below_alloc | apply pw_below_drewN | apply below_drew1) | exact HB.out)))); have n6_ := Aside0.mk (below_step (by repeat (first | (with_reducible first | exact HB.out | apply below_alloc | apply pw_below_drewN | apply below_drew1) | exact HB.out)) hb); clear HO115; clear HO118; clear HO121; clear HO125; clear HO129; clear HB; have HO115 := n0_; have HO118 := n1_; have HO121 := n2_; have HO125 := n3_; have HO129 := n4_; have HO136 := n5_; have HB := n6_; clear n0_ n1_ n2_ n3_ n4_ n5_ n6_; (try clear hb); (try clear hb2); (try clear hk); (try clear hi); (try clear ho0); obtain ⟨Ao40, co40, eo40⟩ := Kd.V_slice HO136.out; subst eo40) | (go_at_call 11; (with_reducible refine (lodgerref02_Same.calls k _ _ t134 _ _ t127 true _ ?side1 ?side2 ?side3 ?side4 A26.out).mono ?_); (case side1 => repeat (first | exact (Kd.V_reads' HO136.out).2.2 | (with_reducible refine Kd.C_alloc ?_ _) | (with_reducible refine Kd.C_drewN ?_ _) | (with_reducible refine Kd.C_drew ?_))); (case side2 => exact (Kd.V_reads' HO136.out).2.1); (case side3 => repeat (first | exact (Kd.V_reads' HO129.out).2.2 | (with_reducible refine Kd.C_alloc ?_ _) | (with_reducible refine Kd.C_drewN ?_ _) | (with_reducible refine Kd.C_drew ?_))); (case side4 => exact (Kd.V_reads' HO129.out).2.1); rintro e w' ⟨rfl, ⟨nd, rfl⟩⟩) | (go_at_call 7; (with_reducible refine (cells_Add.calls (fun k_ => True) _ _ t127 0 2 t138 _ ?side1 A28.out).mono ?_); (case side1 => exact HO129.out); rintro e w41 ⟨v139, rfl, ho0, hb⟩; have n0_ := Aside0.mk (Kd.R_below (by (with_reducible repeat (first | apply Kd.R_alloc | apply Kd.R_drewN | apply Kd.R_drew)); exact HO115.out) hb); have n1_ := Aside0.mk (Kd.V_below (by (with_reducible repeat (first | apply Kd.V_alloc | apply Kd.V_drewN | apply Kd.V_drew)); exact HO118.out) hb); have n2_ := Aside0.mk (Kd.V_below (by (with_reducible repeat (first | apply Kd.V_alloc | apply Kd.V_drewN | apply Kd.V_drew)); exact HO121.out) hb); have n3_ := Aside0.mk (Kd.V_below (by (with_reducible repeat (first | apply Kd.V_alloc | apply Kd.V_drewN | apply Kd.V_drew)); exact HO125.out) hb); have n4_ := Aside0.mk (Kd.V_below (by (with_reducible repeat (first | apply Kd.V_alloc | apply Kd.V_drewN | apply Kd.V_drew)); exact HO129.out) hb); have n5_ := Aside0.mk (Kd.V_below (by (with_reducible repeat (first | apply Kd.V_alloc | apply Kd.V_drewN | apply Kd.V_drew)); exact HO136.out) hb); have n6_ := Aside0.mk (Kd.V_lower (Kd.V_mono (ok' := fun k_ => True) ho0 (fun k_ hk_ => trivial)) (below_size (by repeat (first | (with_reducible first | exact HB.out | apply below_alloc | apply pw_below_drewN | apply below_drew1) | exact HB.out)))); have n7_ := Aside0.mk (below_step (by repeat (first | (with_reducible first | exact HB.out | apply below_alloc | apply pw_below_drewN | apply below_drew1) | exact HB.out)) hb); clear HO115; clear HO118; clear HO121; clear HO125; clear HO129; clear HO136; clear HB; have HO115 := n0_; have HO118 := n1_; have HO121 := n2_; have HO125 := n3_; have HO129 := n4_; have HO136 := n5_; have HO140 := n6_; have HB := n7_; clear n0_ n1_ n2_ n3_ n4_ n5_ n6_ n7_; (try clear hb); (try clear hb2); (try clear hk); (try clear hi); (try clear ho0); obtain ⟨Ao42, co42, eo42⟩ := Kd.V_slice HO140.out; subst eo42) | (go_at_call 23; (with_reducible refine (cells_Load.calls _ _ t138 0 t141 _ ?side1 ?side2 A29.out).mono ?_); (case side1 => repeat (first | exact (Kd.V_reads' HO140.out).2.2 | (with_reducible refine Kd.C_alloc ?_ _) | (with_reducible refine Kd.C_drewN ?_ _) | (with_reducible refine Kd.C_drew ?_))); (case side2 => exact (Kd.V_reads' HO140.out).2.1); rintro e w' ⟨rfl, ⟨nd, rfl⟩⟩))
          go_ret
          exact ⟨by first | rfl | (simp [errW_none, errW_some] <;> rfl) | (simp [*, errW_none, errW_some] <;> rfl), by repeat (first | (with_reducible first | exact HB.out | apply below_alloc | apply pw_below_drewN | apply below_drew1) | exact HB.out)⟩
        ·replace c27 := Bool.eq_false_iff.mpr c27
         subst c27
         have H1 : (some false) = some r := by rw [if_neg (show ¬ (false = true) by decide)] at H; exact H
         rw [hr_.out] at H1
         exact absurd (Option.some.inj H1) (by decide)
       ·rw [if_neg c24] at H
        rw [hr_.out] at H
        exact absurd (Option.some.inj H) (by decide)
      ·rw [if_neg c22] at H
       rw [hr_.out] at H
       exact absurd (Option.some.inj H) (by decide)
     ·rw [if_neg c20] at H
      rw [hr_.out] at H
      exact absurd (Option.some.inj H) (by decide)
   ·replace c9 := Bool.eq_false_iff.mpr c9
    subst c9
    have H1 : (some false) = some r := by rw [if_neg (show ¬ (false = true) by decide)] at H; exact H
    rw [hr_.out] at H1
    exact absurd (Option.some.inj H1) (by decide)
  ·rw [if_neg c8] at H
   rw [hr_.out] at H
   exact absurd (Option.some.inj H) (by decide)
 ·rw [if_neg c2] at H
  rw [hr_.out] at H
  exact absurd (Option.some.inj H) (by decide)

/-! ### lodgerref02_Load: function 9 -/
def lodgerref02_Load.l0 : Nat → List Int → Int → Int → Option (Int)
 | 0, _, _, _ => none
 | k + 1, x0, x1, x5 => if x5 < (x0.length : Int) then (if x5 = x1 then (if 0 ≤ x5 then (some (rd x0 x5)) else (none)) else (lodgerref02_Load.l0 k x0 x1 (wrap64 (x5 + 1)))) else (some 0)
def lodgerref02_Load.f (k : Nat) (l0 : List Int) (a1 : Int) : Option (Int) := lodgerref02_Load.l0 k l0 a1 0
theorem lodgerref02_Load.mono_l : ∀ k, (∀ y0 y1 y2, LeO (lodgerref02_Load.l0 k y0 y1 y2) (lodgerref02_Load.l0 (k + 1) y0 y1 y2))
 | 0 => fun _ _ _ r h => by simp [lodgerref02_Load.l0] at h
 | k + 1 => by
  have ih0 := lodgerref02_Load.mono_l k
  ·intro y0 y1 y2
   unfold lodgerref02_Load.l0
   repeat' first
   | (with_reducible exact ih0 _ _ _)
   | (with_reducible exact LeO.refl _)
   | (with_reducible exact LeO.none _)
   | (with_reducible refine LeO.ite ?_ ?_)
   | (with_reducible refine LeO.bind ?_ (fun _ => ?_))
   | exact ih0 _ _ _
   | exact LeO.none _
   | refine LeO.ite ?_ ?_
   | refine LeO.bind ?_ (fun _ => ?_)
theorem lodgerref02_Load.mono : ∀ a0 a1 k, LeO (lodgerref02_Load.f k a0 a1) (lodgerref02_Load.f (k + 1) a0 a1) := by
 intro a0 a1 k
 have ih0 := lodgerref02_Load.mono_l k
 unfold lodgerref02_Load.f
 repeat' first
   | (with_reducible exact ih0 _ _ _)
   | (with_reducible exact LeO.refl _)
   | (with_reducible exact LeO.none _)
   | (with_reducible refine LeO.ite ?_ ?_)
   | (with_reducible refine LeO.bind ?_ (fun _ => ?_))
   | exact ih0 _ _ _
   | exact LeO.none _
   | refine LeO.ite ?_ ?_
   | refine LeO.bind ?_ (fun _ => ?_)
set_option maxHeartbeats 8000000 in
set_option maxRecDepth 100000 in
theorem lodgerref02_Load.calls (k : Nat) (A0 : Option Addr) (c0 : Nat) (l0 : List Int) (a1 : Int) (r : Int) (w : World) (hr0 : Kd.C (Kd.int .u64) w A0 l0.length l0) (hc0 : l0.length ≤ c0) (h : lodgerref02_Load.f k l0 a1 = some r) :
  Calls Try.prog 9 #[.slice A0 l0.length c0, .int .i64 a1] w fun e w' => e = .returned (.int .u64 r) ∧ Drawn0 w w' := by
 have HR0 := Aside0.mk hr0
 have HC0 := Aside0.mk hc0
 clear hr0 hc0
 have H : (lodgerref02_Load.l0 k l0 a1 0) = some r := h
 clear h
 have H' := Aside0.mk H
 clear H
 go_enter Try.func9, Try.ntmps9
 go_wp2
 go_loopg [5] k (fun kq v5 w' => ∃ (x5_1 : Int), v5 = .int .i64 x5_1 ∧ Aside0 (lodgerref02_Load.l0 kq l0 a1 x5_1 = some r) ∧ Aside0 (kq ≤ k) ∧ Drawn0 w w')
 case atStart => exact ⟨(0), (by first | rfl | (simp; done) | (simp [*]; done)), H', ⟨Nat.le_refl _⟩, by repeat (first | exact Drawn0.refl _ | apply Drawn0.step)⟩
 case round =>
  clear H'
  try clear p2
  obtain ⟨x5_1, rfl, HA, HK1, ⟨m1, rfl⟩⟩ := hrel
  cases gk with
  | zero => exact absurd HA.out (by simp [lodgerref02_Load.l0])
  | succ k1 =>
   have H := HA.out
   clear HA
   simp only [lodgerref02_Load.l0] at H
   by_cases c3 : x5_1 < (l0.length : Int)
   ·rw [if_pos c3] at H
    have c3b0 : decide (x5_1 < (l0.length : Int)) = true := decide_eq_true c3
    clear c3
    by_cases c4 : x5_1 = a1
    ·rw [if_pos c4] at H
     have c4b0 : (x5_1 == a1) = true := beq_iff_eq.mpr c4
     have c4b1 : (x5_1 != a1) = false := bne_eq_false_iff_eq.mpr c4
     clear c4
     by_cases c5 : 0 ≤ x5_1
     ·rw [if_pos c5] at H
      have c5b0 : decide (0 ≤ x5_1) = true := decide_eq_true c5
      clear c5
      obtain rfl := Option.some.inj H
      have p142 : 0 ≤ (x5_1 : Int) := od_
      have q142 : x5_1 < (l0.length : Int) := od_
      obtain ⟨ad142, e142, hx142_0⟩ := Kd.at_int HR0.out x5_1 p142 q142
      cases e142
      replace p142 := eq_true p142
      replace q142 := eq_true q142
      go_wp2
      go_ret
      exact ⟨by first | rfl | (simp; done) | (simp [*]; done), by repeat (first | exact Drawn0.refl _ | apply Drawn0.step)⟩
     ·rw [if_neg c5] at H
      exact absurd H (by simp)
    ·rw [if_neg c4] at H
     have c4b0 : (x5_1 == a1) = false := beq_eq_false_iff_ne.mpr c4
     have c4b1 : (x5_1 != a1) = true := bne_iff_ne.mpr c4
     have H' := Aside0.mk H
     clear H
     go_wp2
     go_roundg k1
     case measure => have := HK1.out; omega
     case rel => exact ⟨(wrap64 (x5_1 + 1)), (by first | rfl | (simp; done) | (simp [*]; done)), H', ⟨by have := HK1.out; omega⟩, by repeat (first | exact Drawn0.refl _ | apply Drawn0.step)⟩
   ·rw [if_neg c3] at H
    have c3b0 : decide (x5_1 < (l0.length : Int)) = false := decide_eq_false c3
    clear c3
    obtain rfl := Option.some.inj H
    go_wp2
    go_ret
    exact ⟨by first | rfl | (simp; done) | (simp [*]; done), by repeat (first | exact Drawn0.refl _ | apply Drawn0.step)⟩

end Go.Proofs.Ytmchledhamhlgaa.PCellsKeep
