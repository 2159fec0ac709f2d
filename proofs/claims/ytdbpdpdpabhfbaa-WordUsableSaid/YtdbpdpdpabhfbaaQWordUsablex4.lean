/- The walk of WordUsable, part of it: what the Go functions answer; no condition. -/
import Derived.Test.YtdbpdpdpabhfbaaQWordUsablex0
import Derived.Test.YtdbpdpdpabhfbaaQWordUsablex1
import Derived.Test.YtdbpdpdpabhfbaaQWordUsablex2
import Derived.Test.YtdbpdpdpabhfbaaQWordUsablex3
namespace Go.Proofs.Ytdbpdpdpabhfbaa.PWordUsable
open Go.RowKit Go.Proofs.YtdbpdpdpabhfbaaW.PrintWords Go.Proofs.YtdbpdpdpabhfbaaW.PrintLast Go.Proofs.YtdbpdpdpabhfbaaW.PrintMore
attribute [local go_sem] max2_int min2_int max_two min_two max_three min_three max_four min_four   -- for this text's walks alone
set_option linter.unusedVariables false
set_option linter.unusedSimpArgs false

/-! ### lodgerlaw07_awake: function 8 -/
def lodgerlaw07_awake.f (k : Nat)  : Option (Bool) := (some (([1] : List Int) : List Int)).bind fun y153 => ((word_New.f k 0 30 y153 1 1 1 1 0).bind fun t157 => ((word_First.f k t157).bind fun bt158 => ((word_Claim.f t157 0).bind fun t160 => ((word_Drop.f t160 0).bind fun t161 => (if t157 = 4294967282 then (if bt158.1 = 0 then (if bt158.2 = true then (if t160 = 8589934579 then (if t161 = 12884901874 then ((word_Changes.f t161).bind fun t162 => (if t162 = 2 then ((word_Used.f t160 0).bind fun t163 => (if t163 = true then ((word_Used.f t161 0).bind fun t164 => (if t164 = true then (some false) else ((word_Full.f k t160).bind fun t165 => (if t165 = true then (some false) else ((word_Full.f k 4294967295).bind fun t166 => (if t166 = true then ((word_Cells.f k 0 30 y153 1 1 1 1).bind fun t167 => ((lodgerref02_Same.f k t167 (([4294967282, 18446744073709551614, 18446744073709551614] : List Int))).bind fun t173 => (some t173))) else (some false))))))) else (some false))) else (some false))) else (some false)) else (some false)) else (some false)) else (some false)) else (some false))))))
theorem lodgerlaw07_awake.mono : ∀ k, LeO (lodgerlaw07_awake.f k ) (lodgerlaw07_awake.f (k + 1) ) := by
  intro  k
  unfold lodgerlaw07_awake.f
  repeat' first
      | (with_reducible exact lodgerref02_Same.mono _ _ _)
      | (with_reducible exact word_Cells.mono _ _ _ _ _ _ _ _)
      | (with_reducible exact word_First.mono _ _)
      | (with_reducible exact word_Full.mono _ _)
      | (with_reducible exact word_New.mono _ _ _ _ _ _ _ _ _)
      | (with_reducible exact LeO.refl _)
      | (with_reducible exact LeO.none _)
      | (with_reducible refine LeO.ite ?_ ?_)
      | (with_reducible refine LeO.bind ?_ (fun _ => ?_))
      | exact lodgerref02_Same.mono _ _ _
      | exact word_Cells.mono _ _ _ _ _ _ _ _
      | exact word_First.mono _ _
      | exact word_Full.mono _ _
      | exact word_New.mono _ _ _ _ _ _ _ _ _
      | exact LeO.none _
      | refine LeO.ite ?_ ?_
      | refine LeO.bind ?_ (fun _ => ?_)
set_option maxHeartbeats 8000000 in
set_option maxRecDepth 100000 in
theorem lodgerlaw07_awake.only {k : Nat} {r : Bool} (h : lodgerlaw07_awake.f k = some r) : r = true := by
  have e : lodgerlaw07_awake.f 500 = some true := by decide +kernel
  have h1 := at_rounds lodgerlaw07_awake.mono (Nat.le_max_left k 500) h
  rw [at_rounds lodgerlaw07_awake.mono (Nat.le_max_right k 500) e] at h1
  exact (Option.some.inj h1).symm
theorem lodgerlaw07_awake.calls (k : Nat)  (r : Bool) (w : World) (h : lodgerlaw07_awake.f k  = some r) :
    Calls Try.prog 8 #[] w fun e w' => e = .returned (.bool r) ∧ Below w.heap.size w w' := by
  have hu33 := Try.underlying33
  have hu36 := Try.underlying36
  have HB := Aside0.mk (Below.refl w.heap.size w)
  have hr_ := Aside0.mk (lodgerlaw07_awake.only h)
  have H : ((some (([1] : List Int) : List Int)).bind fun y153 => ((word_New.f k 0 30 y153 1 1 1 1 0).bind fun t157 => ((word_First.f k t157).bind fun bt158 => ((word_Claim.f t157 0).bind fun t160 => ((word_Drop.f t160 0).bind fun t161 => (if t157 = 4294967282 then (if bt158.1 = 0 then (if bt158.2 = true then (if t160 = 8589934579 then (if t161 = 12884901874 then ((word_Changes.f t161).bind fun t162 => (if t162 = 2 then ((word_Used.f t160 0).bind fun t163 => (if t163 = true then ((word_Used.f t161 0).bind fun t164 => (if t164 = true then (some false) else ((word_Full.f k t160).bind fun t165 => (if t165 = true then (some false) else ((word_Full.f k 4294967295).bind fun t166 => (if t166 = true then ((word_Cells.f k 0 30 y153 1 1 1 1).bind fun t167 => ((lodgerref02_Same.f k t167 (([4294967282, 18446744073709551614, 18446744073709551614] : List Int))).bind fun t173 => (some t173))) else (some false))))))) else (some false))) else (some false))) else (some false)) else (some false)) else (some false)) else (some false)) else (some false))))))) = some r := h
  clear h
  obtain ⟨y153, hy153⟩ : ∃ y_ : List Int, y_ = (([1] : List Int)) := ⟨_, rfl⟩
  replace H : ((word_New.f k 0 30 y153 1 1 1 1 0).bind fun t157 => ((word_First.f k t157).bind fun bt158 => ((word_Claim.f t157 0).bind fun t160 => ((word_Drop.f t160 0).bind fun t161 => (if t157 = 4294967282 then (if bt158.1 = 0 then (if bt158.2 = true then (if t160 = 8589934579 then (if t161 = 12884901874 then ((word_Changes.f t161).bind fun t162 => (if t162 = 2 then ((word_Used.f t160 0).bind fun t163 => (if t163 = true then ((word_Used.f t161 0).bind fun t164 => (if t164 = true then (some false) else ((word_Full.f k t160).bind fun t165 => (if t165 = true then (some false) else ((word_Full.f k 4294967295).bind fun t166 => (if t166 = true then ((word_Cells.f k 0 30 y153 1 1 1 1).bind fun t167 => ((lodgerref02_Same.f k t167 (([4294967282, 18446744073709551614, 18446744073709551614] : List Int))).bind fun t173 => (some t173))) else (some false))))))) else (some false))) else (some false))) else (some false)) else (some false)) else (some false)) else (some false)) else (some false)))))) = some r := by first | (rw [hy153]; with_reducible exact H) | (have H2_ := (Option.bind_some _ _).symm.trans H; rw [hy153]; with_reducible exact H2_) | (have H2_ := (Option.bind_some _ _).symm.trans H; with_reducible exact H2_) | with_reducible exact H | (rw [hy153]; exact H) | exact H
  have Ny153 := Aside0.mk hy153
  clear hy153
  replace H := Option.bind_eq_some_iff.mp H
  obtain ⟨t157, A10, H⟩ := H
  replace H : ((word_First.f k t157).bind fun bt158 => ((word_Claim.f t157 0).bind fun t160 => ((word_Drop.f t160 0).bind fun t161 => (if t157 = 4294967282 then (if bt158.1 = 0 then (if bt158.2 = true then (if t160 = 8589934579 then (if t161 = 12884901874 then ((word_Changes.f t161).bind fun t162 => (if t162 = 2 then ((word_Used.f t160 0).bind fun t163 => (if t163 = true then ((word_Used.f t161 0).bind fun t164 => (if t164 = true then (some false) else ((word_Full.f k t160).bind fun t165 => (if t165 = true then (some false) else ((word_Full.f k 4294967295).bind fun t166 => (if t166 = true then ((word_Cells.f k 0 30 y153 1 1 1 1).bind fun t167 => ((lodgerref02_Same.f k t167 (([4294967282, 18446744073709551614, 18446744073709551614] : List Int))).bind fun t173 => (some t173))) else (some false))))))) else (some false))) else (some false))) else (some false)) else (some false)) else (some false)) else (some false)) else (some false))))) = some r := H
  have A1 := Aside0.mk A10
  clear A10
  replace H := Option.bind_eq_some_iff.mp H
  obtain ⟨⟨t158, t159⟩, A20, H⟩ := H
  replace H : ((word_Claim.f t157 0).bind fun t160 => ((word_Drop.f t160 0).bind fun t161 => (if t157 = 4294967282 then (if t158 = 0 then (if t159 = true then (if t160 = 8589934579 then (if t161 = 12884901874 then ((word_Changes.f t161).bind fun t162 => (if t162 = 2 then ((word_Used.f t160 0).bind fun t163 => (if t163 = true then ((word_Used.f t161 0).bind fun t164 => (if t164 = true then (some false) else ((word_Full.f k t160).bind fun t165 => (if t165 = true then (some false) else ((word_Full.f k 4294967295).bind fun t166 => (if t166 = true then ((word_Cells.f k 0 30 y153 1 1 1 1).bind fun t167 => ((lodgerref02_Same.f k t167 (([4294967282, 18446744073709551614, 18446744073709551614] : List Int))).bind fun t173 => (some t173))) else (some false))))))) else (some false))) else (some false))) else (some false)) else (some false)) else (some false)) else (some false)) else (some false)))) = some r := H
  have A2 := Aside0.mk A20
  clear A20
  replace H := Option.bind_eq_some_iff.mp H
  obtain ⟨t160, A30, H⟩ := H
  replace H : ((word_Drop.f t160 0).bind fun t161 => (if t157 = 4294967282 then (if t158 = 0 then (if t159 = true then (if t160 = 8589934579 then (if t161 = 12884901874 then ((word_Changes.f t161).bind fun t162 => (if t162 = 2 then ((word_Used.f t160 0).bind fun t163 => (if t163 = true then ((word_Used.f t161 0).bind fun t164 => (if t164 = true then (some false) else ((word_Full.f k t160).bind fun t165 => (if t165 = true then (some false) else ((word_Full.f k 4294967295).bind fun t166 => (if t166 = true then ((word_Cells.f k 0 30 y153 1 1 1 1).bind fun t167 => ((lodgerref02_Same.f k t167 (([4294967282, 18446744073709551614, 18446744073709551614] : List Int))).bind fun t173 => (some t173))) else (some false))))))) else (some false))) else (some false))) else (some false)) else (some false)) else (some false)) else (some false)) else (some false))) = some r := H
  have A3 := Aside0.mk A30
  clear A30
  replace H := Option.bind_eq_some_iff.mp H
  obtain ⟨t161, A40, H⟩ := H
  replace H : (if t157 = 4294967282 then (if t158 = 0 then (if t159 = true then (if t160 = 8589934579 then (if t161 = 12884901874 then ((word_Changes.f t161).bind fun t162 => (if t162 = 2 then ((word_Used.f t160 0).bind fun t163 => (if t163 = true then ((word_Used.f t161 0).bind fun t164 => (if t164 = true then (some false) else ((word_Full.f k t160).bind fun t165 => (if t165 = true then (some false) else ((word_Full.f k 4294967295).bind fun t166 => (if t166 = true then ((word_Cells.f k 0 30 y153 1 1 1 1).bind fun t167 => ((lodgerref02_Same.f k t167 (([4294967282, 18446744073709551614, 18446744073709551614] : List Int))).bind fun t173 => (some t173))) else (some false))))))) else (some false))) else (some false))) else (some false)) else (some false)) else (some false)) else (some false)) else (some false)) = some r := H
  have A4 := Aside0.mk A40
  clear A40
  by_cases c5 : t157 = 4294967282
  · rw [if_pos c5] at H
    have c5b0 : (t157 == 4294967282) = true := beq_iff_eq.mpr c5
    have c5b1 : (t157 != 4294967282) = false := bne_eq_false_iff_eq.mpr c5
    clear c5
    by_cases c6 : t158 = 0
    · rw [if_pos c6] at H
      have c6b0 : (t158 == 0) = true := beq_iff_eq.mpr c6
      have c6b1 : (t158 != 0) = false := bne_eq_false_iff_eq.mpr c6
      clear c6
      by_cases c7 : t159 = true
      · subst c7
        have H1 : (if t160 = 8589934579 then (if t161 = 12884901874 then ((word_Changes.f t161).bind fun t162 => (if t162 = 2 then ((word_Used.f t160 0).bind fun t163 => (if t163 = true then ((word_Used.f t161 0).bind fun t164 => (if t164 = true then (some false) else ((word_Full.f k t160).bind fun t165 => (if t165 = true then (some false) else ((word_Full.f k 4294967295).bind fun t166 => (if t166 = true then ((word_Cells.f k 0 30 y153 1 1 1 1).bind fun t167 => ((lodgerref02_Same.f k t167 (([4294967282, 18446744073709551614, 18446744073709551614] : List Int))).bind fun t173 => (some t173))) else (some false))))))) else (some false))) else (some false))) else (some false)) else (some false)) = some r := by rw [if_pos rfl] at H; exact H
        clear H
        have H := H1
        clear H1
        by_cases c8 : t160 = 8589934579
        · rw [if_pos c8] at H
          have c8b0 : (t160 == 8589934579) = true := beq_iff_eq.mpr c8
          have c8b1 : (t160 != 8589934579) = false := bne_eq_false_iff_eq.mpr c8
          clear c8
          by_cases c9 : t161 = 12884901874
          · rw [if_pos c9] at H
            have c9b0 : (t161 == 12884901874) = true := beq_iff_eq.mpr c9
            have c9b1 : (t161 != 12884901874) = false := bne_eq_false_iff_eq.mpr c9
            clear c9
            replace H := Option.bind_eq_some_iff.mp H
            obtain ⟨t162, A100, H⟩ := H
            replace H : (if t162 = 2 then ((word_Used.f t160 0).bind fun t163 => (if t163 = true then ((word_Used.f t161 0).bind fun t164 => (if t164 = true then (some false) else ((word_Full.f k t160).bind fun t165 => (if t165 = true then (some false) else ((word_Full.f k 4294967295).bind fun t166 => (if t166 = true then ((word_Cells.f k 0 30 y153 1 1 1 1).bind fun t167 => ((lodgerref02_Same.f k t167 (([4294967282, 18446744073709551614, 18446744073709551614] : List Int))).bind fun t173 => (some t173))) else (some false))))))) else (some false))) else (some false)) = some r := H
            have A10 := Aside0.mk A100
            clear A100
            by_cases c11 : t162 = 2
            · rw [if_pos c11] at H
              have c11b0 : (t162 == 2) = true := beq_iff_eq.mpr c11
              have c11b1 : (t162 != 2) = false := bne_eq_false_iff_eq.mpr c11
              clear c11
              replace H := Option.bind_eq_some_iff.mp H
              obtain ⟨t163, A120, H⟩ := H
              replace H : (if t163 = true then ((word_Used.f t161 0).bind fun t164 => (if t164 = true then (some false) else ((word_Full.f k t160).bind fun t165 => (if t165 = true then (some false) else ((word_Full.f k 4294967295).bind fun t166 => (if t166 = true then ((word_Cells.f k 0 30 y153 1 1 1 1).bind fun t167 => ((lodgerref02_Same.f k t167 (([4294967282, 18446744073709551614, 18446744073709551614] : List Int))).bind fun t173 => (some t173))) else (some false))))))) else (some false)) = some r := H
              have A12 := Aside0.mk A120
              clear A120
              by_cases c13 : t163 = true
              · subst c13
                have H1 : ((word_Used.f t161 0).bind fun t164 => (if t164 = true then (some false) else ((word_Full.f k t160).bind fun t165 => (if t165 = true then (some false) else ((word_Full.f k 4294967295).bind fun t166 => (if t166 = true then ((word_Cells.f k 0 30 y153 1 1 1 1).bind fun t167 => ((lodgerref02_Same.f k t167 (([4294967282, 18446744073709551614, 18446744073709551614] : List Int))).bind fun t173 => (some t173))) else (some false))))))) = some r := by rw [if_pos rfl] at H; exact H
                clear H
                have H := H1
                clear H1
                replace H := Option.bind_eq_some_iff.mp H
                obtain ⟨t164, A140, H⟩ := H
                replace H : (if t164 = true then (some false) else ((word_Full.f k t160).bind fun t165 => (if t165 = true then (some false) else ((word_Full.f k 4294967295).bind fun t166 => (if t166 = true then ((word_Cells.f k 0 30 y153 1 1 1 1).bind fun t167 => ((lodgerref02_Same.f k t167 (([4294967282, 18446744073709551614, 18446744073709551614] : List Int))).bind fun t173 => (some t173))) else (some false)))))) = some r := H
                have A14 := Aside0.mk A140
                clear A140
                by_cases c15 : t164 = true
                · subst c15
                  have H1 : (some false) = some r := by rw [if_pos rfl] at H; exact H
                  rw [hr_.out] at H1
                  exact absurd (Option.some.inj H1) (by decide)
                · replace c15 := Bool.eq_false_iff.mpr c15
                  subst c15
                  have H1 : ((word_Full.f k t160).bind fun t165 => (if t165 = true then (some false) else ((word_Full.f k 4294967295).bind fun t166 => (if t166 = true then ((word_Cells.f k 0 30 y153 1 1 1 1).bind fun t167 => ((lodgerref02_Same.f k t167 (([4294967282, 18446744073709551614, 18446744073709551614] : List Int))).bind fun t173 => (some t173))) else (some false))))) = some r := by rw [if_neg (show ¬ (false = true) by decide)] at H; exact H
                  clear H
                  have H := H1
                  clear H1
                  replace H := Option.bind_eq_some_iff.mp H
                  obtain ⟨t165, A220, H⟩ := H
                  replace H : (if t165 = true then (some false) else ((word_Full.f k 4294967295).bind fun t166 => (if t166 = true then ((word_Cells.f k 0 30 y153 1 1 1 1).bind fun t167 => ((lodgerref02_Same.f k t167 (([4294967282, 18446744073709551614, 18446744073709551614] : List Int))).bind fun t173 => (some t173))) else (some false)))) = some r := H
                  have A22 := Aside0.mk A220
                  clear A220
                  by_cases c23 : t165 = true
                  · subst c23
                    have H1 : (some false) = some r := by rw [if_pos rfl] at H; exact H
                    rw [hr_.out] at H1
                    exact absurd (Option.some.inj H1) (by decide)
                  · replace c23 := Bool.eq_false_iff.mpr c23
                    subst c23
                    have H1 : ((word_Full.f k 4294967295).bind fun t166 => (if t166 = true then ((word_Cells.f k 0 30 y153 1 1 1 1).bind fun t167 => ((lodgerref02_Same.f k t167 (([4294967282, 18446744073709551614, 18446744073709551614] : List Int))).bind fun t173 => (some t173))) else (some false))) = some r := by rw [if_neg (show ¬ (false = true) by decide)] at H; exact H
                    clear H
                    have H := H1
                    clear H1
                    replace H := Option.bind_eq_some_iff.mp H
                    obtain ⟨t166, A300, H⟩ := H
                    replace H : (if t166 = true then ((word_Cells.f k 0 30 y153 1 1 1 1).bind fun t167 => ((lodgerref02_Same.f k t167 (([4294967282, 18446744073709551614, 18446744073709551614] : List Int))).bind fun t173 => (some t173))) else (some false)) = some r := H
                    have A30 := Aside0.mk A300
                    clear A300
                    by_cases c31 : t166 = true
                    · subst c31
                      have H1 : ((word_Cells.f k 0 30 y153 1 1 1 1).bind fun t167 => ((lodgerref02_Same.f k t167 (([4294967282, 18446744073709551614, 18446744073709551614] : List Int))).bind fun t173 => (some t173))) = some r := by rw [if_pos rfl] at H; exact H
                      clear H
                      have H := H1
                      clear H1
                      replace H := Option.bind_eq_some_iff.mp H
                      obtain ⟨t167, A320, H⟩ := H
                      replace H : ((lodgerref02_Same.f k t167 (([4294967282, 18446744073709551614, 18446744073709551614] : List Int))).bind fun t173 => (some t173)) = some r := H
                      have A32 := Aside0.mk A320
                      clear A320
                      obtain ⟨y170, hy170⟩ : ∃ y_ : List Int, y_ = (([4294967282, 18446744073709551614, 18446744073709551614] : List Int)) := ⟨_, rfl⟩
                      replace H : ((lodgerref02_Same.f k t167 y170).bind fun t173 => (some t173)) = some r := by first | (rw [hy170]; with_reducible exact H) | (have H2_ := (Option.bind_some _ _).symm.trans H; rw [hy170]; with_reducible exact H2_) | (have H2_ := (Option.bind_some _ _).symm.trans H; with_reducible exact H2_) | with_reducible exact H | (rw [hy170]; exact H) | exact H
                      have Ny170 := Aside0.mk hy170
                      clear hy170
                      replace H := Option.bind_eq_some_iff.mp H
                      obtain ⟨t173, A330, H⟩ := H
                      replace H : (some t173) = some r := H
                      have A33 := Aside0.mk A330
                      clear A330
                      first | (exfalso; rw [hr_.out] at H; exact absurd (Option.some.inj H) (by decide)) | (try clear hr_)
                      all_goals
                        obtain rfl := Option.some.inj H
                        go_enter Try.func8, Try.ntmps8
                        go_wp2_with (first | ((with_reducible refine gate_dst (N := 8) rfl ?_); (try (refine gate_guard (by rfl) ?_; dsimp only)); refine Kd.R_lit (Kd.int .i64) _ 3 ?hg (N := 8) ?hd (xs := ([1] : List Int)) (inner := [.int .i64 1]) (ok := fun _ => True) (okp := fun _ => True) ?hr ?hp (fun _ hk => hk) trivial (Below.refl _ _) (Nat.le_refl _) (by simp) ?_; (case hd => rfl); (case hg => rfl); (case hr => first | (go_simp; done) | (go_simp; rfl)); (case hp => exact (Reps.one (show Kd.M (Kd.int .i64) _ _ _ 1 [.int .i64 1] from rfl) (Reps.none _ _))); intro v154 w34 ho35 hb hg_ hnew_; clear hg_ hnew_; (first | rw [← Ny153.out] at ho35 | (simp only [Int.reduceToNat] at ho35; rw [← Ny153.out] at ho35)); have n0_ := Aside0.mk (Kd.R_lower ho35 (below_size (by repeat (first | (with_reducible first | exact HB.out | apply below_alloc | apply pw_below_drewN | apply below_drew1) | exact HB.out)))); have n1_ := Aside0.mk (below_step (by repeat (first | (with_reducible first | exact HB.out | apply below_alloc | apply pw_below_drewN | apply below_drew1) | exact HB.out)) hb); clear HB; have HO155 := n0_; have HB := n1_; clear n0_ n1_; clear hb ho35; obtain ⟨Ao36, co36, eo36⟩ := Kd.R_slice HO155.out; subst eo36) | ((with_reducible refine gate_dst (N := 1) rfl ?_); (try (refine gate_guard (by rfl) ?_; dsimp only)); refine box_event ?hg (N := 1) ?hd (cs := #[.int .u32 0, .int .i64 0, .slice none 0 0, .int .i64 0, .int .i64 0, .int .i64 0, .int .i64 0]) (t := 36) ?hr ?_; (case hd => rfl); (case hg => rfl); (case hr => first | (go_simp; done) | (go_simp; rfl)); intro gb156 hg w37 hbox hb; have n0_ := Aside0.mk (Kd.R_below (by (with_reducible repeat (first | apply Kd.R_alloc | apply Kd.R_drewN | apply Kd.R_drew)); exact HO155.out) hb); have n1_ := Aside0.mk (below_step (by repeat (first | (with_reducible first | exact HB.out | apply below_alloc | apply pw_below_drewN | apply below_drew1) | exact HB.out)) hb); have n2_ := Aside0.mk (hbox); have n3_ := Aside0.mk ((by rw [hg]; exact (below_size (by repeat (first | (with_reducible first | exact HB.out | apply below_alloc | apply pw_below_drewN | apply below_drew1) | exact HB.out))) : w.heap.size ≤ gb156)); have n4_ := Aside0.mk ((by rw [hg]; exact (below_size (by repeat (first | (with_reducible first | exact HB.out | apply below_alloc | apply pw_below_drewN | apply below_drew1) | exact HB.out))) : w.heap.size ≤ gb156)); clear HO155; clear HB; have HO155 := n0_; have HB := n1_; have BK156 := n2_; have GW156 := n3_; have GE156 := n4_; clear n0_ n1_ n2_ n3_ n4_; clear hb hbox hg; have hcz38_0 : w37.cell? ⟨gb156, 0, none⟩ = some (.int .u32 0) := (blk_cell BK156.out 0).trans rfl; have hcz38_1 : w37.cell? ⟨gb156, 1, none⟩ = some (.int .i64 0) := (blk_cell BK156.out 1).trans rfl; have hcz38_2 : w37.cell? ⟨gb156, 2, none⟩ = some (.slice none 0 0) := (blk_cell BK156.out 2).trans rfl; have hcz38_3 : w37.cell? ⟨gb156, 3, none⟩ = some (.int .i64 0) := (blk_cell BK156.out 3).trans rfl; have hcz38_4 : w37.cell? ⟨gb156, 4, none⟩ = some (.int .i64 0) := (blk_cell BK156.out 4).trans rfl; have hcz38_5 : w37.cell? ⟨gb156, 5, none⟩ = some (.int .i64 0) := (blk_cell BK156.out 5).trans rfl; have hcz38_6 : w37.cell? ⟨gb156, 6, none⟩ = some (.int .i64 0) := (blk_cell BK156.out 6).trans rfl; have hfz38_0 := blk_frozen BK156.out 0; have hfz38_1 := blk_frozen BK156.out 1; have hfz38_2 := blk_frozen BK156.out 2; have hfz38_3 := blk_frozen BK156.out 3; have hfz38_4 := blk_frozen BK156.out 4; have hfz38_5 := blk_frozen BK156.out 5; have hfz38_6 := blk_frozen BK156.out 6) | ((with_reducible refine gate_callee (f := 23) rfl ?_); refine goesL_ (some 11) rfl rfl Try.func23 (by kernel_rfl) rfl #[.agg #[.int .u32 0, .int .i64 30, .slice Ao36 y153.length co36, .int .i64 1, .int .i64 1, .int .i64 1, .int .i64 1], .int .i64 0] rfl (by (try simp only [List.map_toArray, List.map_cons, List.map_nil]); first | done | rfl | (simp only [List.length_drop, List.length_take]; rfl)) ?_; (with_reducible refine (word_New.calls k 0 30 _ _ y153 1 1 1 1 0 t157 _ ?side1 ?side2 A1.out).mono ?_); (case side1 => refine (Kd.R_reads' (e := 3) (base := w.heap.size) (ok := fun k_ => True) (n := y153.length) (c := co36) ?_).2.2; exact (by (with_reducible repeat (first | apply Kd.R_alloc | apply Kd.R_drewN | apply Kd.R_drew)); exact (Kd.R_mono (Kd.R_far (p := ⟨gb156, 6, none⟩) (Kd.R_far (p := ⟨gb156, 5, none⟩) (Kd.R_far (p := ⟨gb156, 4, none⟩) (Kd.R_far (p := ⟨gb156, 3, none⟩) (Kd.R_far (p := ⟨gb156, 2, none⟩) (Kd.R_far (p := ⟨gb156, 1, none⟩) (Kd.R_far (p := ⟨gb156, 0, none⟩) (Kd.R_types HO155.out BK156.out (by decide)) (fun _ hk => hk.2) (.int .u32 0)) (fun _ hk => hk.2) (.int .i64 30)) (fun _ hk => hk.2) (.slice Ao36 y153.length co36)) (fun _ hk => hk.2) (.int .i64 1)) (fun _ hk => hk.2) (.int .i64 1)) (fun _ hk => hk.2) (.int .i64 1)) (fun _ hk => hk.2) (.int .i64 1)) (fun _ h_ => h_.1)))); (case side2 => exact (Kd.R_reads' HO155.out).2.1); rintro e w39 ⟨rfl, hb⟩; refine ⟨_, rfl, ?_⟩; have n0_ := Aside0.mk (Kd.R_below (by (with_reducible repeat (first | apply Kd.R_alloc | apply Kd.R_drewN | apply Kd.R_drew)); exact (Kd.R_mono (Kd.R_far (p := ⟨gb156, 6, none⟩) (Kd.R_far (p := ⟨gb156, 5, none⟩) (Kd.R_far (p := ⟨gb156, 4, none⟩) (Kd.R_far (p := ⟨gb156, 3, none⟩) (Kd.R_far (p := ⟨gb156, 2, none⟩) (Kd.R_far (p := ⟨gb156, 1, none⟩) (Kd.R_far (p := ⟨gb156, 0, none⟩) (Kd.R_types HO155.out BK156.out (by decide)) (fun _ hk => hk.2) (.int .u32 0)) (fun _ hk => hk.2) (.int .i64 30)) (fun _ hk => hk.2) (.slice Ao36 y153.length co36)) (fun _ hk => hk.2) (.int .i64 1)) (fun _ hk => hk.2) (.int .i64 1)) (fun _ hk => hk.2) (.int .i64 1)) (fun _ hk => hk.2) (.int .i64 1)) (fun _ h_ => h_.1))) hb); have n1_ := Aside0.mk (blk_below (g := gb156) (o := .cells #[.int .u32 0, .int .i64 30, .slice Ao36 y153.length co36, .int .i64 1, .int .i64 1, .int .i64 1, .int .i64 1] 36 (0, 0)) (by (with_reducible repeat (first | refine blk_drewN ?_ _ | refine blk_drew ?_ | refine blk_alloc ?_ _)); refine blk_put (cs := #[.int .u32 0, .int .i64 30, .slice Ao36 y153.length co36, .int .i64 1, .int .i64 1, .int .i64 1, .int .i64 0]) ?_ 6 _ rfl; (with_reducible repeat (first | refine blk_drewN ?_ _ | refine blk_drew ?_ | refine blk_alloc ?_ _)); refine blk_put (cs := #[.int .u32 0, .int .i64 30, .slice Ao36 y153.length co36, .int .i64 1, .int .i64 1, .int .i64 0, .int .i64 0]) ?_ 5 _ rfl; (with_reducible repeat (first | refine blk_drewN ?_ _ | refine blk_drew ?_ | refine blk_alloc ?_ _)); refine blk_put (cs := #[.int .u32 0, .int .i64 30, .slice Ao36 y153.length co36, .int .i64 1, .int .i64 0, .int .i64 0, .int .i64 0]) ?_ 4 _ rfl; (with_reducible repeat (first | refine blk_drewN ?_ _ | refine blk_drew ?_ | refine blk_alloc ?_ _)); refine blk_put (cs := #[.int .u32 0, .int .i64 30, .slice Ao36 y153.length co36, .int .i64 0, .int .i64 0, .int .i64 0, .int .i64 0]) ?_ 3 _ rfl; (with_reducible repeat (first | refine blk_drewN ?_ _ | refine blk_drew ?_ | refine blk_alloc ?_ _)); refine blk_put (cs := #[.int .u32 0, .int .i64 30, .slice none 0 0, .int .i64 0, .int .i64 0, .int .i64 0, .int .i64 0]) ?_ 2 _ rfl; (with_reducible repeat (first | refine blk_drewN ?_ _ | refine blk_drew ?_ | refine blk_alloc ?_ _)); refine blk_put (cs := #[.int .u32 0, .int .i64 0, .slice none 0 0, .int .i64 0, .int .i64 0, .int .i64 0, .int .i64 0]) ?_ 1 _ rfl; (with_reducible repeat (first | refine blk_drewN ?_ _ | refine blk_drew ?_ | refine blk_alloc ?_ _)); refine blk_put (cs := #[.int .u32 0, .int .i64 0, .slice none 0 0, .int .i64 0, .int .i64 0, .int .i64 0, .int .i64 0]) ?_ 0 _ rfl; (with_reducible repeat (first | refine blk_drewN ?_ _ | refine blk_drew ?_ | refine blk_alloc ?_ _)); exact BK156.out) hb); have n2_ := Aside0.mk (below_step (by repeat (first | (with_reducible first | exact HB.out | apply below_alloc | apply pw_below_drewN | apply below_drew1 | refine below_set ?_ GE156.out) | exact HB.out)) hb); clear HO155; clear BK156; clear HB; have HO155 := n0_; have BK156 := n1_; have HB := n2_; clear n0_ n1_ n2_; (try clear hb); (try clear hb2); (try clear hk); (try clear hi)) | ((with_reducible refine gate_callee (f := 9) rfl ?_); refine goesL_ (some 14) rfl rfl Try.func9 (by kernel_rfl) rfl #[.int .u64 t157] rfl (by (try simp only [List.map_toArray, List.map_cons, List.map_nil]); first | done | rfl | (simp only [List.length_drop, List.length_take]; rfl)) ?_; (with_reducible refine (word_First.calls k t157 t158 true _ A2.out).mono ?_); rintro e w' ⟨rfl, ⟨nd, rfl⟩⟩; refine ⟨_, rfl, ?_⟩) | ((with_reducible refine gate_callee (f := 14) rfl ?_); refine goesL_ (some 18) rfl rfl Try.func14 (by kernel_rfl) rfl #[.int .u64 t157, .int .i64 0] rfl (by (try simp only [List.map_toArray, List.map_cons, List.map_nil]); first | done | rfl | (simp only [List.length_drop, List.length_take]; rfl)) ?_; (with_reducible refine (word_Claim.calls t157 0 t160 _ A3.out).mono ?_); rintro e w' ⟨rfl, ⟨nd, rfl⟩⟩; refine ⟨_, rfl, ?_⟩) | ((with_reducible refine gate_callee (f := 16) rfl ?_); refine goesL_ (some 20) rfl rfl Try.func16 (by kernel_rfl) rfl #[.int .u64 t160, .int .i64 0] rfl (by (try simp only [List.map_toArray, List.map_cons, List.map_nil]); first | done | rfl | (simp only [List.length_drop, List.length_take]; rfl)) ?_; (with_reducible refine (word_Drop.calls t160 0 t161 _ A4.out).mono ?_); rintro e w' ⟨rfl, ⟨nd, rfl⟩⟩; refine ⟨_, rfl, ?_⟩) | (go_at_call 13; (with_reducible refine (word_Changes.calls t161 t162 _ A10.out).mono ?_); rintro e w' ⟨rfl, ⟨nd, rfl⟩⟩) | (go_at_call 11; (with_reducible refine (word_Used.calls t160 0 true _ A12.out).mono ?_); rintro e w' ⟨rfl, ⟨nd, rfl⟩⟩) | (go_at_call 11; (with_reducible refine (word_Used.calls t161 0 false _ A14.out).mono ?_); rintro e w' ⟨rfl, ⟨nd, rfl⟩⟩) | (go_at_call 18; (with_reducible refine (word_Full.calls k t160 false _ A22.out).mono ?_); rintro e w' ⟨rfl, ⟨nd, rfl⟩⟩) | (go_at_call 18; (with_reducible refine (word_Full.calls k 4294967295 true _ A30.out).mono ?_); rintro e w' ⟨rfl, ⟨nd, rfl⟩⟩; have hcz40_0 : w39.cell? ⟨gb156, 0, none⟩ = some (.int .u32 0) := (blk_cell BK156.out 0).trans rfl; have hcz40_1 : w39.cell? ⟨gb156, 1, none⟩ = some (.int .i64 30) := (blk_cell BK156.out 1).trans rfl; have hcz40_2 : w39.cell? ⟨gb156, 2, none⟩ = some (.slice Ao36 y153.length co36) := (blk_cell BK156.out 2).trans rfl; have hcz40_3 : w39.cell? ⟨gb156, 3, none⟩ = some (.int .i64 1) := (blk_cell BK156.out 3).trans rfl; have hcz40_4 : w39.cell? ⟨gb156, 4, none⟩ = some (.int .i64 1) := (blk_cell BK156.out 4).trans rfl; have hcz40_5 : w39.cell? ⟨gb156, 5, none⟩ = some (.int .i64 1) := (blk_cell BK156.out 5).trans rfl; have hcz40_6 : w39.cell? ⟨gb156, 6, none⟩ = some (.int .i64 1) := (blk_cell BK156.out 6).trans rfl; have hfz40_0 := blk_frozen BK156.out 0; have hfz40_1 := blk_frozen BK156.out 1; have hfz40_2 := blk_frozen BK156.out 2; have hfz40_3 := blk_frozen BK156.out 3; have hfz40_4 := blk_frozen BK156.out 4; have hfz40_5 := blk_frozen BK156.out 5; have hfz40_6 := blk_frozen BK156.out 6) | (go_at_call 26; (with_reducible refine (word_Cells.calls k 0 30 _ _ y153 1 1 1 1 t167 _ ?side1 ?side2 A32.out).mono ?_); (case side1 => repeat (first | exact (Kd.R_reads' HO155.out).2.2 | (with_reducible refine Kd.C_alloc ?_ _) | (with_reducible refine Kd.C_drewN ?_ _) | (with_reducible refine Kd.C_drew ?_))); (case side2 => exact (Kd.R_reads' HO155.out).2.1); rintro e w41 ⟨v168, rfl, ho0, hb⟩; have n0_ := Aside0.mk (Kd.R_below (by (with_reducible repeat (first | apply Kd.R_alloc | apply Kd.R_drewN | apply Kd.R_drew)); exact HO155.out) hb); have n1_ := Aside0.mk (Kd.R_lower ho0 (below_size (by repeat (first | (with_reducible first | exact HB.out | apply below_alloc | apply pw_below_drewN | apply below_drew1 | refine below_set ?_ GE156.out) | exact HB.out)))); have n2_ := Aside0.mk (blk_below (g := gb156) (o := .cells #[.int .u32 0, .int .i64 30, .slice Ao36 y153.length co36, .int .i64 1, .int .i64 1, .int .i64 1, .int .i64 1] 36 (0, 0)) (by (with_reducible repeat (first | refine blk_drewN ?_ _ | refine blk_drew ?_ | refine blk_alloc ?_ _)); exact BK156.out) hb); have n3_ := Aside0.mk (below_step (by repeat (first | (with_reducible first | exact HB.out | apply below_alloc | apply pw_below_drewN | apply below_drew1 | refine below_set ?_ GE156.out) | exact HB.out)) hb); clear HO155; clear BK156; clear HB; have HO155 := n0_; have HO169 := n1_; have BK156 := n2_; have HB := n3_; clear n0_ n1_ n2_ n3_; (try clear hb); (try clear hb2); (try clear hk); (try clear hi); (try clear ho0)) | ((with_reducible refine gate_dst (N := 63) rfl ?_); (try (refine gate_guard (by rfl) ?_; dsimp only)); refine Kd.R_lit (Kd.int .u64) _ 22 ?hg (N := 63) ?hd (xs := ([4294967282, 18446744073709551614, 18446744073709551614] : List Int)) (inner := [.int .u64 4294967282, .int .u64 18446744073709551614, .int .u64 18446744073709551614]) (ok := fun _ => True) (okp := fun _ => True) ?hr ?hp (fun _ hk => hk) trivial (Below.refl _ _) (Nat.le_refl _) (by simp) ?_; (case hd => rfl); (case hg => rfl); (case hr => first | (go_simp; done) | (go_simp; rfl)); (case hp => exact (Reps.one (show Kd.M (Kd.int .u64) _ _ _ 4294967282 [.int .u64 4294967282] from rfl) (Reps.one (show Kd.M (Kd.int .u64) _ _ _ 18446744073709551614 [.int .u64 18446744073709551614] from rfl) (Reps.one (show Kd.M (Kd.int .u64) _ _ _ 18446744073709551614 [.int .u64 18446744073709551614] from rfl) (Reps.none _ _))))); intro v171 w42 ho43 hb hg_ hnew_; clear hg_ hnew_; (first | rw [← Ny170.out] at ho43 | (simp only [Int.reduceToNat] at ho43; rw [← Ny170.out] at ho43)); have n0_ := Aside0.mk (Kd.R_below (by (with_reducible repeat (first | apply Kd.R_alloc | apply Kd.R_drewN | apply Kd.R_drew)); exact HO155.out) hb); have n1_ := Aside0.mk (Kd.R_elder' (by (with_reducible repeat (first | apply Kd.R_alloc | apply Kd.R_drewN | apply Kd.R_drew)); exact HO169.out) (Kd.R_base ho43) hb); have n2_ := Aside0.mk (Kd.R_lower (Kd.R_new' ho43 (Kd.R_lt (by (with_reducible repeat (first | apply Kd.R_alloc | apply Kd.R_drewN | apply Kd.R_drew)); exact HO169.out))) (below_size (by repeat (first | (with_reducible first | exact HB.out | apply below_alloc | apply pw_below_drewN | apply below_drew1 | refine below_set ?_ GE156.out) | exact HB.out)))); have n3_ := Aside0.mk (blk_below (g := gb156) (o := .cells #[.int .u32 0, .int .i64 30, .slice Ao36 y153.length co36, .int .i64 1, .int .i64 1, .int .i64 1, .int .i64 1] 36 (0, 0)) (by (with_reducible repeat (first | refine blk_drewN ?_ _ | refine blk_drew ?_ | refine blk_alloc ?_ _)); exact BK156.out) hb); have n4_ := Aside0.mk (below_step (by repeat (first | (with_reducible first | exact HB.out | apply below_alloc | apply pw_below_drewN | apply below_drew1 | refine below_set ?_ GE156.out) | exact HB.out)) hb); clear HO155; clear HO169; clear BK156; clear HB; have HO155 := n0_; have HO169 := n1_; have HO172 := n2_; have BK156 := n3_; have HB := n4_; clear n0_ n1_ n2_ n3_ n4_; clear hb ho43; obtain ⟨Ao44, co44, eo44⟩ := Kd.R_slice HO169.out; subst eo44; obtain ⟨Ao45, co45, eo45⟩ := Kd.R_slice HO172.out; subst eo45) | (go_at_call 25; (with_reducible refine (lodgerref02_Same.calls k _ _ t167 _ _ y170 t173 _ ?side1 ?side2 ?side3 ?side4 A33.out).mono ?_); (case side1 => repeat (first | exact (Kd.R_reads' HO169.out).2.2 | (with_reducible refine Kd.C_alloc ?_ _) | (with_reducible refine Kd.C_drewN ?_ _) | (with_reducible refine Kd.C_drew ?_))); (case side2 => exact (Kd.R_reads' HO169.out).2.1); (case side3 => repeat (first | exact (Kd.R_reads' HO172.out).2.2 | (with_reducible refine Kd.C_alloc ?_ _) | (with_reducible refine Kd.C_drewN ?_ _) | (with_reducible refine Kd.C_drew ?_))); (case side4 => exact (Kd.R_reads' HO172.out).2.1); rintro e w' ⟨rfl, ⟨nd, rfl⟩⟩) | (go_at_call 23; (with_reducible refine (word_First.calls k t157 t158 true _ A2.out).mono ?_); rintro e w' ⟨rfl, ⟨nd, rfl⟩⟩) | (go_at_call 14; (with_reducible refine (word_Claim.calls t157 0 t160 _ A3.out).mono ?_); rintro e w' ⟨rfl, ⟨nd, rfl⟩⟩) | (go_at_call 16; (with_reducible refine (word_Drop.calls t160 0 t161 _ A4.out).mono ?_); rintro e w' ⟨rfl, ⟨nd, rfl⟩⟩))
                        go_ret
                        exact ⟨by first | rfl | (simp [errW_none, errW_some] <;> rfl) | (simp [*, errW_none, errW_some] <;> rfl), by repeat (first | (with_reducible first | exact HB.out | apply below_alloc | apply pw_below_drewN | apply below_drew1 | refine below_set ?_ GE156.out) | exact HB.out)⟩
                    · replace c31 := Bool.eq_false_iff.mpr c31
                      subst c31
                      have H1 : (some false) = some r := by rw [if_neg (show ¬ (false = true) by decide)] at H; exact H
                      rw [hr_.out] at H1
                      exact absurd (Option.some.inj H1) (by decide)
              · replace c13 := Bool.eq_false_iff.mpr c13
                subst c13
                have H1 : (some false) = some r := by rw [if_neg (show ¬ (false = true) by decide)] at H; exact H
                rw [hr_.out] at H1
                exact absurd (Option.some.inj H1) (by decide)
            · rw [if_neg c11] at H
              rw [hr_.out] at H
              exact absurd (Option.some.inj H) (by decide)
          · rw [if_neg c9] at H
            rw [hr_.out] at H
            exact absurd (Option.some.inj H) (by decide)
        · rw [if_neg c8] at H
          rw [hr_.out] at H
          exact absurd (Option.some.inj H) (by decide)
      · replace c7 := Bool.eq_false_iff.mpr c7
        subst c7
        have H1 : (some false) = some r := by rw [if_neg (show ¬ (false = true) by decide)] at H; exact H
        rw [hr_.out] at H1
        exact absurd (Option.some.inj H1) (by decide)
    · rw [if_neg c6] at H
      rw [hr_.out] at H
      exact absurd (Option.some.inj H) (by decide)
  · rw [if_neg c5] at H
    rw [hr_.out] at H
    exact absurd (Option.some.inj H) (by decide)

/-! ### lodgerref01_Pow: function 34 -/
def lodgerref01_Pow.l0 : Nat → Int → Int → Int → Option (Int)
  | 0, _, _, _ => none
  | k + 1, x0, x3, x4 => if x4 < x0 then (lodgerref01_Pow.l0 k x0 (IntKind.u64.wrap (x3 * 2)) (wrap64 (x4 + 1))) else (some x3)
def lodgerref01_Pow.f (k : Nat) (a0 : Int) : Option (Int) := lodgerref01_Pow.l0 k a0 1 0
theorem lodgerref01_Pow.mono_l : ∀ k, (∀ y0 y1 y2, LeO (lodgerref01_Pow.l0 k y0 y1 y2) (lodgerref01_Pow.l0 (k + 1) y0 y1 y2))
  | 0 => fun _ _ _ r h => by simp [lodgerref01_Pow.l0] at h
  | k + 1 => by
    have ih0 := lodgerref01_Pow.mono_l k
    · intro y0 y1 y2
      unfold lodgerref01_Pow.l0
      repeat' first
      | (with_reducible exact ih0 _ _ _)
      | (with_reducible exact LeO.refl _)
      | (with_reducible exact LeO.none _)
      | (with_reducible refine LeO.ite ?_ ?_)
      | (with_reducible refine LeO.bind ?_ (fun _ => ?_))
      | exact ih0 _ _ _
      | exact LeO.none _
      | refine LeO.ite ?_ ?_
      | refine LeO.bind ?_ (fun _ => ?_)
theorem lodgerref01_Pow.mono : ∀ a0 k, LeO (lodgerref01_Pow.f k a0) (lodgerref01_Pow.f (k + 1) a0) := by
  intro a0 k
  have ih0 := lodgerref01_Pow.mono_l k
  unfold lodgerref01_Pow.f
  repeat' first
      | (with_reducible exact ih0 _ _ _)
      | (with_reducible exact LeO.refl _)
      | (with_reducible exact LeO.none _)
      | (with_reducible refine LeO.ite ?_ ?_)
      | (with_reducible refine LeO.bind ?_ (fun _ => ?_))
      | exact ih0 _ _ _
      | exact LeO.none _
      | refine LeO.ite ?_ ?_
      | refine LeO.bind ?_ (fun _ => ?_)
set_option maxHeartbeats 8000000 in
set_option maxRecDepth 100000 in
theorem lodgerref01_Pow.calls (k : Nat) (a0 : Int) (r : Int) (w : World) (h : lodgerref01_Pow.f k a0 = some r) :
    Calls Try.prog 34 #[.int .i64 a0] w fun e w' => e = .returned (.int .u64 r) ∧ Drawn0 w w' := by
  have H : (lodgerref01_Pow.l0 k a0 1 0) = some r := h
  clear h
  have H' := Aside0.mk H
  clear H
  go_enter Try.func34, Try.ntmps34
  go_wp2
  go_loopg [3, 4] k (fun kq v3 v4 w' => ∃ (x3_1 : Int) (x4_1 : Int), v3 = .int .u64 x3_1 ∧ v4 = .int .i64 x4_1 ∧ Aside0 (lodgerref01_Pow.l0 kq a0 x3_1 x4_1 = some r) ∧ Aside0 (kq ≤ k) ∧ Drawn0 w w')
  case atStart => exact ⟨(1), (0), (by first | rfl | (simp; done) | (simp [*]; done)), (by first | rfl | (simp; done) | (simp [*]; done)), H', ⟨Nat.le_refl _⟩, by repeat (first | exact Drawn0.refl _ | apply Drawn0.step)⟩
  case round =>
    clear H'
    obtain ⟨x3_1, x4_1, rfl, rfl, HA, HK1, ⟨m1, rfl⟩⟩ := hrel
    cases gk with
    | zero => exact absurd HA.out (by simp [lodgerref01_Pow.l0])
    | succ k1 =>
      have H := HA.out
      clear HA
      simp only [lodgerref01_Pow.l0] at H
      by_cases c2 : x4_1 < a0
      · rw [if_pos c2] at H
        have c2b0 : decide (x4_1 < a0) = true := decide_eq_true c2
        clear c2
        have H' := Aside0.mk H
        clear H
        go_wp2
        go_roundg k1
        case measure => have := HK1.out; omega
        case rel => exact ⟨(IntKind.u64.wrap (x3_1 * 2)), (wrap64 (x4_1 + 1)), (by first | rfl | (simp; done) | (simp [*]; done)), (by first | rfl | (simp; done) | (simp [*]; done)), H', ⟨by have := HK1.out; omega⟩, by repeat (first | exact Drawn0.refl _ | apply Drawn0.step)⟩
      · rw [if_neg c2] at H
        have c2b0 : decide (x4_1 < a0) = false := decide_eq_false c2
        clear c2
        obtain rfl := Option.some.inj H
        go_wp2
        go_ret
        exact ⟨by first | rfl | (simp; done) | (simp [*]; done), by repeat (first | exact Drawn0.refl _ | apply Drawn0.step)⟩

/-! ### lodgerref01_Has: function 12 -/
def lodgerref01_Has.f (k : Nat) (a0 : Int) (a1 : Int) : Option (Bool) := (lodgerref01_Pow.f k a1).bind fun t174 => (if t174 = 0 then (none) else (some ((Int.tmod (IntKind.u64.wrap (Int.tdiv a0 t174)) 2) == 1)))
theorem lodgerref01_Has.mono : ∀ a0 a1 k, LeO (lodgerref01_Has.f k a0 a1) (lodgerref01_Has.f (k + 1) a0 a1) := by
  intro a0 a1 k
  unfold lodgerref01_Has.f
  repeat' first
      | (with_reducible exact lodgerref01_Pow.mono _ _)
      | (with_reducible exact LeO.refl _)
      | (with_reducible exact LeO.none _)
      | (with_reducible refine LeO.ite ?_ ?_)
      | (with_reducible refine LeO.bind ?_ (fun _ => ?_))
      | exact lodgerref01_Pow.mono _ _
      | exact LeO.none _
      | refine LeO.ite ?_ ?_
      | refine LeO.bind ?_ (fun _ => ?_)
set_option maxHeartbeats 8000000 in
set_option maxRecDepth 100000 in
theorem lodgerref01_Has.calls (k : Nat) (a0 : Int) (a1 : Int) (r : Bool) (w : World) (h : lodgerref01_Has.f k a0 a1 = some r) :
    Calls Try.prog 12 #[.int .u64 a0, .int .i64 a1] w fun e w' => e = .returned (.bool r) ∧ Drawn0 w w' := by
  have H : ((lodgerref01_Pow.f k a1).bind fun t174 => (if t174 = 0 then (none) else (some ((Int.tmod (IntKind.u64.wrap (Int.tdiv a0 t174)) 2) == 1)))) = some r := h
  clear h
  replace H := Option.bind_eq_some_iff.mp H
  obtain ⟨t174, A30, H⟩ := H
  replace H : (if t174 = 0 then (none) else (some ((Int.tmod (IntKind.u64.wrap (Int.tdiv a0 t174)) 2) == 1))) = some r := H
  have A3 := Aside0.mk A30
  clear A30
  by_cases c4 : t174 = 0
  · rw [if_pos c4] at H
    exact absurd H (by simp)
  · rw [if_neg c4] at H
    have c4b0 : (t174 == 0) = false := beq_eq_false_iff_ne.mpr c4
    have c4b1 : (t174 != 0) = true := bne_iff_ne.mpr c4
    obtain rfl := Option.some.inj H
    go_enter Try.func12, Try.ntmps12
    go_wp2_with (first | ((with_reducible refine gate_callee (f := 34) rfl ?_); refine goesL_ (some 7) rfl rfl Try.func34 (by kernel_rfl) rfl #[.int .i64 a1] rfl (by (try simp only [List.map_toArray, List.map_cons, List.map_nil]); first | done | rfl | (simp only [List.length_drop, List.length_take]; rfl)) ?_; (with_reducible refine (lodgerref01_Pow.calls k a1 t174 _ A3.out).mono ?_); rintro e w' ⟨rfl, ⟨nd, rfl⟩⟩; refine ⟨_, rfl, ?_⟩) | (go_at_call 34; (with_reducible refine (lodgerref01_Pow.calls k a1 t174 _ A3.out).mono ?_); rintro e w' ⟨rfl, ⟨nd, rfl⟩⟩))
    go_ret
    exact ⟨by first | rfl | (simp; done) | (simp [*]; done), by repeat (first | exact Drawn0.refl _ | apply Drawn0.step)⟩

/-! ### lodgerref04_Many: function 42 -/
def lodgerref04_Many.l0 : Nat → Int → Int → Option (Int)
  | 0, _, _ => none
  | k + 1, x3, x4 => if x4 < 32 then (lodgerref04_Many.l0 k (wrap64 (2 * x3)) (wrap64 (x4 + 1))) else (some x3)
def lodgerref04_Many.f (k : Nat) (a0 : Int) : Option (Int) := lodgerref04_Many.l0 k 1 a0
theorem lodgerref04_Many.mono_l : ∀ k, (∀ y0 y1, LeO (lodgerref04_Many.l0 k y0 y1) (lodgerref04_Many.l0 (k + 1) y0 y1))
  | 0 => fun _ _ r h => by simp [lodgerref04_Many.l0] at h
  | k + 1 => by
    have ih0 := lodgerref04_Many.mono_l k
    · intro y0 y1
      unfold lodgerref04_Many.l0
      repeat' first
      | (with_reducible exact ih0 _ _)
      | (with_reducible exact LeO.refl _)
      | (with_reducible exact LeO.none _)
      | (with_reducible refine LeO.ite ?_ ?_)
      | (with_reducible refine LeO.bind ?_ (fun _ => ?_))
      | exact ih0 _ _
      | exact LeO.none _
      | refine LeO.ite ?_ ?_
      | refine LeO.bind ?_ (fun _ => ?_)
theorem lodgerref04_Many.mono : ∀ a0 k, LeO (lodgerref04_Many.f k a0) (lodgerref04_Many.f (k + 1) a0) := by
  intro a0 k
  have ih0 := lodgerref04_Many.mono_l k
  unfold lodgerref04_Many.f
  repeat' first
      | (with_reducible exact ih0 _ _)
      | (with_reducible exact LeO.refl _)
      | (with_reducible exact LeO.none _)
      | (with_reducible refine LeO.ite ?_ ?_)
      | (with_reducible refine LeO.bind ?_ (fun _ => ?_))
      | exact ih0 _ _
      | exact LeO.none _
      | refine LeO.ite ?_ ?_
      | refine LeO.bind ?_ (fun _ => ?_)
set_option maxHeartbeats 8000000 in
set_option maxRecDepth 100000 in
theorem lodgerref04_Many.calls (k : Nat) (a0 : Int) (r : Int) (w : World) (h : lodgerref04_Many.f k a0 = some r) :
    Calls Try.prog 42 #[.int .i64 a0] w fun e w' => e = .returned (.int .i64 r) ∧ Drawn0 w w' := by
  have H : (lodgerref04_Many.l0 k 1 a0) = some r := h
  clear h
  have H' := Aside0.mk H
  clear H
  go_enter Try.func42, Try.ntmps42
  go_wp2
  go_loopg [3, 4] k (fun kq v3 v4 w' => ∃ (x3_1 : Int) (x4_1 : Int), v3 = .int .i64 x3_1 ∧ v4 = .int .i64 x4_1 ∧ Aside0 (lodgerref04_Many.l0 kq x3_1 x4_1 = some r) ∧ Aside0 (kq ≤ k) ∧ Drawn0 w w')
  case atStart => exact ⟨(1), (a0), (by first | rfl | (simp; done) | (simp [*]; done)), (by first | rfl | (simp; done) | (simp [*]; done)), H', ⟨Nat.le_refl _⟩, by repeat (first | exact Drawn0.refl _ | apply Drawn0.step)⟩
  case round =>
    clear H'
    obtain ⟨x3_1, x4_1, rfl, rfl, HA, HK1, ⟨m1, rfl⟩⟩ := hrel
    cases gk with
    | zero => exact absurd HA.out (by simp [lodgerref04_Many.l0])
    | succ k1 =>
      have H := HA.out
      clear HA
      simp only [lodgerref04_Many.l0] at H
      by_cases c2 : x4_1 < 32
      · rw [if_pos c2] at H
        have c2b0 : decide (x4_1 < 32) = true := decide_eq_true c2
        clear c2
        have H' := Aside0.mk H
        clear H
        go_wp2
        go_roundg k1
        case measure => have := HK1.out; omega
        case rel => exact ⟨(wrap64 (2 * x3_1)), (wrap64 (x4_1 + 1)), (by first | rfl | (simp; done) | (simp [*]; done)), (by first | rfl | (simp; done) | (simp [*]; done)), H', ⟨by have := HK1.out; omega⟩, by repeat (first | exact Drawn0.refl _ | apply Drawn0.step)⟩
      · rw [if_neg c2] at H
        have c2b0 : decide (x4_1 < 32) = false := decide_eq_false c2
        clear c2
        obtain rfl := Option.some.inj H
        go_wp2
        go_ret
        exact ⟨by first | rfl | (simp; done) | (simp [*]; done), by repeat (first | exact Drawn0.refl _ | apply Drawn0.step)⟩

/-! ### lodgerref05_Many: function 21 -/
def lodgerref05_Many.f (k : Nat) (a0_0 : Int) (a0_1 : Int) : Option (Int) := (lodgerref04_Many.f k a0_1).bind fun t176 => (some t176)
theorem lodgerref05_Many.mono : ∀ a0 a1 k, LeO (lodgerref05_Many.f k a0 a1) (lodgerref05_Many.f (k + 1) a0 a1) := by
  intro a0 a1 k
  unfold lodgerref05_Many.f
  repeat' first
      | (with_reducible exact lodgerref04_Many.mono _ _)
      | (with_reducible exact LeO.refl _)
      | (with_reducible exact LeO.none _)
      | (with_reducible refine LeO.ite ?_ ?_)
      | (with_reducible refine LeO.bind ?_ (fun _ => ?_))
      | exact lodgerref04_Many.mono _ _
      | exact LeO.none _
      | refine LeO.ite ?_ ?_
      | refine LeO.bind ?_ (fun _ => ?_)
set_option maxHeartbeats 8000000 in
set_option maxRecDepth 100000 in
theorem lodgerref05_Many.calls (k : Nat) (a0_0 : Int) (a0_1 : Int) (r : Int) (w : World) (h : lodgerref05_Many.f k a0_0 a0_1 = some r) :
    Calls Try.prog 21 #[.agg #[.int .u32 a0_0, .int .i64 a0_1]] w fun e w' => e = .returned (.int .i64 r) ∧ Below w.heap.size w w' := by
  have hu33 := Try.underlying33
  have HB := Aside0.mk (Below.refl w.heap.size w)
  have H : ((lodgerref04_Many.f k a0_1).bind fun t176 => (some t176)) = some r := h
  clear h
  replace H := Option.bind_eq_some_iff.mp H
  obtain ⟨t176, A20, H⟩ := H
  replace H : (some t176) = some r := H
  have A2 := Aside0.mk A20
  clear A20
  obtain rfl := Option.some.inj H
  go_enter Try.func21, Try.ntmps21
  go_wp2_with (first | ((with_reducible refine gate_dst (N := 1) rfl ?_); refine box_event ?hg (N := 1) ?hd (cs := #[.int .u32 a0_0, .int .i64 a0_1]) (t := 33) ?hr ?_; (case hd => rfl); (case hg => rfl); (case hr => first | (go_simp; done) | (go_simp; rfl)); intro gb175 hg w3 hbox hb; have n0_ := Aside0.mk (below_step (by repeat (first | (with_reducible first | exact HB.out | apply below_alloc | apply pw_below_drewN | apply below_drew1) | exact HB.out)) hb); have n1_ := Aside0.mk (hbox); have n2_ := Aside0.mk ((by rw [hg]; exact (below_size (by repeat (first | (with_reducible first | exact HB.out | apply below_alloc | apply pw_below_drewN | apply below_drew1) | exact HB.out))) : w.heap.size ≤ gb175)); have n3_ := Aside0.mk ((by rw [hg]; exact (below_size (by repeat (first | (with_reducible first | exact HB.out | apply below_alloc | apply pw_below_drewN | apply below_drew1) | exact HB.out))) : w.heap.size ≤ gb175)); clear HB; have HB := n0_; have BK175 := n1_; have GW175 := n2_; have GE175 := n3_; clear n0_ n1_ n2_ n3_; clear hb hbox hg; have hcz4_0 : w3.cell? ⟨gb175, 0, none⟩ = some (.int .u32 a0_0) := (blk_cell BK175.out 0).trans rfl; have hcz4_1 : w3.cell? ⟨gb175, 1, none⟩ = some (.int .i64 a0_1) := (blk_cell BK175.out 1).trans rfl; have hfz4_0 := blk_frozen BK175.out 0; have hfz4_1 := blk_frozen BK175.out 1) | ((with_reducible refine gate_callee (f := 42) rfl ?_); refine goesL_ (some 5) rfl rfl Try.func42 (by kernel_rfl) rfl #[.int .i64 a0_1] rfl (by (try simp only [List.map_toArray, List.map_cons, List.map_nil]); first | done | rfl | (simp only [List.length_drop, List.length_take]; rfl)) ?_; (with_reducible refine (lodgerref04_Many.calls k a0_1 t176 _ A2.out).mono ?_); rintro e w' ⟨rfl, ⟨nd, rfl⟩⟩; refine ⟨_, rfl, ?_⟩) | (go_at_call 42; (with_reducible refine (lodgerref04_Many.calls k a0_1 t176 _ A2.out).mono ?_); rintro e w' ⟨rfl, ⟨nd, rfl⟩⟩))
  go_ret
  exact ⟨by first | rfl | (simp [errW_none, errW_some] <;> rfl) | (simp [*, errW_none, errW_some] <;> rfl), by repeat (first | (with_reducible first | exact HB.out | apply below_alloc | apply pw_below_drewN | apply below_drew1 | refine below_set ?_ GE175.out) | exact HB.out)⟩

/-! ### lodgerref04_May: function 41 -/
def lodgerref04_May.f (k : Nat) (a0_0 : Int) (a0_1 : Int) : Option (Bool) := if a0_1 ≥ 16 then (if a0_1 ≤ 32 then ((lodgerref04_Many.f k a0_1).bind fun t178 => (if t178 = 0 then (none) else (some ((Int.tmod (wrap64 (a0_0)) t178) == 0)))) else (some false)) else (some false)
theorem lodgerref04_May.mono : ∀ a0 a1 k, LeO (lodgerref04_May.f k a0 a1) (lodgerref04_May.f (k + 1) a0 a1) := by
  intro a0 a1 k
  unfold lodgerref04_May.f
  repeat' first
      | (with_reducible exact lodgerref04_Many.mono _ _)
      | (with_reducible exact LeO.refl _)
      | (with_reducible exact LeO.none _)
      | (with_reducible refine LeO.ite ?_ ?_)
      | (with_reducible refine LeO.bind ?_ (fun _ => ?_))
      | exact lodgerref04_Many.mono _ _
      | exact LeO.none _
      | refine LeO.ite ?_ ?_
      | refine LeO.bind ?_ (fun _ => ?_)
set_option maxHeartbeats 8000000 in
set_option maxRecDepth 100000 in
theorem lodgerref04_May.calls (k : Nat) (a0_0 : Int) (a0_1 : Int) (r : Bool) (w : World) (h : lodgerref04_May.f k a0_0 a0_1 = some r) :
    Calls Try.prog 41 #[.agg #[.int .u32 a0_0, .int .i64 a0_1]] w fun e w' => e = .returned (.bool r) ∧ Below w.heap.size w w' := by
  have hu33 := Try.underlying33
  have HB := Aside0.mk (Below.refl w.heap.size w)
  have H : (if a0_1 ≥ 16 then (if a0_1 ≤ 32 then ((lodgerref04_Many.f k a0_1).bind fun t178 => (if t178 = 0 then (none) else (some ((Int.tmod (wrap64 (a0_0)) t178) == 0)))) else (some false)) else (some false)) = some r := h
  clear h
  by_cases c2 : a0_1 ≥ 16
  · rw [if_pos c2] at H
    have c2b0 : decide (16 ≤ a0_1) = true := decide_eq_true c2
    clear c2
    by_cases c3 : a0_1 ≤ 32
    · rw [if_pos c3] at H
      have c3b0 : decide (a0_1 ≤ 32) = true := decide_eq_true c3
      clear c3
      replace H := Option.bind_eq_some_iff.mp H
      obtain ⟨t178, A40, H⟩ := H
      replace H : (if t178 = 0 then (none) else (some ((Int.tmod (wrap64 (a0_0)) t178) == 0))) = some r := H
      have A4 := Aside0.mk A40
      clear A40
      by_cases c5 : t178 = 0
      · rw [if_pos c5] at H
        exact absurd H (by simp)
      · rw [if_neg c5] at H
        have c5b0 : (t178 == 0) = false := beq_eq_false_iff_ne.mpr c5
        have c5b1 : (t178 != 0) = true := bne_iff_ne.mpr c5
        obtain rfl := Option.some.inj H
        go_enter Try.func41, Try.ntmps41
        go_wp2_with (first | ((with_reducible refine gate_dst (N := 1) rfl ?_); refine box_event ?hg (N := 1) ?hd (cs := #[.int .u32 a0_0, .int .i64 a0_1]) (t := 33) ?hr ?_; (case hd => rfl); (case hg => rfl); (case hr => first | (go_simp; done) | (go_simp; rfl)); intro gb177 hg w6 hbox hb; have n0_ := Aside0.mk (below_step (by repeat (first | (with_reducible first | exact HB.out | apply below_alloc | apply pw_below_drewN | apply below_drew1) | exact HB.out)) hb); have n1_ := Aside0.mk (hbox); have n2_ := Aside0.mk ((by rw [hg]; exact (below_size (by repeat (first | (with_reducible first | exact HB.out | apply below_alloc | apply pw_below_drewN | apply below_drew1) | exact HB.out))) : w.heap.size ≤ gb177)); have n3_ := Aside0.mk ((by rw [hg]; exact (below_size (by repeat (first | (with_reducible first | exact HB.out | apply below_alloc | apply pw_below_drewN | apply below_drew1) | exact HB.out))) : w.heap.size ≤ gb177)); clear HB; have HB := n0_; have BK177 := n1_; have GW177 := n2_; have GE177 := n3_; clear n0_ n1_ n2_ n3_; clear hb hbox hg; have hcz7_0 : w6.cell? ⟨gb177, 0, none⟩ = some (.int .u32 a0_0) := (blk_cell BK177.out 0).trans rfl; have hcz7_1 : w6.cell? ⟨gb177, 1, none⟩ = some (.int .i64 a0_1) := (blk_cell BK177.out 1).trans rfl; have hfz7_0 := blk_frozen BK177.out 0; have hfz7_1 := blk_frozen BK177.out 1) | (go_at_call 42; (with_reducible refine (lodgerref04_Many.calls k a0_1 t178 _ A4.out).mono ?_); rintro e w' ⟨rfl, ⟨nd, rfl⟩⟩; (try first | exact ⟨rfl, _, World.drewN_drewN _ _ _⟩ | exact ⟨rfl, _, Eq.trans (World.drewN_drewN _ _ _) (congrArg (World.drewN _) (Nat.add_assoc _ _ _))⟩)))
        repeat (go_quiet (first | ((with_reducible refine gate_dst (N := 1) rfl ?_); refine box_event ?hg (N := 1) ?hd (cs := #[.int .u32 a0_0, .int .i64 a0_1]) (t := 33) ?hr ?_; (case hd => rfl); (case hg => rfl); (case hr => first | (go_simp; done) | (go_simp; rfl)); intro gb177 hg w6 hbox hb; have n0_ := Aside0.mk (below_step (by repeat (first | (with_reducible first | exact HB.out | apply below_alloc | apply pw_below_drewN | apply below_drew1) | exact HB.out)) hb); have n1_ := Aside0.mk (hbox); have n2_ := Aside0.mk ((by rw [hg]; exact (below_size (by repeat (first | (with_reducible first | exact HB.out | apply below_alloc | apply pw_below_drewN | apply below_drew1) | exact HB.out))) : w.heap.size ≤ gb177)); have n3_ := Aside0.mk ((by rw [hg]; exact (below_size (by repeat (first | (with_reducible first | exact HB.out | apply below_alloc | apply pw_below_drewN | apply below_drew1) | exact HB.out))) : w.heap.size ≤ gb177)); clear HB; have HB := n0_; have BK177 := n1_; have GW177 := n2_; have GE177 := n3_; clear n0_ n1_ n2_ n3_; clear hb hbox hg; have hcz7_0 : w6.cell? ⟨gb177, 0, none⟩ = some (.int .u32 a0_0) := (blk_cell BK177.out 0).trans rfl; have hcz7_1 : w6.cell? ⟨gb177, 1, none⟩ = some (.int .i64 a0_1) := (blk_cell BK177.out 1).trans rfl; have hfz7_0 := blk_frozen BK177.out 0; have hfz7_1 := blk_frozen BK177.out 1) | (go_at_call 42; (with_reducible refine (lodgerref04_Many.calls k a0_1 t178 _ A4.out).mono ?_); rintro e w' ⟨rfl, ⟨nd, rfl⟩⟩; (try first | exact ⟨rfl, _, World.drewN_drewN _ _ _⟩ | exact ⟨rfl, _, Eq.trans (World.drewN_drewN _ _ _) (congrArg (World.drewN _) (Nat.add_assoc _ _ _))⟩))); try go_wp2_with (first | ((with_reducible refine gate_dst (N := 1) rfl ?_); refine box_event ?hg (N := 1) ?hd (cs := #[.int .u32 a0_0, .int .i64 a0_1]) (t := 33) ?hr ?_; (case hd => rfl); (case hg => rfl); (case hr => first | (go_simp; done) | (go_simp; rfl)); intro gb177 hg w6 hbox hb; have n0_ := Aside0.mk (below_step (by repeat (first | (with_reducible first | exact HB.out | apply below_alloc | apply pw_below_drewN | apply below_drew1) | exact HB.out)) hb); have n1_ := Aside0.mk (hbox); have n2_ := Aside0.mk ((by rw [hg]; exact (below_size (by repeat (first | (with_reducible first | exact HB.out | apply below_alloc | apply pw_below_drewN | apply below_drew1) | exact HB.out))) : w.heap.size ≤ gb177)); have n3_ := Aside0.mk ((by rw [hg]; exact (below_size (by repeat (first | (with_reducible first | exact HB.out | apply below_alloc | apply pw_below_drewN | apply below_drew1) | exact HB.out))) : w.heap.size ≤ gb177)); clear HB; have HB := n0_; have BK177 := n1_; have GW177 := n2_; have GE177 := n3_; clear n0_ n1_ n2_ n3_; clear hb hbox hg; have hcz7_0 : w6.cell? ⟨gb177, 0, none⟩ = some (.int .u32 a0_0) := (blk_cell BK177.out 0).trans rfl; have hcz7_1 : w6.cell? ⟨gb177, 1, none⟩ = some (.int .i64 a0_1) := (blk_cell BK177.out 1).trans rfl; have hfz7_0 := blk_frozen BK177.out 0; have hfz7_1 := blk_frozen BK177.out 1) | (go_at_call 42; (with_reducible refine (lodgerref04_Many.calls k a0_1 t178 _ A4.out).mono ?_); rintro e w' ⟨rfl, ⟨nd, rfl⟩⟩; (try first | exact ⟨rfl, _, World.drewN_drewN _ _ _⟩ | exact ⟨rfl, _, Eq.trans (World.drewN_drewN _ _ _) (congrArg (World.drewN _) (Nat.add_assoc _ _ _))⟩))))
        go_ret
        exact ⟨by first | rfl | (simp [errW_none, errW_some] <;> rfl) | (simp [*, errW_none, errW_some] <;> rfl), by repeat (first | (with_reducible first | exact HB.out | apply below_alloc | apply pw_below_drewN | apply below_drew1 | refine below_set ?_ GE177.out) | exact HB.out)⟩
    · rw [if_neg c3] at H
      have c3b0 : decide (a0_1 ≤ 32) = false := decide_eq_false c3
      clear c3
      obtain rfl := Option.some.inj H
      go_enter Try.func41, Try.ntmps41
      go_wp2_with (first | ((with_reducible refine gate_dst (N := 1) rfl ?_); refine box_event ?hg (N := 1) ?hd (cs := #[.int .u32 a0_0, .int .i64 a0_1]) (t := 33) ?hr ?_; (case hd => rfl); (case hg => rfl); (case hr => first | (go_simp; done) | (go_simp; rfl)); intro gb177 hg w8 hbox hb; have n0_ := Aside0.mk (below_step (by repeat (first | (with_reducible first | exact HB.out | apply below_alloc | apply pw_below_drewN | apply below_drew1) | exact HB.out)) hb); have n1_ := Aside0.mk (hbox); have n2_ := Aside0.mk ((by rw [hg]; exact (below_size (by repeat (first | (with_reducible first | exact HB.out | apply below_alloc | apply pw_below_drewN | apply below_drew1) | exact HB.out))) : w.heap.size ≤ gb177)); have n3_ := Aside0.mk ((by rw [hg]; exact (below_size (by repeat (first | (with_reducible first | exact HB.out | apply below_alloc | apply pw_below_drewN | apply below_drew1) | exact HB.out))) : w.heap.size ≤ gb177)); clear HB; have HB := n0_; have BK177 := n1_; have GW177 := n2_; have GE177 := n3_; clear n0_ n1_ n2_ n3_; clear hb hbox hg; have hcz9_0 : w8.cell? ⟨gb177, 0, none⟩ = some (.int .u32 a0_0) := (blk_cell BK177.out 0).trans rfl; have hcz9_1 : w8.cell? ⟨gb177, 1, none⟩ = some (.int .i64 a0_1) := (blk_cell BK177.out 1).trans rfl; have hfz9_0 := blk_frozen BK177.out 0; have hfz9_1 := blk_frozen BK177.out 1))
      repeat (go_quiet (first | ((with_reducible refine gate_dst (N := 1) rfl ?_); refine box_event ?hg (N := 1) ?hd (cs := #[.int .u32 a0_0, .int .i64 a0_1]) (t := 33) ?hr ?_; (case hd => rfl); (case hg => rfl); (case hr => first | (go_simp; done) | (go_simp; rfl)); intro gb177 hg w8 hbox hb; have n0_ := Aside0.mk (below_step (by repeat (first | (with_reducible first | exact HB.out | apply below_alloc | apply pw_below_drewN | apply below_drew1) | exact HB.out)) hb); have n1_ := Aside0.mk (hbox); have n2_ := Aside0.mk ((by rw [hg]; exact (below_size (by repeat (first | (with_reducible first | exact HB.out | apply below_alloc | apply pw_below_drewN | apply below_drew1) | exact HB.out))) : w.heap.size ≤ gb177)); have n3_ := Aside0.mk ((by rw [hg]; exact (below_size (by repeat (first | (with_reducible first | exact HB.out | apply below_alloc | apply pw_below_drewN | apply below_drew1) | exact HB.out))) : w.heap.size ≤ gb177)); clear HB; have HB := n0_; have BK177 := n1_; have GW177 := n2_; have GE177 := n3_; clear n0_ n1_ n2_ n3_; clear hb hbox hg; have hcz9_0 : w8.cell? ⟨gb177, 0, none⟩ = some (.int .u32 a0_0) := (blk_cell BK177.out 0).trans rfl; have hcz9_1 : w8.cell? ⟨gb177, 1, none⟩ = some (.int .i64 a0_1) := (blk_cell BK177.out 1).trans rfl; have hfz9_0 := blk_frozen BK177.out 0; have hfz9_1 := blk_frozen BK177.out 1)); try go_wp2_with (first | ((with_reducible refine gate_dst (N := 1) rfl ?_); refine box_event ?hg (N := 1) ?hd (cs := #[.int .u32 a0_0, .int .i64 a0_1]) (t := 33) ?hr ?_; (case hd => rfl); (case hg => rfl); (case hr => first | (go_simp; done) | (go_simp; rfl)); intro gb177 hg w8 hbox hb; have n0_ := Aside0.mk (below_step (by repeat (first | (with_reducible first | exact HB.out | apply below_alloc | apply pw_below_drewN | apply below_drew1) | exact HB.out)) hb); have n1_ := Aside0.mk (hbox); have n2_ := Aside0.mk ((by rw [hg]; exact (below_size (by repeat (first | (with_reducible first | exact HB.out | apply below_alloc | apply pw_below_drewN | apply below_drew1) | exact HB.out))) : w.heap.size ≤ gb177)); have n3_ := Aside0.mk ((by rw [hg]; exact (below_size (by repeat (first | (with_reducible first | exact HB.out | apply below_alloc | apply pw_below_drewN | apply below_drew1) | exact HB.out))) : w.heap.size ≤ gb177)); clear HB; have HB := n0_; have BK177 := n1_; have GW177 := n2_; have GE177 := n3_; clear n0_ n1_ n2_ n3_; clear hb hbox hg; have hcz9_0 : w8.cell? ⟨gb177, 0, none⟩ = some (.int .u32 a0_0) := (blk_cell BK177.out 0).trans rfl; have hcz9_1 : w8.cell? ⟨gb177, 1, none⟩ = some (.int .i64 a0_1) := (blk_cell BK177.out 1).trans rfl; have hfz9_0 := blk_frozen BK177.out 0; have hfz9_1 := blk_frozen BK177.out 1)))
      go_ret
      exact ⟨by first | rfl | (simp [errW_none, errW_some] <;> rfl) | (simp [*, errW_none, errW_some] <;> rfl), by repeat (first | (with_reducible first | exact HB.out | apply below_alloc | apply pw_below_drewN | apply below_drew1 | refine below_set ?_ GE177.out) | exact HB.out)⟩
  · rw [if_neg c2] at H
    have c2b0 : decide (16 ≤ a0_1) = false := decide_eq_false c2
    clear c2
    obtain rfl := Option.some.inj H
    go_enter Try.func41, Try.ntmps41
    go_wp2_with (first | ((with_reducible refine gate_dst (N := 1) rfl ?_); refine box_event ?hg (N := 1) ?hd (cs := #[.int .u32 a0_0, .int .i64 a0_1]) (t := 33) ?hr ?_; (case hd => rfl); (case hg => rfl); (case hr => first | (go_simp; done) | (go_simp; rfl)); intro gb177 hg w10 hbox hb; have n0_ := Aside0.mk (below_step (by repeat (first | (with_reducible first | exact HB.out | apply below_alloc | apply pw_below_drewN | apply below_drew1) | exact HB.out)) hb); have n1_ := Aside0.mk (hbox); have n2_ := Aside0.mk ((by rw [hg]; exact (below_size (by repeat (first | (with_reducible first | exact HB.out | apply below_alloc | apply pw_below_drewN | apply below_drew1) | exact HB.out))) : w.heap.size ≤ gb177)); have n3_ := Aside0.mk ((by rw [hg]; exact (below_size (by repeat (first | (with_reducible first | exact HB.out | apply below_alloc | apply pw_below_drewN | apply below_drew1) | exact HB.out))) : w.heap.size ≤ gb177)); clear HB; have HB := n0_; have BK177 := n1_; have GW177 := n2_; have GE177 := n3_; clear n0_ n1_ n2_ n3_; clear hb hbox hg; have hcz11_0 : w10.cell? ⟨gb177, 0, none⟩ = some (.int .u32 a0_0) := (blk_cell BK177.out 0).trans rfl; have hcz11_1 : w10.cell? ⟨gb177, 1, none⟩ = some (.int .i64 a0_1) := (blk_cell BK177.out 1).trans rfl; have hfz11_0 := blk_frozen BK177.out 0; have hfz11_1 := blk_frozen BK177.out 1))
    repeat (go_quiet (first | ((with_reducible refine gate_dst (N := 1) rfl ?_); refine box_event ?hg (N := 1) ?hd (cs := #[.int .u32 a0_0, .int .i64 a0_1]) (t := 33) ?hr ?_; (case hd => rfl); (case hg => rfl); (case hr => first | (go_simp; done) | (go_simp; rfl)); intro gb177 hg w10 hbox hb; have n0_ := Aside0.mk (below_step (by repeat (first | (with_reducible first | exact HB.out | apply below_alloc | apply pw_below_drewN | apply below_drew1) | exact HB.out)) hb); have n1_ := Aside0.mk (hbox); have n2_ := Aside0.mk ((by rw [hg]; exact (below_size (by repeat (first | (with_reducible first | exact HB.out | apply below_alloc | apply pw_below_drewN | apply below_drew1) | exact HB.out))) : w.heap.size ≤ gb177)); have n3_ := Aside0.mk ((by rw [hg]; exact (below_size (by repeat (first | (with_reducible first | exact HB.out | apply below_alloc | apply pw_below_drewN | apply below_drew1) | exact HB.out))) : w.heap.size ≤ gb177)); clear HB; have HB := n0_; have BK177 := n1_; have GW177 := n2_; have GE177 := n3_; clear n0_ n1_ n2_ n3_; clear hb hbox hg; have hcz11_0 : w10.cell? ⟨gb177, 0, none⟩ = some (.int .u32 a0_0) := (blk_cell BK177.out 0).trans rfl; have hcz11_1 : w10.cell? ⟨gb177, 1, none⟩ = some (.int .i64 a0_1) := (blk_cell BK177.out 1).trans rfl; have hfz11_0 := blk_frozen BK177.out 0; have hfz11_1 := blk_frozen BK177.out 1)); try go_wp2_with (first | ((with_reducible refine gate_dst (N := 1) rfl ?_); refine box_event ?hg (N := 1) ?hd (cs := #[.int .u32 a0_0, .int .i64 a0_1]) (t := 33) ?hr ?_; (case hd => rfl); (case hg => rfl); (case hr => first | (go_simp; done) | (go_simp; rfl)); intro gb177 hg w10 hbox hb; have n0_ := Aside0.mk (below_step (by repeat (first | (with_reducible first | exact HB.out | apply below_alloc | apply pw_below_drewN | apply below_drew1) | exact HB.out)) hb); have n1_ := Aside0.mk (hbox); have n2_ := Aside0.mk ((by rw [hg]; exact (below_size (by repeat (first | (with_reducible first | exact HB.out | apply below_alloc | apply pw_below_drewN | apply below_drew1) | exact HB.out))) : w.heap.size ≤ gb177)); have n3_ := Aside0.mk ((by rw [hg]; exact (below_size (by repeat (first | (with_reducible first | exact HB.out | apply below_alloc | apply pw_below_drewN | apply below_drew1) | exact HB.out))) : w.heap.size ≤ gb177)); clear HB; have HB := n0_; have BK177 := n1_; have GW177 := n2_; have GE177 := n3_; clear n0_ n1_ n2_ n3_; clear hb hbox hg; have hcz11_0 : w10.cell? ⟨gb177, 0, none⟩ = some (.int .u32 a0_0) := (blk_cell BK177.out 0).trans rfl; have hcz11_1 : w10.cell? ⟨gb177, 1, none⟩ = some (.int .i64 a0_1) := (blk_cell BK177.out 1).trans rfl; have hfz11_0 := blk_frozen BK177.out 0; have hfz11_1 := blk_frozen BK177.out 1)))
    go_ret
    exact ⟨by first | rfl | (simp [errW_none, errW_some] <;> rfl) | (simp [*, errW_none, errW_some] <;> rfl), by repeat (first | (with_reducible first | exact HB.out | apply below_alloc | apply pw_below_drewN | apply below_drew1 | refine below_set ?_ GE177.out) | exact HB.out)⟩

end Go.Proofs.Ytdbpdpdpabhfbaa.PWordUsable
