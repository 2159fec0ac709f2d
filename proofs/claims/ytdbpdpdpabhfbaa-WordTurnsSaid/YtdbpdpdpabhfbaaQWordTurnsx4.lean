/- The walk of WordTurns, part of it: what the Go functions answer; no condition. -/
import Derived.Test.YtdbpdpdpabhfbaaQWordTurnsx0
import Derived.Test.YtdbpdpdpabhfbaaQWordTurnsx1
import Derived.Test.YtdbpdpdpabhfbaaQWordTurnsx2
import Derived.Test.YtdbpdpdpabhfbaaQWordTurnsx3
namespace Go.Proofs.Ytdbpdpdpabhfbaa.PWordTurns
open Go.RowKit Go.Proofs.YtdbpdpdpabhfbaaW.PrintWords Go.Proofs.YtdbpdpdpabhfbaaW.PrintLast Go.Proofs.YtdbpdpdpabhfbaaW.PrintMore
attribute [local go_sem] max2_int min2_int max_two min_two max_three min_three max_four min_four   -- for this text's walks alone
set_option linter.unusedVariables false
set_option linter.unusedSimpArgs false

/-! ### lodgerlaw07_awake: function 8 -/
def lodgerlaw07_awake.f (k : Nat)  : Option (Bool) := (some (([1] : List Int) : List Int)).bind fun y153 => ((word_New.f k 0 30 y153 1 1 1 1 0).bind fun t157 => ((word_First.f k t157).bind fun bt158 => ((word_Claim.f t157 0).bind fun t160 => ((word_Drop.f t160 0).bind fun t161 => (if t157 = 4294967282 then (if bt158.1 = 0 then (if bt158.2 = true then (if t160 = 8589934579 then (if t161 = 12884901874 then ((word_Changes.f t161).bind fun t162 => (if t162 = 2 then ((word_Used.f t160 0).bind fun t163 => (if t163 = true then ((word_Used.f t161 0).bind fun t164 => (if t164 = true then (some false) else ((word_Full.f k t160).bind fun t165 => (if t165 = true then (some false) else ((word_Full.f k 4294967295).bind fun t166 => (if t166 = true then ((word_Cells.f k 0 30 y153 1 1 1 1).bind fun t167 => ((lodgerref02_Same.f k t167 (([4294967282, 18446744073709551614, 18446744073709551614] : List Int))).bind fun t173 => (some t173))) else (some false))))))) else (some false))) else (some false))) else (some false)) else (some false)) else (some false)) else (some false)) else (some false))))))
theorem lodgerlaw07_awake.mono : ∀ k, LeO (lodgerlaw07_awake.f k ) (lodgerlaw07_awake.f (k + 1) ) := by
  intro  k
  unfold lodgerlaw07_awake.f
  repeat' first
      | (with_reducible exact lodgerref02_Same.mono _ _ _)
      | (with_reducible exact word_Cells.mono _ _ _ _ _ _ _ _)
      | (with_reducible exact word_First.mono _ _)
      | (with_reducible exact word_Full.mono _ _)
      | (with_reducible exact word_New.mono _ _ _ _ _ _ _ _ _)
      | (with_reducible exact LeO.refl _)
      | (with_reducible exact LeO.none _)
      | (with_reducible refine LeO.ite ?_ ?_)
      | (with_reducible refine LeO.bind ?_ (fun _ => ?_))
      | exact lodgerref02_Same.mono _ _ _
      | exact word_Cells.mono _ _ _ _ _ _ _ _
      | exact word_First.mono _ _
      | exact word_Full.mono _ _
      | exact word_New.mono _ _ _ _ _ _ _ _ _
      | exact LeO.none _
      | refine LeO.ite ?_ ?_
      | refine LeO.bind ?_ (fun _ => ?_)
set_option maxHeartbeats 8000000 in
set_option maxRecDepth 100000 in
theorem lodgerlaw07_awake.only {k : Nat} {r : Bool} (h : lodgerlaw07_awake.f k = some r) : r = true := by
  have e : lodgerlaw07_awake.f 500 = some true := by decide +kernel
  have h1 := at_rounds lodgerlaw07_awake.mono (Nat.le_max_left k 500) h
  rw [at_rounds lodgerlaw07_awake.mono (Nat.le_max_right k 500) e] at h1
  exact (Option.some.inj h1).symm
theorem lodgerlaw07_awake.calls (k : Nat)  (r : Bool) (w : World) (h : lodgerlaw07_awake.f k  = some r) :
    Calls Try.prog 8 #[] w fun e w' => e = .returned (.bool r) ∧ Below w.heap.size w w' := by
  have hu33 := Try.underlying33
  have hu36 := Try.underlying36
  have HB := Aside0.mk (Below.refl w.heap.size w)
  have hr_ := Aside0.mk (lodgerlaw07_awake.only h)
  have H : ((some (([1] : List Int) : List Int)).bind fun y153 => ((word_New.f k 0 30 y153 1 1 1 1 0).bind fun t157 => ((word_First.f k t157).bind fun bt158 => ((word_Claim.f t157 0).bind fun t160 => ((word_Drop.f t160 0).bind fun t161 => (if t157 = 4294967282 then (if bt158.1 = 0 then (if bt158.2 = true then (if t160 = 8589934579 then (if t161 = 12884901874 then ((word_Changes.f t161).bind fun t162 => (if t162 = 2 then ((word_Used.f t160 0).bind fun t163 => (if t163 = true then ((word_Used.f t161 0).bind fun t164 => (if t164 = true then (some false) else ((word_Full.f k t160).bind fun t165 => (if t165 = true then (some false) else ((word_Full.f k 4294967295).bind fun t166 => (if t166 = true then ((word_Cells.f k 0 30 y153 1 1 1 1).bind fun t167 => ((lodgerref02_Same.f k t167 (([4294967282, 18446744073709551614, 18446744073709551614] : List Int))).bind fun t173 => (some t173))) else (some false))))))) else (some false))) else (some false))) else (some false)) else (some false)) else (some false)) else (some false)) else (some false))))))) = some r := h
  clear h
  obtain ⟨y153, hy153⟩ : ∃ y_ : List Int, y_ = (([1] : List Int)) := ⟨_, rfl⟩
  replace H : ((word_New.f k 0 30 y153 1 1 1 1 0).bind fun t157 => ((word_First.f k t157).bind fun bt158 => ((word_Claim.f t157 0).bind fun t160 => ((word_Drop.f t160 0).bind fun t161 => (if t157 = 4294967282 then (if bt158.1 = 0 then (if bt158.2 = true then (if t160 = 8589934579 then (if t161 = 12884901874 then ((word_Changes.f t161).bind fun t162 => (if t162 = 2 then ((word_Used.f t160 0).bind fun t163 => (if t163 = true then ((word_Used.f t161 0).bind fun t164 => (if t164 = true then (some false) else ((word_Full.f k t160).bind fun t165 => (if t165 = true then (some false) else ((word_Full.f k 4294967295).bind fun t166 => (if t166 = true then ((word_Cells.f k 0 30 y153 1 1 1 1).bind fun t167 => ((lodgerref02_Same.f k t167 (([4294967282, 18446744073709551614, 18446744073709551614] : List Int))).bind fun t173 => (some t173))) else (some false))))))) else (some false))) else (some false))) else (some false)) else (some false)) else (some false)) else (some false)) else (some false)))))) = some r := by first | (rw [hy153]; with_reducible exact H) | (have H2_ := (Option.bind_some _ _).symm.trans H; rw [hy153]; with_reducible exact H2_) | (have H2_ := (Option.bind_some _ _).symm.trans H; with_reducible exact H2_) | with_reducible exact H | (rw [hy153]; exact H) | exact H
  have Ny153 := Aside0.mk hy153
  clear hy153
  replace H := Option.bind_eq_some_iff.mp H
  obtain ⟨t157, A10, H⟩ := H
  replace H : ((word_First.f k t157).bind fun bt158 => ((word_Claim.f t157 0).bind fun t160 => ((word_Drop.f t160 0).bind fun t161 => (if t157 = 4294967282 then (if bt158.1 = 0 then (if bt158.2 = true then (if t160 = 8589934579 then (if t161 = 12884901874 then ((word_Changes.f t161).bind fun t162 => (if t162 = 2 then ((word_Used.f t160 0).bind fun t163 => (if t163 = true then ((word_Used.f t161 0).bind fun t164 => (if t164 = true then (some false) else ((word_Full.f k t160).bind fun t165 => (if t165 = true then (some false) else ((word_Full.f k 4294967295).bind fun t166 => (if t166 = true then ((word_Cells.f k 0 30 y153 1 1 1 1).bind fun t167 => ((lodgerref02_Same.f k t167 (([4294967282, 18446744073709551614, 18446744073709551614] : List Int))).bind fun t173 => (some t173))) else (some false))))))) else (some false))) else (some false))) else (some false)) else (some false)) else (some false)) else (some false)) else (some false))))) = some r := H
  have A1 := Aside0.mk A10
  clear A10
  replace H := Option.bind_eq_some_iff.mp H
  obtain ⟨⟨t158, t159⟩, A20, H⟩ := H
  replace H : ((word_Claim.f t157 0).bind fun t160 => ((word_Drop.f t160 0).bind fun t161 => (if t157 = 4294967282 then (if t158 = 0 then (if t159 = true then (if t160 = 8589934579 then (if t161 = 12884901874 then ((word_Changes.f t161).bind fun t162 => (if t162 = 2 then ((word_Used.f t160 0).bind fun t163 => (if t163 = true then ((word_Used.f t161 0).bind fun t164 => (if t164 = true then (some false) else ((word_Full.f k t160).bind fun t165 => (if t165 = true then (some false) else ((word_Full.f k 4294967295).bind fun t166 => (if t166 = true then ((word_Cells.f k 0 30 y153 1 1 1 1).bind fun t167 => ((lodgerref02_Same.f k t167 (([4294967282, 18446744073709551614, 18446744073709551614] : List Int))).bind fun t173 => (some t173))) else (some false))))))) else (some false))) else (some false))) else (some false)) else (some false)) else (some false)) else (some false)) else (some false)))) = some r := H
  have A2 := Aside0.mk A20
  clear A20
  replace H := Option.bind_eq_some_iff.mp H
  obtain ⟨t160, A30, H⟩ := H
  replace H : ((word_Drop.f t160 0).bind fun t161 => (if t157 = 4294967282 then (if t158 = 0 then (if t159 = true then (if t160 = 8589934579 then (if t161 = 12884901874 then ((word_Changes.f t161).bind fun t162 => (if t162 = 2 then ((word_Used.f t160 0).bind fun t163 => (if t163 = true then ((word_Used.f t161 0).bind fun t164 => (if t164 = true then (some false) else ((word_Full.f k t160).bind fun t165 => (if t165 = true then (some false) else ((word_Full.f k 4294967295).bind fun t166 => (if t166 = true then ((word_Cells.f k 0 30 y153 1 1 1 1).bind fun t167 => ((lodgerref02_Same.f k t167 (([4294967282, 18446744073709551614, 18446744073709551614] : List Int))).bind fun t173 => (some t173))) else (some false))))))) else (some false))) else (some false))) else (some false)) else (some false)) else (some false)) else (some false)) else (some false))) = some r := H
  have A3 := Aside0.mk A30
  clear A30
  replace H := Option.bind_eq_some_iff.mp H
  obtain ⟨t161, A40, H⟩ := H
  replace H : (if t157 = 4294967282 then (if t158 = 0 then (if t159 = true then (if t160 = 8589934579 then (if t161 = 12884901874 then ((word_Changes.f t161).bind fun t162 => (if t162 = 2 then ((word_Used.f t160 0).bind fun t163 => (if t163 = true then ((word_Used.f t161 0).bind fun t164 => (if t164 = true then (some false) else ((word_Full.f k t160).bind fun t165 => (if t165 = true then (some false) else ((word_Full.f k 4294967295).bind fun t166 => (if t166 = true then ((word_Cells.f k 0 30 y153 1 1 1 1).bind fun t167 => ((lodgerref02_Same.f k t167 (([4294967282, 18446744073709551614, 18446744073709551614] : List Int))).bind fun t173 => (some t173))) else (some false))))))) else (some false))) else (some false))) else (some false)) else (some false)) else (some false)) else (some false)) else (some false)) = some r := H
  have A4 := Aside0.mk A40
  clear A40
  by_cases c5 : t157 = 4294967282
  · rw [if_pos c5] at H
    have c5b0 : (t157 == 4294967282) = true := beq_iff_eq.mpr c5
    have c5b1 : (t157 != 4294967282) = false := bne_eq_false_iff_eq.mpr c5
    clear c5
    by_cases c6 : t158 = 0
    · rw [if_pos c6] at H
      have c6b0 : (t158 == 0) = true := beq_iff_eq.mpr c6
      have c6b1 : (t158 != 0) = false := bne_eq_false_iff_eq.mpr c6
      clear c6
      by_cases c7 : t159 = true
      · subst c7
        have H1 : (if t160 = 8589934579 then (if t161 = 12884901874 then ((word_Changes.f t161).bind fun t162 => (if t162 = 2 then ((word_Used.f t160 0).bind fun t163 => (if t163 = true then ((word_Used.f t161 0).bind fun t164 => (if t164 = true then (some false) else ((word_Full.f k t160).bind fun t165 => (if t165 = true then (some false) else ((word_Full.f k 4294967295).bind fun t166 => (if t166 = true then ((word_Cells.f k 0 30 y153 1 1 1 1).bind fun t167 => ((lodgerref02_Same.f k t167 (([4294967282, 18446744073709551614, 18446744073709551614] : List Int))).bind fun t173 => (some t173))) else (some false))))))) else (some false))) else (some false))) else (some false)) else (some false)) = some r := by rw [if_pos rfl] at H; exact H
        clear H
        have H := H1
        clear H1
        by_cases c8 : t160 = 8589934579
        · rw [if_pos c8] at H
          have c8b0 : (t160 == 8589934579) = true := beq_iff_eq.mpr c8
          have c8b1 : (t160 != 8589934579) = false := bne_eq_false_iff_eq.mpr c8
          clear c8
          by_cases c9 : t161 = 12884901874
          · rw [if_pos c9] at H
            have c9b0 : (t161 == 12884901874) = true := beq_iff_eq.mpr c9
            have c9b1 : (t161 != 12884901874) = false := bne_eq_false_iff_eq.mpr c9
            clear c9
            replace H := Option.bind_eq_some_iff.mp H
            obtain ⟨t162, A100, H⟩ := H
            replace H : (if t162 = 2 then ((word_Used.f t160 0).bind fun t163 => (if t163 = true then ((word_Used.f t161 0).bind fun t164 => (if t164 = true then (some false) else ((word_Full.f k t160).bind fun t165 => (if t165 = true then (some false) else ((word_Full.f k 4294967295).bind fun t166 => (if t166 = true then ((word_Cells.f k 0 30 y153 1 1 1 1).bind fun t167 => ((lodgerref02_Same.f k t167 (([4294967282, 18446744073709551614, 18446744073709551614] : List Int))).bind fun t173 => (some t173))) else (some false))))))) else (some false))) else (some false)) = some r := H
            have A10 := Aside0.mk A100
            clear A100
            by_cases c11 : t162 = 2
            · rw [if_pos c11] at H
              have c11b0 : (t162 == 2) = true := beq_iff_eq.mpr c11
              have c11b1 : (t162 != 2) = false := bne_eq_false_iff_eq.mpr c11
              clear c11
              replace H := Option.bind_eq_some_iff.mp H
              obtain ⟨t163, A120, H⟩ := H
              replace H : (if t163 = true then ((word_Used.f t161 0).bind fun t164 => (if t164 = true then (some false) else ((word_Full.f k t160).bind fun t165 => (if t165 = true then (some false) else ((word_Full.f k 4294967295).bind fun t166 => (if t166 = true then ((word_Cells.f k 0 30 y153 1 1 1 1).bind fun t167 => ((lodgerref02_Same.f k t167 (([4294967282, 18446744073709551614, 18446744073709551614] : List Int))).bind fun t173 => (some t173))) else (some false))))))) else (some false)) = some r := H
              have A12 := Aside0.mk A120
              clear A120
              by_cases c13 : t163 = true
              · subst c13
                have H1 : ((word_Used.f t161 0).bind fun t164 => (if t164 = true then (some false) else ((word_Full.f k t160).bind fun t165 => (if t165 = true then (some false) else ((word_Full.f k 4294967295).bind fun t166 => (if t166 = true then ((word_Cells.f k 0 30 y153 1 1 1 1).bind fun t167 => ((lodgerref02_Same.f k t167 (([4294967282, 18446744073709551614, 18446744073709551614] : List Int))).bind fun t173 => (some t173))) else (some false))))))) = some r := by rw [if_pos rfl] at H; exact H
                clear H
                have H := H1
                clear H1
                replace H := Option.bind_eq_some_iff.mp H
                obtain ⟨t164, A140, H⟩ := H
                replace H : (if t164 = true then (some false) else ((word_Full.f k t160).bind fun t165 => (if t165 = true then (some false) else ((word_Full.f k 4294967295).bind fun t166 => (if t166 = true then ((word_Cells.f k 0 30 y153 1 1 1 1).bind fun t167 => ((lodgerref02_Same.f k t167 (([4294967282, 18446744073709551614, 18446744073709551614] : List Int))).bind fun t173 => (some t173))) else (some false)))))) = some r := H
                have A14 := Aside0.mk A140
                clear A140
                by_cases c15 : t164 = true
                · subst c15
                  have H1 : (some false) = some r := by rw [if_pos rfl] at H; exact H
                  rw [hr_.out] at H1
                  exact absurd (Option.some.inj H1) (by decide)
                · replace c15 := Bool.eq_false_iff.mpr c15
                  subst c15
                  have H1 : ((word_Full.f k t160).bind fun t165 => (if t165 = true then (some false) else ((word_Full.f k 4294967295).bind fun t166 => (if t166 = true then ((word_Cells.f k 0 30 y153 1 1 1 1).bind fun t167 => ((lodgerref02_Same.f k t167 (([4294967282, 18446744073709551614, 18446744073709551614] : List Int))).bind fun t173 => (some t173))) else (some false))))) = some r := by rw [if_neg (show ¬ (false = true) by decide)] at H; exact H
                  clear H
                  have H := H1
                  clear H1
                  replace H := Option.bind_eq_some_iff.mp H
                  obtain ⟨t165, A220, H⟩ := H
                  replace H : (if t165 = true then (some false) else ((word_Full.f k 4294967295).bind fun t166 => (if t166 = true then ((word_Cells.f k 0 30 y153 1 1 1 1).bind fun t167 => ((lodgerref02_Same.f k t167 (([4294967282, 18446744073709551614, 18446744073709551614] : List Int))).bind fun t173 => (some t173))) else (some false)))) = some r := H
                  have A22 := Aside0.mk A220
                  clear A220
                  by_cases c23 : t165 = true
                  · subst c23
                    have H1 : (some false) = some r := by rw [if_pos rfl] at H; exact H
                    rw [hr_.out] at H1
                    exact absurd (Option.some.inj H1) (by decide)
                  · replace c23 := Bool.eq_false_iff.mpr c23
                    subst c23
                    have H1 : ((word_Full.f k 4294967295).bind fun t166 => (if t166 = true then ((word_Cells.f k 0 30 y153 1 1 1 1).bind fun t167 => ((lodgerref02_Same.f k t167 (([4294967282, 18446744073709551614, 18446744073709551614] : List Int))).bind fun t173 => (some t173))) else (some false))) = some r := by rw [if_neg (show ¬ (false = true) by decide)] at H; exact H
                    clear H
                    have H := H1
                    clear H1
                    replace H := Option.bind_eq_some_iff.mp H
                    obtain ⟨t166, A300, H⟩ := H
                    replace H : (if t166 = true then ((word_Cells.f k 0 30 y153 1 1 1 1).bind fun t167 => ((lodgerref02_Same.f k t167 (([4294967282, 18446744073709551614, 18446744073709551614] : List Int))).bind fun t173 => (some t173))) else (some false)) = some r := H
                    have A30 := Aside0.mk A300
                    clear A300
                    by_cases c31 : t166 = true
                    · subst c31
                      have H1 : ((word_Cells.f k 0 30 y153 1 1 1 1).bind fun t167 => ((lodgerref02_Same.f k t167 (([4294967282, 18446744073709551614, 18446744073709551614] : List Int))).bind fun t173 => (some t173))) = some r := by rw [if_pos rfl] at H; exact H
                      clear H
                      have H := H1
                      clear H1
                      replace H := Option.bind_eq_some_iff.mp H
                      obtain ⟨t167, A320, H⟩ := H
                      replace H : ((lodgerref02_Same.f k t167 (([4294967282, 18446744073709551614, 18446744073709551614] : List Int))).bind fun t173 => (some t173)) = some r := H
                      have A32 := Aside0.mk A320
                      clear A320
                      obtain ⟨y170, hy170⟩ : ∃ y_ : List Int, y_ = (([4294967282, 18446744073709551614, 18446744073709551614] : List Int)) := ⟨_, rfl⟩
                      replace H : ((lodgerref02_Same.f k t167 y170).bind fun t173 => (some t173)) = some r := by first | (rw [hy170]; with_reducible exact H) | (have H2_ := (Option.bind_some _ _).symm.trans H; rw [hy170]; with_reducible exact H2_) | (have H2_ := (Option.bind_some _ _).symm.trans H; with_reducible exact H2_) | with_reducible exact H | (rw [hy170]; exact H) | exact H
                      have Ny170 := Aside0.mk hy170
                      clear hy170
                      replace H := Option.bind_eq_some_iff.mp H
                      obtain ⟨t173, A330, H⟩ := H
                      replace H : (some t173) = some r := H
                      have A33 := Aside0.mk A330
                      clear A330
                      first | (exfalso; rw [hr_.out] at H; exact absurd (Option.some.inj H) (by decide)) | (try clear hr_)
                      all_goals
                        obtain rfl := Option.some.inj H
                        go_enter Try.func8, Try.ntmps8
                        go_wp2_with (first | ((with_reducible refine gate_dst (N := 8) rfl ?_); (try (refine gate_guard (by rfl) ?_; dsimp only)); refine Kd.R_lit (Kd.int .i64) _ 3 ?hg (N := 8) ?hd (xs := ([1] : List Int)) (inner := [.int .i64 1]) (ok := fun _ => True) (okp := fun _ => True) ?hr ?hp (fun _ hk => hk) trivial (Below.refl _ _) (Nat.le_refl _) (by simp) ?_; (case hd => rfl); (case hg => rfl); (case hr => first | (go_simp; done) | (go_simp; rfl)); (case hp => exact (Reps.one (show Kd.M (Kd.int .i64) _ _ _ 1 [.int .i64 1] from rfl) (Reps.none _ _))); intro v154 w34 ho35 hb hg_ hnew_; clear hg_ hnew_; (first | rw [← Ny153.out] at ho35 | (simp only [Int.reduceToNat] at ho35; rw [← Ny153.out] at ho35)); have n0_ := Aside0.mk (Kd.R_lower ho35 (below_size (by repeat (first | (with_reducible first | exact HB.out | apply below_alloc | apply pw_below_drewN | apply below_drew1) | exact HB.out)))); have n1_ := Aside0.mk (below_step (by repeat (first | (with_reducible first | exact HB.out | apply below_alloc | apply pw_below_drewN | apply below_drew1) | exact HB.out)) hb); clear HB; have HO155 := n0_; have HB := n1_; clear n0_ n1_; clear hb ho35; obtain ⟨Ao36, co36, eo36⟩ := Kd.R_slice HO155.out; subst eo36) | ((with_reducible refine gate_dst (N := 1) rfl ?_); (try (refine gate_guard (by rfl) ?_; dsimp only)); refine box_event ?hg (N := 1) ?hd (cs := #[.int .u32 0, .int .i64 0, .slice none 0 0, .int .i64 0, .int .i64 0, .int .i64 0, .int .i64 0]) (t := 36) ?hr ?_; (case hd => rfl); (case hg => rfl); (case hr => first | (go_simp; done) | (go_simp; rfl)); intro gb156 hg w37 hbox hb; have n0_ := Aside0.mk (Kd.R_below (by (with_reducible repeat (first | apply Kd.R_alloc | apply Kd.R_drewN | apply Kd.R_drew)); exact HO155.out) hb); have n1_ := Aside0.mk (below_step (by repeat (first | (with_reducible first | exact HB.out | apply below_alloc | apply pw_below_drewN | apply below_drew1) | exact HB.out)) hb); have n2_ := Aside0.mk (hbox); have n3_ := Aside0.mk ((by rw [hg]; exact (below_size (by repeat (first | (with_reducible first | exact HB.out | apply below_alloc | apply pw_below_drewN | apply below_drew1) | exact HB.out))) : w.heap.size ≤ gb156)); have n4_ := Aside0.mk ((by rw [hg]; exact (below_size (by repeat (first | (with_reducible first | exact HB.out | apply below_alloc | apply pw_below_drewN | apply below_drew1) | exact HB.out))) : w.heap.size ≤ gb156)); clear HO155; clear HB; have HO155 := n0_; have HB := n1_; have BK156 := n2_; have GW156 := n3_; have GE156 := n4_; clear n0_ n1_ n2_ n3_ n4_; clear hb hbox hg; have hcz38_0 : w37.cell? ⟨gb156, 0, none⟩ = some (.int .u32 0) := (blk_cell BK156.out 0).trans rfl; have hcz38_1 : w37.cell? ⟨gb156, 1, none⟩ = some (.int .i64 0) := (blk_cell BK156.out 1).trans rfl; have hcz38_2 : w37.cell? ⟨gb156, 2, none⟩ = some (.slice none 0 0) := (blk_cell BK156.out 2).trans rfl; have hcz38_3 : w37.cell? ⟨gb156, 3, none⟩ = some (.int .i64 0) := (blk_cell BK156.out 3).trans rfl; have hcz38_4 : w37.cell? ⟨gb156, 4, none⟩ = some (.int .i64 0) := (blk_cell BK156.out 4).trans rfl; have hcz38_5 : w37.cell? ⟨gb156, 5, none⟩ = some (.int .i64 0) := (blk_cell BK156.out 5).trans rfl; have hcz38_6 : w37.cell? ⟨gb156, 6, none⟩ = some (.int .i64 0) := (blk_cell BK156.out 6).trans rfl; have hfz38_0 := blk_frozen BK156.out 0; have hfz38_1 := blk_frozen BK156.out 1; have hfz38_2 := blk_frozen BK156.out 2; have hfz38_3 := blk_frozen BK156.out 3; have hfz38_4 := blk_frozen BK156.out 4; have hfz38_5 := blk_frozen BK156.out 5; have hfz38_6 := blk_frozen BK156.out 6) | ((with_reducible refine gate_callee (f := 23) rfl ?_); refine goesL_ (some 11) rfl rfl Try.func23 (by kernel_rfl) rfl #[.agg #[.int .u32 0, .int .i64 30, .slice Ao36 y153.length co36, .int .i64 1, .int .i64 1, .int .i64 1, .int .i64 1], .int .i64 0] rfl (by (try simp only [List.map_toArray, List.map_cons, List.map_nil]); first | done | rfl | (simp only [List.length_drop, List.length_take]; rfl)) ?_; (with_reducible refine (word_New.calls k 0 30 _ _ y153 1 1 1 1 0 t157 _ ?side1 ?side2 A1.out).mono ?_); (case side1 => refine (Kd.R_reads' (e := 3) (base := w.heap.size) (ok := fun k_ => True) (n := y153.length) (c := co36) ?_).2.2; exact (by (with_reducible repeat (first | apply Kd.R_alloc | apply Kd.R_drewN | apply Kd.R_drew)); exact (Kd.R_mono (Kd.R_far (p := ⟨gb156, 6, none⟩) (Kd.R_far (p := ⟨gb156, 5, none⟩) (Kd.R_far (p := ⟨gb156, 4, none⟩) (Kd.R_far (p := ⟨gb156, 3, none⟩) (Kd.R_far (p := ⟨gb156, 2, none⟩) (Kd.R_far (p := ⟨gb156, 1, none⟩) (Kd.R_far (p := ⟨gb156, 0, none⟩) (Kd.R_types HO155.out BK156.out (by decide)) (fun _ hk => hk.2) (.int .u32 0)) (fun _ hk => hk.2) (.int .i64 30)) (fun _ hk => hk.2) (.slice Ao36 y153.length co36)) (fun _ hk => hk.2) (.int .i64 1)) (fun _ hk => hk.2) (.int .i64 1)) (fun _ hk => hk.2) (.int .i64 1)) (fun _ hk => hk.2) (.int .i64 1)) (fun _ h_ => h_.1)))); (case side2 => exact (Kd.R_reads' HO155.out).2.1); rintro e w39 ⟨rfl, hb⟩; refine ⟨_, rfl, ?_⟩; have n0_ := Aside0.mk (Kd.R_below (by (with_reducible repeat (first | apply Kd.R_alloc | apply Kd.R_drewN | apply Kd.R_drew)); exact (Kd.R_mono (Kd.R_far (p := ⟨gb156, 6, none⟩) (Kd.R_far (p := ⟨gb156, 5, none⟩) (Kd.R_far (p := ⟨gb156, 4, none⟩) (Kd.R_far (p := ⟨gb156, 3, none⟩) (Kd.R_far (p := ⟨gb156, 2, none⟩) (Kd.R_far (p := ⟨gb156, 1, none⟩) (Kd.R_far (p := ⟨gb156, 0, none⟩) (Kd.R_types HO155.out BK156.out (by decide)) (fun _ hk => hk.2) (.int .u32 0)) (fun _ hk => hk.2) (.int .i64 30)) (fun _ hk => hk.2) (.slice Ao36 y153.length co36)) (fun _ hk => hk.2) (.int .i64 1)) (fun _ hk => hk.2) (.int .i64 1)) (fun _ hk => hk.2) (.int .i64 1)) (fun _ hk => hk.2) (.int .i64 1)) (fun _ h_ => h_.1))) hb); have n1_ := Aside0.mk (blk_below (g := gb156) (o := .cells #[.int .u32 0, .int .i64 30, .slice Ao36 y153.length co36, .int .i64 1, .int .i64 1, .int .i64 1, .int .i64 1] 36 (0, 0)) (by (with_reducible repeat (first | refine blk_drewN ?_ _ | refine blk_drew ?_ | refine blk_alloc ?_ _)); refine blk_put (cs := #[.int .u32 0, .int .i64 30, .slice Ao36 y153.length co36, .int .i64 1, .int .i64 1, .int .i64 1, .int .i64 0]) ?_ 6 _ rfl; (with_reducible repeat (first | refine blk_drewN ?_ _ | refine blk_drew ?_ | refine blk_alloc ?_ _)); refine blk_put (cs := #[.int .u32 0, .int .i64 30, .slice Ao36 y153.length co36, .int .i64 1, .int .i64 1, .int .i64 0, .int .i64 0]) ?_ 5 _ rfl; (with_reducible repeat (first | refine blk_drewN ?_ _ | refine blk_drew ?_ | refine blk_alloc ?_ _)); refine blk_put (cs := #[.int .u32 0, .int .i64 30, .slice Ao36 y153.length co36, .int .i64 1, .int .i64 0, .int .i64 0, .int .i64 0]) ?_ 4 _ rfl; (with_reducible repeat (first | refine blk_drewN ?_ _ | refine blk_drew ?_ | refine blk_alloc ?_ _)); refine blk_put (cs := #[.int .u32 0, .int .i64 30, .slice Ao36 y153.length co36, .int .i64 0, .int .i64 0, .int .i64 0, .int .i64 0]) ?_ 3 _ rfl; (with_reducible repeat (first | refine blk_drewN ?_ _ | refine blk_drew ?_ | refine blk_alloc ?_ _)); refine blk_put (cs := #[.int .u32 0, .int .i64 30, .slice none 0 0, .int .i64 0, .int .i64 0, .int .i64 0, .int .i64 0]) ?_ 2 _ rfl; (with_reducible repeat (first | refine blk_drewN ?_ _ | refine blk_drew ?_ | refine blk_alloc ?_ _)); refine blk_put (cs := #[.int .u32 0, .int .i64 0, .slice none 0 0, .int .i64 0, .int .i64 0, .int .i64 0, .int .i64 0]) ?_ 1 _ rfl; (with_reducible repeat (first | refine blk_drewN ?_ _ | refine blk_drew ?_ | refine blk_alloc ?_ _)); refine blk_put (cs := #[.int .u32 0, .int .i64 0, .slice none 0 0, .int .i64 0, .int .i64 0, .int .i64 0, .int .i64 0]) ?_ 0 _ rfl; (with_reducible repeat (first | refine blk_drewN ?_ _ | refine blk_drew ?_ | refine blk_alloc ?_ _)); exact BK156.out) hb); have n2_ := Aside0.mk (below_step (by repeat (first | (with_reducible first | exact HB.out | apply below_alloc | apply pw_below_drewN | apply below_drew1 | refine below_set ?_ GE156.out) | exact HB.out)) hb); clear HO155; clear BK156; clear HB; have HO155 := n0_; have BK156 := n1_; have HB := n2_; clear n0_ n1_ n2_; (try clear hb); (try clear hb2); (try clear hk); (try clear hi)) | ((with_reducible refine gate_callee (f := 9) rfl ?_); refine goesL_ (some 14) rfl rfl Try.func9 (by kernel_rfl) rfl #[.int .u64 t157] rfl (by (try simp only [List.map_toArray, List.map_cons, List.map_nil]); first | done | rfl | (simp only [List.length_drop, List.length_take]; rfl)) ?_; (with_reducible refine (word_First.calls k t157 t158 true _ A2.out).mono ?_); rintro e w' ⟨rfl, ⟨nd, rfl⟩⟩; refine ⟨_, rfl, ?_⟩) | ((with_reducible refine gate_callee (f := 14) rfl ?_); refine goesL_ (some 18) rfl rfl Try.func14 (by kernel_rfl) rfl #[.int .u64 t157, .int .i64 0] rfl (by (try simp only [List.map_toArray, List.map_cons, List.map_nil]); first | done | rfl | (simp only [List.length_drop, List.length_take]; rfl)) ?_; (with_reducible refine (word_Claim.calls t157 0 t160 _ A3.out).mono ?_); rintro e w' ⟨rfl, ⟨nd, rfl⟩⟩; refine ⟨_, rfl, ?_⟩) | ((with_reducible refine gate_callee (f := 16) rfl ?_); refine goesL_ (some 20) rfl rfl Try.func16 (by kernel_rfl) rfl #[.int .u64 t160, .int .i64 0] rfl (by (try simp only [List.map_toArray, List.map_cons, List.map_nil]); first | done | rfl | (simp only [List.length_drop, List.length_take]; rfl)) ?_; (with_reducible refine (word_Drop.calls t160 0 t161 _ A4.out).mono ?_); rintro e w' ⟨rfl, ⟨nd, rfl⟩⟩; refine ⟨_, rfl, ?_⟩) | (go_at_call 13; (with_reducible refine (word_Changes.calls t161 t162 _ A10.out).mono ?_); rintro e w' ⟨rfl, ⟨nd, rfl⟩⟩) | (go_at_call 11; (with_reducible refine (word_Used.calls t160 0 true _ A12.out).mono ?_); rintro e w' ⟨rfl, ⟨nd, rfl⟩⟩) | (go_at_call 11; (with_reducible refine (word_Used.calls t161 0 false _ A14.out).mono ?_); rintro e w' ⟨rfl, ⟨nd, rfl⟩⟩) | (go_at_call 18; (with_reducible refine (word_Full.calls k t160 false _ A22.out).mono ?_); rintro e w' ⟨rfl, ⟨nd, rfl⟩⟩) | (go_at_call 18; (with_reducible refine (word_Full.calls k 4294967295 true _ A30.out).mono ?_); rintro e w' ⟨rfl, ⟨nd, rfl⟩⟩; have hcz40_0 : w39.cell? ⟨gb156, 0, none⟩ = some (.int .u32 0) := (blk_cell BK156.out 0).trans rfl; have hcz40_1 : w39.cell? ⟨gb156, 1, none⟩ = some (.int .i64 30) := (blk_cell BK156.out 1).trans rfl; have hcz40_2 : w39.cell? ⟨gb156, 2, none⟩ = some (.slice Ao36 y153.length co36) := (blk_cell BK156.out 2).trans rfl; have hcz40_3 : w39.cell? ⟨gb156, 3, none⟩ = some (.int .i64 1) := (blk_cell BK156.out 3).trans rfl; have hcz40_4 : w39.cell? ⟨gb156, 4, none⟩ = some (.int .i64 1) := (blk_cell BK156.out 4).trans rfl; have hcz40_5 : w39.cell? ⟨gb156, 5, none⟩ = some (.int .i64 1) := (blk_cell BK156.out 5).trans rfl; have hcz40_6 : w39.cell? ⟨gb156, 6, none⟩ = some (.int .i64 1) := (blk_cell BK156.out 6).trans rfl; have hfz40_0 := blk_frozen BK156.out 0; have hfz40_1 := blk_frozen BK156.out 1; have hfz40_2 := blk_frozen BK156.out 2; have hfz40_3 := blk_frozen BK156.out 3; have hfz40_4 := blk_frozen BK156.out 4; have hfz40_5 := blk_frozen BK156.out 5; have hfz40_6 := blk_frozen BK156.out 6) | (go_at_call 26; (with_reducible refine (word_Cells.calls k 0 30 _ _ y153 1 1 1 1 t167 _ ?side1 ?side2 A32.out).mono ?_); (case side1 => repeat (first | exact (Kd.R_reads' HO155.out).2.2 | (with_reducible refine Kd.C_alloc ?_ _) | (with_reducible refine Kd.C_drewN ?_ _) | (with_reducible refine Kd.C_drew ?_))); (case side2 => exact (Kd.R_reads' HO155.out).2.1); rintro e w41 ⟨v168, rfl, ho0, hb⟩; have n0_ := Aside0.mk (Kd.R_below (by (with_reducible repeat (first | apply Kd.R_alloc | apply Kd.R_drewN | apply Kd.R_drew)); exact HO155.out) hb); have n1_ := Aside0.mk (Kd.R_lower ho0 (below_size (by repeat (first | (with_reducible first | exact HB.out | apply below_alloc | apply pw_below_drewN | apply below_drew1 | refine below_set ?_ GE156.out) | exact HB.out)))); have n2_ := Aside0.mk (blk_below (g := gb156) (o := .cells #[.int .u32 0, .int .i64 30, .slice Ao36 y153.length co36, .int .i64 1, .int .i64 1, .int .i64 1, .int .i64 1] 36 (0, 0)) (by (with_reducible repeat (first | refine blk_drewN ?_ _ | refine blk_drew ?_ | refine blk_alloc ?_ _)); exact BK156.out) hb); have n3_ := Aside0.mk (below_step (by repeat (first | (with_reducible first | exact HB.out | apply below_alloc | apply pw_below_drewN | apply below_drew1 | refine below_set ?_ GE156.out) | exact HB.out)) hb); clear HO155; clear BK156; clear HB; have HO155 := n0_; have HO169 := n1_; have BK156 := n2_; have HB := n3_; clear n0_ n1_ n2_ n3_; (try clear hb); (try clear hb2); (try clear hk); (try clear hi); (try clear ho0)) | ((with_reducible refine gate_dst (N := 63) rfl ?_); (try (refine gate_guard (by rfl) ?_; dsimp only)); refine Kd.R_lit (Kd.int .u64) _ 22 ?hg (N := 63) ?hd (xs := ([4294967282, 18446744073709551614, 18446744073709551614] : List Int)) (inner := [.int .u64 4294967282, .int .u64 18446744073709551614, .int .u64 18446744073709551614]) (ok := fun _ => True) (okp := fun _ => True) ?hr ?hp (fun _ hk => hk) trivial (Below.refl _ _) (Nat.le_refl _) (by simp) ?_; (case hd => rfl); (case hg => rfl); (case hr => first | (go_simp; done) | (go_simp; rfl)); (case hp => exact (Reps.one (show Kd.M (Kd.int .u64) _ _ _ 4294967282 [.int .u64 4294967282] from rfl) (Reps.one (show Kd.M (Kd.int .u64) _ _ _ 18446744073709551614 [.int .u64 18446744073709551614] from rfl) (Reps.one (show Kd.M (Kd.int .u64) _ _ _ 18446744073709551614 [.int .u64 18446744073709551614] from rfl) (Reps.none _ _))))); intro v171 w42 ho43 hb hg_ hnew_; clear hg_ hnew_; (first | rw [← Ny170.out] at ho43 | (simp only [Int.reduceToNat] at ho43; rw [← Ny170.out] at ho43)); have n0_ := Aside0.mk (Kd.R_below (by (with_reducible repeat (first | apply Kd.R_alloc | apply Kd.R_drewN | apply Kd.R_drew)); exact HO155.out) hb); have n1_ := Aside0.mk (Kd.R_elder' (by (with_reducible repeat (first | apply Kd.R_alloc | apply Kd.R_drewN | apply Kd.R_drew)); exact HO169.out) (Kd.R_base ho43) hb); have n2_ := Aside0.mk (Kd.R_lower (Kd.R_new' ho43 (Kd.R_lt (by (with_reducible repeat (first | apply Kd.R_alloc | apply Kd.R_drewN | apply Kd.R_drew)); exact HO169.out))) (below_size (by repeat (first | (with_reducible first | exact HB.out | apply below_alloc | apply pw_below_drewN | apply below_drew1 | refine below_set ?_ GE156.out) | exact HB.out)))); have n3_ := Aside0.mk (blk_below (g := gb156) (o := .cells #[.int .u32 0, .int .i64 30, .slice Ao36 y153.length co36, .int .i64 1, .int .i64 1, .int .i64 1, .int .i64 1] 36 (0, 0)) (by (with_reducible repeat (first | refine blk_drewN ?_ _ | refine blk_drew ?_ | refine blk_alloc ?_ _)); exact BK156.out) hb); have n4_ := Aside0.mk (below_step (by repeat (first | (with_reducible first | exact HB.out | apply below_alloc | apply pw_below_drewN | apply below_drew1 | refine below_set ?_ GE156.out) | exact HB.out)) hb); clear HO155; clear HO169; clear BK156; clear HB; have HO155 := n0_; have HO169 := n1_; have HO172 := n2_; have BK156 := n3_; have HB := n4_; clear n0_ n1_ n2_ n3_ n4_; clear hb ho43; obtain ⟨Ao44, co44, eo44⟩ := Kd.R_slice HO169.out; subst eo44; obtain ⟨Ao45, co45, eo45⟩ := Kd.R_slice HO172.out; subst eo45) | (go_at_call 25; (with_reducible refine (lodgerref02_Same.calls k _ _ t167 _ _ y170 t173 _ ?side1 ?side2 ?side3 ?side4 A33.out).mono ?_); (case side1 => repeat (first | exact (Kd.R_reads' HO169.out).2.2 | (with_reducible refine Kd.C_alloc ?_ _) | (with_reducible refine Kd.C_drewN ?_ _) | (with_reducible refine Kd.C_drew ?_))); (case side2 => exact (Kd.R_reads' HO169.out).2.1); (case side3 => repeat (first | exact (Kd.R_reads' HO172.out).2.2 | (with_reducible refine Kd.C_alloc ?_ _) | (with_reducible refine Kd.C_drewN ?_ _) | (with_reducible refine Kd.C_drew ?_))); (case side4 => exact (Kd.R_reads' HO172.out).2.1); rintro e w' ⟨rfl, ⟨nd, rfl⟩⟩) | (go_at_call 23; (with_reducible refine (word_First.calls k t157 t158 true _ A2.out).mono ?_); rintro e w' ⟨rfl, ⟨nd, rfl⟩⟩) | (go_at_call 14; (with_reducible refine (word_Claim.calls t157 0 t160 _ A3.out).mono ?_); rintro e w' ⟨rfl, ⟨nd, rfl⟩⟩) | (go_at_call 16; (with_reducible refine (word_Drop.calls t160 0 t161 _ A4.out).mono ?_); rintro e w' ⟨rfl, ⟨nd, rfl⟩⟩))
                        go_ret
                        exact ⟨by first | rfl | (simp [errW_none, errW_some] <;> rfl) | (simp [*, errW_none, errW_some] <;> rfl), by repeat (first | (with_reducible first | exact HB.out | apply below_alloc | apply pw_below_drewN | apply below_drew1 | refine below_set ?_ GE156.out) | exact HB.out)⟩
                    · replace c31 := Bool.eq_false_iff.mpr c31
                      subst c31
                      have H1 : (some false) = some r := by rw [if_neg (show ¬ (false = true) by decide)] at H; exact H
                      rw [hr_.out] at H1
                      exact absurd (Option.some.inj H1) (by decide)
              · replace c13 := Bool.eq_false_iff.mpr c13
                subst c13
                have H1 : (some false) = some r := by rw [if_neg (show ¬ (false = true) by decide)] at H; exact H
                rw [hr_.out] at H1
                exact absurd (Option.some.inj H1) (by decide)
            · rw [if_neg c11] at H
              rw [hr_.out] at H
              exact absurd (Option.some.inj H) (by decide)
          · rw [if_neg c9] at H
            rw [hr_.out] at H
            exact absurd (Option.some.inj H) (by decide)
        · rw [if_neg c8] at H
          rw [hr_.out] at H
          exact absurd (Option.some.inj H) (by decide)
      · replace c7 := Bool.eq_false_iff.mpr c7
        subst c7
        have H1 : (some false) = some r := by rw [if_neg (show ¬ (false = true) by decide)] at H; exact H
        rw [hr_.out] at H1
        exact absurd (Option.some.inj H1) (by decide)
    · rw [if_neg c6] at H
      rw [hr_.out] at H
      exact absurd (Option.some.inj H) (by decide)
  · rw [if_neg c5] at H
    rw [hr_.out] at H
    exact absurd (Option.some.inj H) (by decide)

/-! ### lodgerlaw07_WordTurns: function 7 -/
mutual
def lodgerlaw07_WordTurns.j0 : Nat → Int → List Int → Bool → Option (Bool)
  | 0, _, _, _ => none
  | k + 1, x0, x1, x17 => if x17 = true then ((lodgerlaw07_awake.f k).bind fun t175 => (some t175)) else (lodgerlaw07_WordTurns.l0 k x0 x1 x0 0)
def lodgerlaw07_WordTurns.l0 : Nat → Int → List Int → Int → Int → Option (Bool)
  | 0, _, _, _, _ => none
  | k + 1, x0, x1, x5, x6 => if x6 < (x1.length : Int) then (if 0 ≤ x6 then (if (((Int.tdiv (rd x1 x6) 32) % 256) % 2) = 0 then ((word_Claim.f x5 (wrap64 (Int.tmod (rd x1 x6) 32))).bind fun t178 => (lodgerlaw07_WordTurns.l0 k x0 x1 t178 (wrap64 (x6 + 1)))) else ((word_Drop.f x5 (wrap64 (Int.tmod (rd x1 x6) 32))).bind fun t179 => (lodgerlaw07_WordTurns.l0 k x0 x1 t179 (wrap64 (x6 + 1))))) else (none)) else ((word_Changes.f x5).bind fun t180 => ((word_Changes.f x0).bind fun t181 => (if t180 = ((t181 + ((x1.length : Int))) % 4294967296) then (lodgerlaw07_WordTurns.l1 k x0 x1 x5 0) else (some false))))
def lodgerlaw07_WordTurns.l1 : Nat → Int → List Int → Int → Int → Option (Bool)
  | 0, _, _, _, _ => none
  | k + 1, x0, x1, x5, x8 => if x8 < 32 then ((word_Used.f x0 x8).bind fun t182 => (lodgerlaw07_WordTurns.l2 k x0 x1 x5 x8 t182 0)) else (some true)
def lodgerlaw07_WordTurns.l2 : Nat → Int → List Int → Int → Int → Bool → Int → Option (Bool)
  | 0, _, _, _, _, _, _ => none
  | k + 1, x0, x1, x5, x8, x9, x10 => if x10 < (x1.length : Int) then (if 0 ≤ x10 then (if (wrap64 (Int.tmod (rd x1 x10) 32)) = x8 then (lodgerlaw07_WordTurns.l2 k x0 x1 x5 x8 ((((Int.tdiv (rd x1 x10) 32) % 256) % 2) == 0) (wrap64 (x10 + 1))) else (lodgerlaw07_WordTurns.l2 k x0 x1 x5 x8 x9 (wrap64 (x10 + 1)))) else (none)) else ((word_Used.f x5 x8).bind fun t185 => (if (t185 != x9) = true then (some false) else (lodgerlaw07_WordTurns.l1 k x0 x1 x5 (wrap64 (x8 + 1)))))
end
def lodgerlaw07_WordTurns.f (k : Nat) (a0 : Int) (l1 : List Int) : Option (Bool) := (lodgerlaw07_awake.f k).bind fun t174 => (if t174 = true then (lodgerlaw07_WordTurns.j0 k a0 l1 (decide ((l1.length : Int) > 100))) else (lodgerlaw07_WordTurns.j0 k a0 l1 true))
theorem lodgerlaw07_WordTurns.mono_l : ∀ k, (∀ y0 y1 y2, LeO (lodgerlaw07_WordTurns.j0 k y0 y1 y2) (lodgerlaw07_WordTurns.j0 (k + 1) y0 y1 y2)) ∧ (∀ y0 y1 y2 y3, LeO (lodgerlaw07_WordTurns.l0 k y0 y1 y2 y3) (lodgerlaw07_WordTurns.l0 (k + 1) y0 y1 y2 y3)) ∧ (∀ y0 y1 y2 y3, LeO (lodgerlaw07_WordTurns.l1 k y0 y1 y2 y3) (lodgerlaw07_WordTurns.l1 (k + 1) y0 y1 y2 y3)) ∧ (∀ y0 y1 y2 y3 y4 y5, LeO (lodgerlaw07_WordTurns.l2 k y0 y1 y2 y3 y4 y5) (lodgerlaw07_WordTurns.l2 (k + 1) y0 y1 y2 y3 y4 y5))
  | 0 => ⟨fun _ _ _ r h => by simp [lodgerlaw07_WordTurns.j0] at h, fun _ _ _ _ r h => by simp [lodgerlaw07_WordTurns.l0] at h, fun _ _ _ _ r h => by simp [lodgerlaw07_WordTurns.l1] at h, fun _ _ _ _ _ _ r h => by simp [lodgerlaw07_WordTurns.l2] at h⟩
  | k + 1 => by
    obtain ⟨ih0, ih1, ih2, ih3⟩ := lodgerlaw07_WordTurns.mono_l k
    refine ⟨?_, ?_, ?_, ?_⟩
    · intro y0 y1 y2
      unfold lodgerlaw07_WordTurns.j0
      repeat' first
      | (with_reducible exact ih0 _ _ _)
      | (with_reducible exact ih1 _ _ _ _)
      | (with_reducible exact ih2 _ _ _ _)
      | (with_reducible exact ih3 _ _ _ _ _ _)
      | (with_reducible exact lodgerlaw07_awake.mono _)
      | (with_reducible exact LeO.refl _)
      | (with_reducible exact LeO.none _)
      | (with_reducible refine LeO.ite ?_ ?_)
      | (with_reducible refine LeO.bind ?_ (fun _ => ?_))
      | exact ih0 _ _ _
      | exact ih1 _ _ _ _
      | exact ih2 _ _ _ _
      | exact ih3 _ _ _ _ _ _
      | exact lodgerlaw07_awake.mono _
      | exact LeO.none _
      | refine LeO.ite ?_ ?_
      | refine LeO.bind ?_ (fun _ => ?_)
    · intro y0 y1 y2 y3
      unfold lodgerlaw07_WordTurns.l0
      repeat' first
      | (with_reducible exact ih0 _ _ _)
      | (with_reducible exact ih1 _ _ _ _)
      | (with_reducible exact ih2 _ _ _ _)
      | (with_reducible exact ih3 _ _ _ _ _ _)
      | (with_reducible exact lodgerlaw07_awake.mono _)
      | (with_reducible exact LeO.refl _)
      | (with_reducible exact LeO.none _)
      | (with_reducible refine LeO.ite ?_ ?_)
      | (with_reducible refine LeO.bind ?_ (fun _ => ?_))
      | exact ih0 _ _ _
      | exact ih1 _ _ _ _
      | exact ih2 _ _ _ _
      | exact ih3 _ _ _ _ _ _
      | exact lodgerlaw07_awake.mono _
      | exact LeO.none _
      | refine LeO.ite ?_ ?_
      | refine LeO.bind ?_ (fun _ => ?_)
    · intro y0 y1 y2 y3
      unfold lodgerlaw07_WordTurns.l1
      repeat' first
      | (with_reducible exact ih0 _ _ _)
      | (with_reducible exact ih1 _ _ _ _)
      | (with_reducible exact ih2 _ _ _ _)
      | (with_reducible exact ih3 _ _ _ _ _ _)
      | (with_reducible exact lodgerlaw07_awake.mono _)
      | (with_reducible exact LeO.refl _)
      | (with_reducible exact LeO.none _)
      | (with_reducible refine LeO.ite ?_ ?_)
      | (with_reducible refine LeO.bind ?_ (fun _ => ?_))
      | exact ih0 _ _ _
      | exact ih1 _ _ _ _
      | exact ih2 _ _ _ _
      | exact ih3 _ _ _ _ _ _
      | exact lodgerlaw07_awake.mono _
      | exact LeO.none _
      | refine LeO.ite ?_ ?_
      | refine LeO.bind ?_ (fun _ => ?_)
    · intro y0 y1 y2 y3 y4 y5
      unfold lodgerlaw07_WordTurns.l2
      repeat' first
      | (with_reducible exact ih0 _ _ _)
      | (with_reducible exact ih1 _ _ _ _)
      | (with_reducible exact ih2 _ _ _ _)
      | (with_reducible exact ih3 _ _ _ _ _ _)
      | (with_reducible exact lodgerlaw07_awake.mono _)
      | (with_reducible exact LeO.refl _)
      | (with_reducible exact LeO.none _)
      | (with_reducible refine LeO.ite ?_ ?_)
      | (with_reducible refine LeO.bind ?_ (fun _ => ?_))
      | exact ih0 _ _ _
      | exact ih1 _ _ _ _
      | exact ih2 _ _ _ _
      | exact ih3 _ _ _ _ _ _
      | exact lodgerlaw07_awake.mono _
      | exact LeO.none _
      | refine LeO.ite ?_ ?_
      | refine LeO.bind ?_ (fun _ => ?_)
theorem lodgerlaw07_WordTurns.mono : ∀ a0 a1 k, LeO (lodgerlaw07_WordTurns.f k a0 a1) (lodgerlaw07_WordTurns.f (k + 1) a0 a1) := by
  intro a0 a1 k
  obtain ⟨ih0, ih1, ih2, ih3⟩ := lodgerlaw07_WordTurns.mono_l k
  unfold lodgerlaw07_WordTurns.f
  repeat' first
      | (with_reducible exact ih0 _ _ _)
      | (with_reducible exact ih1 _ _ _ _)
      | (with_reducible exact ih2 _ _ _ _)
      | (with_reducible exact ih3 _ _ _ _ _ _)
      | (with_reducible exact lodgerlaw07_awake.mono _)
      | (with_reducible exact LeO.refl _)
      | (with_reducible exact LeO.none _)
      | (with_reducible refine LeO.ite ?_ ?_)
      | (with_reducible refine LeO.bind ?_ (fun _ => ?_))
      | exact ih0 _ _ _
      | exact ih1 _ _ _ _
      | exact ih2 _ _ _ _
      | exact ih3 _ _ _ _ _ _
      | exact lodgerlaw07_awake.mono _
      | exact LeO.none _
      | refine LeO.ite ?_ ?_
      | refine LeO.bind ?_ (fun _ => ?_)
set_option maxHeartbeats 8000000 in
set_option maxRecDepth 100000 in
theorem lodgerlaw07_WordTurns.calls (k : Nat) (a0 : Int) (A1 : Option Addr) (c1 : Nat) (l1 : List Int) (r : Bool) (w : World) (hr1 : Kd.C (Kd.int .u8) w A1 l1.length l1) (hc1 : l1.length ≤ c1) (hr_ : r = true) (h : lodgerlaw07_WordTurns.f k a0 l1 = some r) :
    Calls Try.prog 7 #[.int .u64 a0, .slice A1 l1.length c1] w fun e w' => e = .returned (.bool r) ∧ Below w.heap.size w w' := by
  have HR1 := Aside0.mk hr1
  have HC1 := Aside0.mk hc1
  clear hr1 hc1
  have HB := Aside0.mk (Below.refl w.heap.size w)
  replace hr_ := Aside0.mk hr_
  have H : ((lodgerlaw07_awake.f k).bind fun t174 => (if t174 = true then (lodgerlaw07_WordTurns.j0 k a0 l1 (decide ((l1.length : Int) > 100))) else (lodgerlaw07_WordTurns.j0 k a0 l1 true))) = some r := h
  clear h
  have HC3 := Aside0.mk H
  clear H
  go_enter Try.func7, Try.ntmps7
  go_upto_region 1 with (fail)
  go_cut [17] (fun v17 wc => ∃ (kq : Nat) (x17_2 : Bool), v17 = .bool x17_2 ∧ Aside0 (lodgerlaw07_WordTurns.j0 kq a0 l1 x17_2 = some r) ∧ Aside0 (kq ≤ k) ∧ Aside0 (Below w.heap.size w wc))
  case first =>
    have H := HC3.out
    clear HC3
    replace H := Option.bind_eq_some_iff.mp H
    obtain ⟨t174, A40, H⟩ := H
    replace H : (if t174 = true then (lodgerlaw07_WordTurns.j0 k a0 l1 (decide ((l1.length : Int) > 100))) else (lodgerlaw07_WordTurns.j0 k a0 l1 true)) = some r := H
    have A4 := Aside0.mk A40
    clear A40
    by_cases c5 : t174 = true
    · subst c5
      have H1 : (lodgerlaw07_WordTurns.j0 k a0 l1 (decide ((l1.length : Int) > 100))) = some r := by rw [if_pos rfl] at H; exact H
      clear H
      have H := H1
      clear H1
      have H' := Aside0.mk H
      clear H
      go_wp2_with (first | ((with_reducible refine gate_callee (f := 8) rfl ?_); refine goesL_ (some 11) rfl rfl Try.func8 (by kernel_rfl) rfl #[] rfl (by (try simp only [List.map_toArray, List.map_cons, List.map_nil]); first | done | rfl | (simp only [List.length_drop, List.length_take]; rfl)) ?_; (with_reducible refine (lodgerlaw07_awake.calls k  true _ A4.out).mono ?_); rintro e w6 ⟨rfl, hb⟩; refine ⟨_, rfl, ?_⟩; have n0_ := Aside0.mk (below_step (by repeat (first | (with_reducible first | exact HB.out | apply below_alloc | apply pw_below_drewN | apply below_drew1) | exact HB.out)) hb); clear HB; have HB := n0_; clear n0_; (try clear hb); (try clear hb2); (try clear hk); (try clear hi)))
      go_meet
      case rel => exact ⟨_, (decide ((l1.length : Int) > 100)), (by first | rfl | (simp; done) | (simp [*]; done)), H', ⟨by first | omega | exact Nat.le_refl _⟩, ⟨by repeat (first | (with_reducible first | exact HB.out | apply below_alloc | apply pw_below_drewN | apply below_drew1) | exact HB.out)⟩⟩
    · replace c5 := Bool.eq_false_iff.mpr c5
      subst c5
      have H1 : (lodgerlaw07_WordTurns.j0 k a0 l1 true) = some r := by rw [if_neg (show ¬ (false = true) by decide)] at H; exact H
      clear H
      have H := H1
      clear H1
      have H' := Aside0.mk H
      clear H
      go_wp2_with (first | ((with_reducible refine gate_callee (f := 8) rfl ?_); refine goesL_ (some 11) rfl rfl Try.func8 (by kernel_rfl) rfl #[] rfl (by (try simp only [List.map_toArray, List.map_cons, List.map_nil]); first | done | rfl | (simp only [List.length_drop, List.length_take]; rfl)) ?_; (with_reducible refine (lodgerlaw07_awake.calls k  false _ A4.out).mono ?_); rintro e w7 ⟨rfl, hb⟩; refine ⟨_, rfl, ?_⟩; have n0_ := Aside0.mk (below_step (by repeat (first | (with_reducible first | exact HB.out | apply below_alloc | apply pw_below_drewN | apply below_drew1) | exact HB.out)) hb); clear HB; have HB := n0_; clear n0_; (try clear hb); (try clear hb2); (try clear hk); (try clear hi)))
      go_meet
      case rel => exact ⟨_, (true), (by first | rfl | (simp; done) | (simp [*]; done)), H', ⟨by first | omega | exact Nat.le_refl _⟩, ⟨by repeat (first | (with_reducible first | exact HB.out | apply below_alloc | apply pw_below_drewN | apply below_drew1) | exact HB.out)⟩⟩
  case rest =>
    clear HC3
    try clear c1
    try clear p2
    try clear c5
    try clear c7
    obtain ⟨kq, x17_2, rfl, HA, HJ2, HB⟩ := hcut
    cases kq with
    | zero => exact absurd HA.out (by simp [lodgerlaw07_WordTurns.j0])
    | succ kj2 =>
      have H := HA.out
      clear HA
      simp only [lodgerlaw07_WordTurns.j0] at H
      by_cases c8 : x17_2 = true
      · subst c8
        have H1 : ((lodgerlaw07_awake.f kj2).bind fun t175 => (some t175)) = some r := by rw [if_pos rfl] at H; exact H
        clear H
        have H := H1
        clear H1
        replace H := Option.bind_eq_some_iff.mp H
        obtain ⟨t175, A90, H⟩ := H
        replace H : (some t175) = some r := H
        have A9 := Aside0.mk A90
        clear A90
        first | (exfalso; rw [hr_.out] at H; exact absurd (Option.some.inj H) (by decide)) | (try clear hr_)
        all_goals
          obtain rfl := Option.some.inj H
          go_wp2_with (first | ((with_reducible refine gate_callee (f := 8) rfl ?_); refine goesL_ (some 18) rfl rfl Try.func8 (by kernel_rfl) rfl #[] rfl (by (try simp only [List.map_toArray, List.map_cons, List.map_nil]); first | done | rfl | (simp only [List.length_drop, List.length_take]; rfl)) ?_; (with_reducible refine (lodgerlaw07_awake.calls kj2  t175 _ A9.out).mono ?_); rintro e w10 ⟨rfl, hb⟩; refine ⟨_, rfl, ?_⟩; have n0_ := Aside0.mk (below_step (by repeat (first | (with_reducible first | exact HB.out | apply below_alloc | apply pw_below_drewN | apply below_drew1) | exact HB.out)) hb); clear HB; have HB := n0_; clear n0_; (try clear hb); (try clear hb2); (try clear hk); (try clear hi)))
          go_ret
          exact ⟨by first | rfl | (simp [errW_none, errW_some] <;> rfl) | (simp [*, errW_none, errW_some] <;> rfl), by repeat (first | (with_reducible first | exact HB.out | apply below_alloc | apply pw_below_drewN | apply below_drew1) | exact HB.out)⟩
      · replace c8 := Bool.eq_false_iff.mpr c8
        subst c8
        have H1 : (lodgerlaw07_WordTurns.l0 kj2 a0 l1 a0 0) = some r := by rw [if_neg (show ¬ (false = true) by decide)] at H; exact H
        clear H
        have H := H1
        clear H1
        have H' := Aside0.mk H
        clear H
        go_wp2
        go_loopg [5, 6] kj2 (fun kq v5 v6 w' => ∃ (x5_2 : Int) (x6_2 : Int), v5 = .int .u64 x5_2 ∧ v6 = .int .i64 x6_2 ∧ Aside0 (lodgerlaw07_WordTurns.l0 kq a0 l1 x5_2 x6_2 = some r) ∧ Aside0 (kq ≤ kj2) ∧ Aside0 (Below w.heap.size w w'))
        case atStart => exact ⟨(a0), (0), (by first | rfl | (simp; done) | (simp [*]; done)), (by first | rfl | (simp; done) | (simp [*]; done)), H', ⟨Nat.le_refl _⟩, ⟨by repeat (first | (with_reducible first | exact HB.out | apply below_alloc | apply pw_below_drewN | apply below_drew1) | exact HB.out)⟩⟩
        case round =>
          clear H'
          try clear c1
          try clear p2
          try clear c5
          try clear c7
          try clear c8
          try clear p2
          obtain ⟨x5_2, x6_2, rfl, rfl, HA, HK2, HB⟩ := hrel
          cases gk with
          | zero => exact absurd HA.out (by simp [lodgerlaw07_WordTurns.l0])
          | succ k2 =>
            have H := HA.out
            clear HA
            simp only [lodgerlaw07_WordTurns.l0] at H
            by_cases c11 : x6_2 < (l1.length : Int)
            · rw [if_pos c11] at H
              have c11b0 : decide (x6_2 < (l1.length : Int)) = true := decide_eq_true c11
              clear c11
              by_cases c12 : 0 ≤ x6_2
              · rw [if_pos c12] at H
                have c12b0 : decide (0 ≤ x6_2) = true := decide_eq_true c12
                clear c12
                by_cases c13 : (((Int.tdiv (rd l1 x6_2) 32) % 256) % 2) = 0
                · rw [if_pos c13] at H
                  have c13b0 : ((((Int.tdiv (rd l1 x6_2) 32) % 256) % 2) == 0) = true := beq_iff_eq.mpr c13
                  have c13b1 : ((((Int.tdiv (rd l1 x6_2) 32) % 256) % 2) != 0) = false := bne_eq_false_iff_eq.mpr c13
                  clear c13
                  replace H := Option.bind_eq_some_iff.mp H
                  obtain ⟨t178, A140, H⟩ := H
                  replace H : (lodgerlaw07_WordTurns.l0 k2 a0 l1 t178 (wrap64 (x6_2 + 1))) = some r := H
                  have A14 := Aside0.mk A140
                  clear A140
                  have H' := Aside0.mk H
                  clear H
                  have p176 : 0 ≤ (x6_2 : Int) := of_decide_eq_true (by first | (with_reducible assumption) | assumption)
                  have q176 : x6_2 < (l1.length : Int) := of_decide_eq_true (by first | (with_reducible assumption) | assumption)
                  obtain ⟨ad176, e176, hx176_0⟩ := Kd.at_int HR1.out x6_2 p176 q176
                  cases e176
                  replace hx176_0 := (HB.out.cell (World.block_lt_of_cell? w _ hx176_0)).trans hx176_0
                  replace p176 := eq_true p176
                  replace q176 := eq_true q176
                  have p177 : 0 ≤ (x6_2 : Int) := of_decide_eq_true (by first | (with_reducible assumption) | assumption)
                  have q177 : x6_2 < (l1.length : Int) := of_decide_eq_true (by first | (with_reducible assumption) | assumption)
                  obtain ⟨ad177, e177, hx177_0⟩ := Kd.at_int HR1.out x6_2 p177 q177
                  obtain rfl : ad176 = ad177 := (by injection e177)
                  replace hx177_0 := (HB.out.cell (World.block_lt_of_cell? w _ hx177_0)).trans hx177_0
                  replace p177 := eq_true p177
                  replace q177 := eq_true q177
                  go_wp2_with (first | ((with_reducible refine gate_callee (f := 14) rfl ?_); refine goesL_ (some 41) rfl rfl Try.func14 (by kernel_rfl) rfl #[.int .u64 x5_2, .int .i64 (wrap64 (Int.tmod (rd l1 x6_2) 32))] rfl (by (try simp only [List.map_toArray, List.map_cons, List.map_nil]); first | done | rfl | (simp only [List.length_drop, List.length_take]; rfl)) ?_; (with_reducible refine (word_Claim.calls x5_2 (wrap64 (Int.tmod (rd l1 x6_2) 32)) t178 _ A14.out).mono ?_); rintro e w' ⟨rfl, ⟨nd, rfl⟩⟩; refine ⟨_, rfl, ?_⟩) | (go_at_call 14; (with_reducible refine (word_Claim.calls x5_2 (wrap64 (Int.tmod (rd l1 x6_2) 32)) t178 _ A14.out).mono ?_); rintro e w' ⟨rfl, ⟨nd, rfl⟩⟩))
                  go_roundg k2
                  case measure => have := HJ2.out; have := HK2.out; omega
                  case rel => exact ⟨(t178), (wrap64 (x6_2 + 1)), (by first | rfl | (simp; done) | (simp [*]; done)), (by first | rfl | (simp; done) | (simp [*]; done)), H', ⟨by have := HJ2.out; have := HK2.out; omega⟩, ⟨by repeat (first | (with_reducible first | exact HB.out | apply below_alloc | apply pw_below_drewN | apply below_drew1) | exact HB.out)⟩⟩
                · rw [if_neg c13] at H
                  have c13b0 : ((((Int.tdiv (rd l1 x6_2) 32) % 256) % 2) == 0) = false := beq_eq_false_iff_ne.mpr c13
                  have c13b1 : ((((Int.tdiv (rd l1 x6_2) 32) % 256) % 2) != 0) = true := bne_iff_ne.mpr c13
                  replace H := Option.bind_eq_some_iff.mp H
                  obtain ⟨t179, A150, H⟩ := H
                  replace H : (lodgerlaw07_WordTurns.l0 k2 a0 l1 t179 (wrap64 (x6_2 + 1))) = some r := H
                  have A15 := Aside0.mk A150
                  clear A150
                  have H' := Aside0.mk H
                  clear H
                  have p176 : 0 ≤ (x6_2 : Int) := of_decide_eq_true (by first | (with_reducible assumption) | assumption)
                  have q176 : x6_2 < (l1.length : Int) := of_decide_eq_true (by first | (with_reducible assumption) | assumption)
                  obtain ⟨ad176, e176, hx176_0⟩ := Kd.at_int HR1.out x6_2 p176 q176
                  cases e176
                  replace hx176_0 := (HB.out.cell (World.block_lt_of_cell? w _ hx176_0)).trans hx176_0
                  replace p176 := eq_true p176
                  replace q176 := eq_true q176
                  have p177 : 0 ≤ (x6_2 : Int) := of_decide_eq_true (by first | (with_reducible assumption) | assumption)
                  have q177 : x6_2 < (l1.length : Int) := of_decide_eq_true (by first | (with_reducible assumption) | assumption)
                  obtain ⟨ad177, e177, hx177_0⟩ := Kd.at_int HR1.out x6_2 p177 q177
                  obtain rfl : ad176 = ad177 := (by injection e177)
                  replace hx177_0 := (HB.out.cell (World.block_lt_of_cell? w _ hx177_0)).trans hx177_0
                  replace p177 := eq_true p177
                  replace q177 := eq_true q177
                  go_wp2_with (first | ((with_reducible refine gate_callee (f := 16) rfl ?_); refine goesL_ (some 44) rfl rfl Try.func16 (by kernel_rfl) rfl #[.int .u64 x5_2, .int .i64 (wrap64 (Int.tmod (rd l1 x6_2) 32))] rfl (by (try simp only [List.map_toArray, List.map_cons, List.map_nil]); first | done | rfl | (simp only [List.length_drop, List.length_take]; rfl)) ?_; (with_reducible refine (word_Drop.calls x5_2 (wrap64 (Int.tmod (rd l1 x6_2) 32)) t179 _ A15.out).mono ?_); rintro e w' ⟨rfl, ⟨nd, rfl⟩⟩; refine ⟨_, rfl, ?_⟩) | (go_at_call 16; (with_reducible refine (word_Drop.calls x5_2 (wrap64 (Int.tmod (rd l1 x6_2) 32)) t179 _ A15.out).mono ?_); rintro e w' ⟨rfl, ⟨nd, rfl⟩⟩))
                  go_roundg k2
                  case measure => have := HJ2.out; have := HK2.out; omega
                  case rel => exact ⟨(t179), (wrap64 (x6_2 + 1)), (by first | rfl | (simp; done) | (simp [*]; done)), (by first | rfl | (simp; done) | (simp [*]; done)), H', ⟨by have := HJ2.out; have := HK2.out; omega⟩, ⟨by repeat (first | (with_reducible first | exact HB.out | apply below_alloc | apply pw_below_drewN | apply below_drew1) | exact HB.out)⟩⟩
              · rw [if_neg c12] at H
                exact absurd H (by simp)
            · rw [if_neg c11] at H
              have c11b0 : decide (x6_2 < (l1.length : Int)) = false := decide_eq_false c11
              clear c11
              replace H := Option.bind_eq_some_iff.mp H
              obtain ⟨t180, A160, H⟩ := H
              replace H : ((word_Changes.f a0).bind fun t181 => (if t180 = ((t181 + ((l1.length : Int))) % 4294967296) then (lodgerlaw07_WordTurns.l1 k2 a0 l1 x5_2 0) else (some false))) = some r := H
              have A16 := Aside0.mk A160
              clear A160
              replace H := Option.bind_eq_some_iff.mp H
              obtain ⟨t181, A170, H⟩ := H
              replace H : (if t180 = ((t181 + ((l1.length : Int))) % 4294967296) then (lodgerlaw07_WordTurns.l1 k2 a0 l1 x5_2 0) else (some false)) = some r := H
              have A17 := Aside0.mk A170
              clear A170
              by_cases c18 : t180 = ((t181 + ((l1.length : Int))) % 4294967296)
              · rw [if_pos c18] at H
                have c18b0 : (t180 == ((t181 + ((l1.length : Int))) % 4294967296)) = true := beq_iff_eq.mpr c18
                have c18b1 : (t180 != ((t181 + ((l1.length : Int))) % 4294967296)) = false := bne_eq_false_iff_eq.mpr c18
                clear c18
                have H' := Aside0.mk H
                clear H
                go_wp2_with (first | ((with_reducible refine gate_callee (f := 13) rfl ?_); refine goesL_ (some 46) rfl rfl Try.func13 (by kernel_rfl) rfl #[.int .u64 x5_2] rfl (by (try simp only [List.map_toArray, List.map_cons, List.map_nil]); first | done | rfl | (simp only [List.length_drop, List.length_take]; rfl)) ?_; (with_reducible refine (word_Changes.calls x5_2 t180 _ A16.out).mono ?_); rintro e w' ⟨rfl, ⟨nd, rfl⟩⟩; refine ⟨_, rfl, ?_⟩) | ((with_reducible refine gate_callee (f := 13) rfl ?_); refine goesL_ (some 48) rfl rfl Try.func13 (by kernel_rfl) rfl #[.int .u64 a0] rfl (by (try simp only [List.map_toArray, List.map_cons, List.map_nil]); first | done | rfl | (simp only [List.length_drop, List.length_take]; rfl)) ?_; (with_reducible refine (word_Changes.calls a0 t181 _ A17.out).mono ?_); rintro e w' ⟨rfl, ⟨nd, rfl⟩⟩; refine ⟨_, rfl, ?_⟩) | (go_at_call 13; (with_reducible refine (word_Changes.calls x5_2 t180 _ A16.out).mono ?_); rintro e w' ⟨rfl, ⟨nd, rfl⟩⟩) | (go_at_call 13; (with_reducible refine (word_Changes.calls a0 t181 _ A17.out).mono ?_); rintro e w' ⟨rfl, ⟨nd, rfl⟩⟩))
                (try simp only [Int.add_emod_emod, Int.emod_add_emod])
                go_loopg [8] k2 (fun kq v8 w' => ∃ (x8_3 : Int), v8 = .int .i64 x8_3 ∧ Aside0 (lodgerlaw07_WordTurns.l1 kq a0 l1 x5_2 x8_3 = some r) ∧ Aside0 (kq ≤ k2) ∧ Aside0 (Below w.heap.size w w'))
                case atStart => exact ⟨(0), (by first | rfl | (simp; done) | (simp [*]; done)), H', ⟨Nat.le_refl _⟩, ⟨by repeat (first | (with_reducible first | exact HB.out | apply below_alloc | apply pw_below_drewN | apply below_drew1) | exact HB.out)⟩⟩
                case round =>
                  clear H'
                  try clear c1
                  try clear p1
                  try clear q1
                  try clear hx1
                  try clear p2
                  try clear c5
                  try clear p6
                  try clear c7
                  try clear c8
                  try clear c11
                  try clear c11b0
                  try clear c12
                  try clear c12b0
                  try clear c13
                  try clear c13b0
                  try clear c13b1
                  try clear c14
                  try clear c16
                  try clear p17
                  try clear q17
                  try clear hx17
                  try clear c18
                  try clear c18b0
                  try clear c18b1
                  try clear hx176_0
                  try clear hx177_0
                  try clear p176
                  try clear p177
                  try clear p2
                  try clear q176
                  try clear q177
                  obtain ⟨x8_3, rfl, HA, HK3, HB⟩ := hrel
                  cases gk with
                  | zero => exact absurd HA.out (by simp [lodgerlaw07_WordTurns.l1])
                  | succ k3 =>
                    have H := HA.out
                    clear HA
                    simp only [lodgerlaw07_WordTurns.l1] at H
                    by_cases c19 : x8_3 < 32
                    · rw [if_pos c19] at H
                      have c19b0 : decide (x8_3 < 32) = true := decide_eq_true c19
                      clear c19
                      replace H := Option.bind_eq_some_iff.mp H
                      obtain ⟨t182, A200, H⟩ := H
                      replace H : (lodgerlaw07_WordTurns.l2 k3 a0 l1 x5_2 x8_3 t182 0) = some r := H
                      have A20 := Aside0.mk A200
                      clear A200
                      have H' := Aside0.mk H
                      clear H
                      go_wp2_with (first | ((with_reducible refine gate_callee (f := 11) rfl ?_); refine goesL_ (some 60) rfl rfl Try.func11 (by kernel_rfl) rfl #[.int .u64 a0, .int .i64 x8_3] rfl (by (try simp only [List.map_toArray, List.map_cons, List.map_nil]); first | done | rfl | (simp only [List.length_drop, List.length_take]; rfl)) ?_; (with_reducible refine (word_Used.calls a0 x8_3 t182 _ A20.out).mono ?_); rintro e w' ⟨rfl, ⟨nd, rfl⟩⟩; refine ⟨_, rfl, ?_⟩) | (go_at_call 11; (with_reducible refine (word_Used.calls a0 x8_3 t182 _ A20.out).mono ?_); rintro e w' ⟨rfl, ⟨nd, rfl⟩⟩))
                      go_loopg [9, 10] k3 (fun kq v9 v10 w' => ∃ (x9_4 : Bool) (x10_4 : Int), v9 = .bool x9_4 ∧ v10 = .int .i64 x10_4 ∧ Aside0 (lodgerlaw07_WordTurns.l2 kq a0 l1 x5_2 x8_3 x9_4 x10_4 = some r) ∧ Aside0 (kq ≤ k3) ∧ Aside0 (Below w.heap.size w w'))
                      case atStart => exact ⟨(t182), (0), (by first | rfl | (simp; done) | (simp [*]; done)), (by first | rfl | (simp; done) | (simp [*]; done)), H', ⟨Nat.le_refl _⟩, ⟨by repeat (first | (with_reducible first | exact HB.out | apply below_alloc | apply pw_below_drewN | apply below_drew1) | exact HB.out)⟩⟩
                      case round =>
                        clear H'
                        try clear c1
                        try clear p1
                        try clear q1
                        try clear hx1
                        try clear p2
                        try clear c5
                        try clear p6
                        try clear c7
                        try clear c8
                        try clear c11
                        try clear c11b0
                        try clear c12
                        try clear c12b0
                        try clear c13
                        try clear c13b0
                        try clear c13b1
                        try clear c14
                        try clear c16
                        try clear p17
                        try clear q17
                        try clear hx17
                        try clear c18
                        try clear c18b0
                        try clear c18b1
                        try clear c19
                        try clear c19b0
                        try clear hx176_0
                        try clear hx177_0
                        try clear p1
                        try clear p17
                        try clear p176
                        try clear p177
                        try clear p2
                        try clear p6
                        try clear q1
                        try clear q17
                        try clear q176
                        try clear q177
                        obtain ⟨x9_4, x10_4, rfl, rfl, HA, HK4, HB⟩ := hrel
                        cases gk with
                        | zero => exact absurd HA.out (by simp [lodgerlaw07_WordTurns.l2])
                        | succ k4 =>
                          have H := HA.out
                          clear HA
                          simp only [lodgerlaw07_WordTurns.l2] at H
                          by_cases c21 : x10_4 < (l1.length : Int)
                          · rw [if_pos c21] at H
                            have c21b0 : decide (x10_4 < (l1.length : Int)) = true := decide_eq_true c21
                            clear c21
                            by_cases c22 : 0 ≤ x10_4
                            · rw [if_pos c22] at H
                              have c22b0 : decide (0 ≤ x10_4) = true := decide_eq_true c22
                              clear c22
                              by_cases c23 : (wrap64 (Int.tmod (rd l1 x10_4) 32)) = x8_3
                              · rw [if_pos c23] at H
                                have c23b0 : ((wrap64 (Int.tmod (rd l1 x10_4) 32)) == x8_3) = true := beq_iff_eq.mpr c23
                                have c23b1 : ((wrap64 (Int.tmod (rd l1 x10_4) 32)) != x8_3) = false := bne_eq_false_iff_eq.mpr c23
                                clear c23
                                have H' := Aside0.mk H
                                clear H
                                have p183 : 0 ≤ (x10_4 : Int) := of_decide_eq_true (by first | (with_reducible assumption) | assumption)
                                have q183 : x10_4 < (l1.length : Int) := of_decide_eq_true (by first | (with_reducible assumption) | assumption)
                                obtain ⟨ad183, e183, hx183_0⟩ := Kd.at_int HR1.out x10_4 p183 q183
                                cases e183
                                replace hx183_0 := (HB.out.cell (World.block_lt_of_cell? w _ hx183_0)).trans hx183_0
                                replace p183 := eq_true p183
                                replace q183 := eq_true q183
                                have p184 : 0 ≤ (x10_4 : Int) := of_decide_eq_true (by first | (with_reducible assumption) | assumption)
                                have q184 : x10_4 < (l1.length : Int) := of_decide_eq_true (by first | (with_reducible assumption) | assumption)
                                obtain ⟨ad184, e184, hx184_0⟩ := Kd.at_int HR1.out x10_4 p184 q184
                                obtain rfl : ad183 = ad184 := (by injection e184)
                                replace hx184_0 := (HB.out.cell (World.block_lt_of_cell? w _ hx184_0)).trans hx184_0
                                replace p184 := eq_true p184
                                replace q184 := eq_true q184
                                go_wp2
                                go_roundg k4
                                case measure => have := HJ2.out; have := HK2.out; have := HK3.out; have := HK4.out; omega
                                case rel => exact ⟨(((((Int.tdiv (rd l1 x10_4) 32) % 256) % 2) == 0)), (wrap64 (x10_4 + 1)), (by first | rfl | (simp; done) | (simp [*]; done)), (by first | rfl | (simp; done) | (simp [*]; done)), H', ⟨by have := HJ2.out; have := HK2.out; have := HK3.out; have := HK4.out; omega⟩, ⟨by repeat (first | (with_reducible first | exact HB.out | apply below_alloc | apply pw_below_drewN | apply below_drew1) | exact HB.out)⟩⟩
                              · rw [if_neg c23] at H
                                have c23b0 : ((wrap64 (Int.tmod (rd l1 x10_4) 32)) == x8_3) = false := beq_eq_false_iff_ne.mpr c23
                                have c23b1 : ((wrap64 (Int.tmod (rd l1 x10_4) 32)) != x8_3) = true := bne_iff_ne.mpr c23
                                have H' := Aside0.mk H
                                clear H
                                have p183 : 0 ≤ (x10_4 : Int) := of_decide_eq_true (by first | (with_reducible assumption) | assumption)
                                have q183 : x10_4 < (l1.length : Int) := of_decide_eq_true (by first | (with_reducible assumption) | assumption)
                                obtain ⟨ad183, e183, hx183_0⟩ := Kd.at_int HR1.out x10_4 p183 q183
                                cases e183
                                replace hx183_0 := (HB.out.cell (World.block_lt_of_cell? w _ hx183_0)).trans hx183_0
                                replace p183 := eq_true p183
                                replace q183 := eq_true q183
                                go_wp2
                                go_roundg k4
                                case measure => have := HJ2.out; have := HK2.out; have := HK3.out; have := HK4.out; omega
                                case rel => exact ⟨(x9_4), (wrap64 (x10_4 + 1)), (by first | rfl | (simp; done) | (simp [*]; done)), (by first | rfl | (simp; done) | (simp [*]; done)), H', ⟨by have := HJ2.out; have := HK2.out; have := HK3.out; have := HK4.out; omega⟩, ⟨by repeat (first | (with_reducible first | exact HB.out | apply below_alloc | apply pw_below_drewN | apply below_drew1) | exact HB.out)⟩⟩
                            · rw [if_neg c22] at H
                              exact absurd H (by simp)
                          · rw [if_neg c21] at H
                            have c21b0 : decide (x10_4 < (l1.length : Int)) = false := decide_eq_false c21
                            clear c21
                            replace H := Option.bind_eq_some_iff.mp H
                            obtain ⟨t185, A240, H⟩ := H
                            replace H : (if (t185 != x9_4) = true then (some false) else (lodgerlaw07_WordTurns.l1 k4 a0 l1 x5_2 (wrap64 (x8_3 + 1)))) = some r := H
                            have A24 := Aside0.mk A240
                            clear A240
                            by_cases c25 : (t185 != x9_4) = true
                            · rw [if_pos c25] at H
                              rw [hr_.out] at H
                              exact absurd (Option.some.inj H) (by decide)
                            · rw [if_neg c25] at H
                              have c25b0 : (t185 != x9_4) = false := by simpa using c25
                              (try (have c25b1 : decide (t185 = x9_4) = true := by simpa using c25))
                              (try (have c25b2 : (t185 == x9_4) = true := by simpa using c25))
                              clear c25
                              have H' := Aside0.mk H
                              clear H
                              go_wp2_with (first | ((with_reducible refine gate_callee (f := 11) rfl ?_); refine goesL_ (some 84) rfl rfl Try.func11 (by kernel_rfl) rfl #[.int .u64 x5_2, .int .i64 x8_3] rfl (by (try simp only [List.map_toArray, List.map_cons, List.map_nil]); first | done | rfl | (simp only [List.length_drop, List.length_take]; rfl)) ?_; (with_reducible refine (word_Used.calls x5_2 x8_3 t185 _ A24.out).mono ?_); rintro e w' ⟨rfl, ⟨nd, rfl⟩⟩; refine ⟨_, rfl, ?_⟩) | (go_at_call 11; (with_reducible refine (word_Used.calls x5_2 x8_3 t185 _ A24.out).mono ?_); rintro e w' ⟨rfl, ⟨nd, rfl⟩⟩))
                              go_roundg k4
                              case measure => have := HJ2.out; have := HK2.out; have := HK3.out; have := HK4.out; omega
                              case rel => exact ⟨(wrap64 (x8_3 + 1)), (by first | rfl | (simp; done) | (simp [*]; done)), H', ⟨by have := HJ2.out; have := HK2.out; have := HK3.out; have := HK4.out; omega⟩, ⟨by repeat (first | (with_reducible first | exact HB.out | apply below_alloc | apply pw_below_drewN | apply below_drew1) | exact HB.out)⟩⟩
                    · rw [if_neg c19] at H
                      have c19b0 : decide (x8_3 < 32) = false := decide_eq_false c19
                      clear c19
                      first | (exfalso; rw [hr_.out] at H; exact absurd (Option.some.inj H) (by decide)) | (try clear hr_)
                      all_goals
                        obtain rfl := Option.some.inj H
                        go_wp2
                        go_ret
                        exact ⟨by first | rfl | (simp [errW_none, errW_some] <;> rfl) | (simp [*, errW_none, errW_some] <;> rfl), by repeat (first | (with_reducible first | exact HB.out | apply below_alloc | apply pw_below_drewN | apply below_drew1) | exact HB.out)⟩
              · rw [if_neg c18] at H
                rw [hr_.out] at H
                exact absurd (Option.some.inj H) (by decide)

/-- THE ONE PURE STATEMENT of lodgerlaw07_WordTurns: yours. -/
def lodgerlaw07_WordTurns.Pure : Prop := ∀ (a0 : Int) (l1 : List Int), (Lit.int .u64 a0).wf = true → l1.length ≤ maxLen → l1.length * 1 ≤ 140737488351232 → (∀ x ∈ l1, (Lit.int .u8 x).wf = true) → ∃ k, lodgerlaw07_WordTurns.f k a0 l1 = some true
theorem lodgerlaw07_WordTurns.walk (P : lodgerlaw07_WordTurns.Pure) (a0 : Int) (a1 : Option Addr) (len1 cap1 : Nat) (z1 : List Int) (w : World) (w0 : (Lit.int .u64 a0).wf = true) (w1 : (a1 = none ∧ len1 = 0 ∧ cap1 = 0 ∧ z1 = []) ∨ ∃ x, a1 = some x ∧ len1 ≤ cap1 ∧ cap1 ≤ maxLen ∧ z1.length = cap1 ∧ (∀ i, i < z1.length → w.cell? (x.add i) = some (.int .u8 (z1.getD i 0))) ∧ ∀ n ∈ z1, (Lit.int .u8 n).wf = true) (y1 : len1 * 1 ≤ 140737488351232) :
    Calls Try.prog 7 #[.int .u64 a0, .slice a1 len1 cap1] w fun e w' => e = .returned (.bool true) ∧ Below w.heap.size w w' := by
  obtain ⟨l1, rfl, hr1, hm1, hw1, hc1⟩ := ReadsInt.ofRowC w1
  obtain ⟨k, h⟩ := P a0 l1 w0 hm1 y1 hw1
  refine (lodgerlaw07_WordTurns.calls k a0 _ _ l1 true w (Kd.C_of_reads (d := (0 : Int)) (h1 := fun _ => rfl) hr1) hc1 rfl h).mono ?_
  rintro e w' ⟨rfl, hd⟩
  exact ⟨rfl, hd⟩

end Go.Proofs.Ytdbpdpdpabhfbaa.PWordTurns
