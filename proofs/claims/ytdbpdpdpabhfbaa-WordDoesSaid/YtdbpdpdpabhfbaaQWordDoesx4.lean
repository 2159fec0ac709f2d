/- The walk of WordDoes, part of it: what the Go functions answer; no condition. -/
import Derived.Test.YtdbpdpdpabhfbaaQWordDoesx0
import Derived.Test.YtdbpdpdpabhfbaaQWordDoesx1
import Derived.Test.YtdbpdpdpabhfbaaQWordDoesx2
import Derived.Test.YtdbpdpdpabhfbaaQWordDoesx3
namespace Go.Proofs.Ytdbpdpdpabhfbaa.PWordDoes
open Go.RowKit Go.Proofs.YtdbpdpdpabhfbaaW.PrintWords Go.Proofs.YtdbpdpdpabhfbaaW.PrintLast Go.Proofs.YtdbpdpdpabhfbaaW.PrintMore
attribute [local go_sem] max2_int min2_int max_two min_two max_three min_three max_four min_four   -- for this text's walks alone
set_option linter.unusedVariables false
set_option linter.unusedSimpArgs false

/-! ### lodgerlaw07_awake: function 8 -/
def lodgerlaw07_awake.f (k : Nat)  : Option (Bool) := (some (([1] : List Int) : List Int)).bind fun y153 => ((word_New.f k 0 30 y153 1 1 1 1 0).bind fun t157 => ((word_First.f k t157).bind fun bt158 => ((word_Claim.f t157 0).bind fun t160 => ((word_Drop.f t160 0).bind fun t161 => (if t157 = 4294967282 then (if bt158.1 = 0 then (if bt158.2 = true then (if t160 = 8589934579 then (if t161 = 12884901874 then ((word_Changes.f t161).bind fun t162 => (if t162 = 2 then ((word_Used.f t160 0).bind fun t163 => (if t163 = true then ((word_Used.f t161 0).bind fun t164 => (if t164 = true then (some false) else ((word_Full.f k t160).bind fun t165 => (if t165 = true then (some false) else ((word_Full.f k 4294967295).bind fun t166 => (if t166 = true then ((word_Cells.f k 0 30 y153 1 1 1 1).bind fun t167 => ((lodgerref02_Same.f k t167 (([4294967282, 18446744073709551614, 18446744073709551614] : List Int))).bind fun t173 => (some t173))) else (some false))))))) else (some false))) else (some false))) else (some false)) else (some false)) else (some false)) else (some false)) else (some false))))))
theorem lodgerlaw07_awake.mono : ∀ k, LeO (lodgerlaw07_awake.f k ) (lodgerlaw07_awake.f (k + 1) ) := by
  intro  k
  unfold lodgerlaw07_awake.f
  repeat' first
      | (with_reducible exact lodgerref02_Same.mono _ _ _)
      | (with_reducible exact word_Cells.mono _ _ _ _ _ _ _ _)
      | (with_reducible exact word_First.mono _ _)
      | (with_reducible exact word_Full.mono _ _)
      | (with_reducible exact word_New.mono _ _ _ _ _ _ _ _ _)
      | (with_reducible exact LeO.refl _)
      | (with_reducible exact LeO.none _)
      | (with_reducible refine LeO.ite ?_ ?_)
      | (with_reducible refine LeO.bind ?_ (fun _ => ?_))
      | exact lodgerref02_Same.mono _ _ _
      | exact word_Cells.mono _ _ _ _ _ _ _ _
      | exact word_First.mono _ _
      | exact word_Full.mono _ _
      | exact word_New.mono _ _ _ _ _ _ _ _ _
      | exact LeO.none _
      | refine LeO.ite ?_ ?_
      | refine LeO.bind ?_ (fun _ => ?_)
set_option maxHeartbeats 8000000 in
set_option maxRecDepth 100000 in
theorem lodgerlaw07_awake.only {k : Nat} {r : Bool} (h : lodgerlaw07_awake.f k = some r) : r = true := by
  have e : lodgerlaw07_awake.f 500 = some true := by decide +kernel
  have h1 := at_rounds lodgerlaw07_awake.mono (Nat.le_max_left k 500) h
  rw [at_rounds lodgerlaw07_awake.mono (Nat.le_max_right k 500) e] at h1
  exact (Option.some.inj h1).symm
theorem lodgerlaw07_awake.calls (k : Nat)  (r : Bool) (w : World) (h : lodgerlaw07_awake.f k  = some r) :
    Calls Try.prog 8 #[] w fun e w' => e = .returned (.bool r) ∧ Below w.heap.size w w' := by
  have hu33 := Try.underlying33
  have hu36 := Try.underlying36
  have HB := Aside0.mk (Below.refl w.heap.size w)
  have hr_ := Aside0.mk (lodgerlaw07_awake.only h)
  have H : ((some (([1] : List Int) : List Int)).bind fun y153 => ((word_New.f k 0 30 y153 1 1 1 1 0).bind fun t157 => ((word_First.f k t157).bind fun bt158 => ((word_Claim.f t157 0).bind fun t160 => ((word_Drop.f t160 0).bind fun t161 => (if t157 = 4294967282 then (if bt158.1 = 0 then (if bt158.2 = true then (if t160 = 8589934579 then (if t161 = 12884901874 then ((word_Changes.f t161).bind fun t162 => (if t162 = 2 then ((word_Used.f t160 0).bind fun t163 => (if t163 = true then ((word_Used.f t161 0).bind fun t164 => (if t164 = true then (some false) else ((word_Full.f k t160).bind fun t165 => (if t165 = true then (some false) else ((word_Full.f k 4294967295).bind fun t166 => (if t166 = true then ((word_Cells.f k 0 30 y153 1 1 1 1).bind fun t167 => ((lodgerref02_Same.f k t167 (([4294967282, 18446744073709551614, 18446744073709551614] : List Int))).bind fun t173 => (some t173))) else (some false))))))) else (some false))) else (some false))) else (some false)) else (some false)) else (some false)) else (some false)) else (some false))))))) = some r := h
  clear h
  obtain ⟨y153, hy153⟩ : ∃ y_ : List Int, y_ = (([1] : List Int)) := ⟨_, rfl⟩
  replace H : ((word_New.f k 0 30 y153 1 1 1 1 0).bind fun t157 => ((word_First.f k t157).bind fun bt158 => ((word_Claim.f t157 0).bind fun t160 => ((word_Drop.f t160 0).bind fun t161 => (if t157 = 4294967282 then (if bt158.1 = 0 then (if bt158.2 = true then (if t160 = 8589934579 then (if t161 = 12884901874 then ((word_Changes.f t161).bind fun t162 => (if t162 = 2 then ((word_Used.f t160 0).bind fun t163 => (if t163 = true then ((word_Used.f t161 0).bind fun t164 => (if t164 = true then (some false) else ((word_Full.f k t160).bind fun t165 => (if t165 = true then (some false) else ((word_Full.f k 4294967295).bind fun t166 => (if t166 = true then ((word_Cells.f k 0 30 y153 1 1 1 1).bind fun t167 => ((lodgerref02_Same.f k t167 (([4294967282, 18446744073709551614, 18446744073709551614] : List Int))).bind fun t173 => (some t173))) else (some false))))))) else (some false))) else (some false))) else (some false)) else (some false)) else (some false)) else (some false)) else (some false)))))) = some r := by first | (rw [hy153]; with_reducible exact H) | (have H2_ := (Option.bind_some _ _).symm.trans H; rw [hy153]; with_reducible exact H2_) | (have H2_ := (Option.bind_some _ _).symm.trans H; with_reducible exact H2_) | with_reducible exact H | (rw [hy153]; exact H) | exact H
  have Ny153 := Aside0.mk hy153
  clear hy153
  replace H := Option.bind_eq_some_iff.mp H
  obtain ⟨t157, A10, H⟩ := H
  replace H : ((word_First.f k t157).bind fun bt158 => ((word_Claim.f t157 0).bind fun t160 => ((word_Drop.f t160 0).bind fun t161 => (if t157 = 4294967282 then (if bt158.1 = 0 then (if bt158.2 = true then (if t160 = 8589934579 then (if t161 = 12884901874 then ((word_Changes.f t161).bind fun t162 => (if t162 = 2 then ((word_Used.f t160 0).bind fun t163 => (if t163 = true then ((word_Used.f t161 0).bind fun t164 => (if t164 = true then (some false) else ((word_Full.f k t160).bind fun t165 => (if t165 = true then (some false) else ((word_Full.f k 4294967295).bind fun t166 => (if t166 = true then ((word_Cells.f k 0 30 y153 1 1 1 1).bind fun t167 => ((lodgerref02_Same.f k t167 (([4294967282, 18446744073709551614, 18446744073709551614] : List Int))).bind fun t173 => (some t173))) else (some false))))))) else (some false))) else (some false))) else (some false)) else (some false)) else (some false)) else (some false)) else (some false))))) = some r := H
  have A1 := Aside0.mk A10
  clear A10
  replace H := Option.bind_eq_some_iff.mp H
  obtain ⟨⟨t158, t159⟩, A20, H⟩ := H
  replace H : ((word_Claim.f t157 0).bind fun t160 => ((word_Drop.f t160 0).bind fun t161 => (if t157 = 4294967282 then (if t158 = 0 then (if t159 = true then (if t160 = 8589934579 then (if t161 = 12884901874 then ((word_Changes.f t161).bind fun t162 => (if t162 = 2 then ((word_Used.f t160 0).bind fun t163 => (if t163 = true then ((word_Used.f t161 0).bind fun t164 => (if t164 = true then (some false) else ((word_Full.f k t160).bind fun t165 => (if t165 = true then (some false) else ((word_Full.f k 4294967295).bind fun t166 => (if t166 = true then ((word_Cells.f k 0 30 y153 1 1 1 1).bind fun t167 => ((lodgerref02_Same.f k t167 (([4294967282, 18446744073709551614, 18446744073709551614] : List Int))).bind fun t173 => (some t173))) else (some false))))))) else (some false))) else (some false))) else (some false)) else (some false)) else (some false)) else (some false)) else (some false)))) = some r := H
  have A2 := Aside0.mk A20
  clear A20
  replace H := Option.bind_eq_some_iff.mp H
  obtain ⟨t160, A30, H⟩ := H
  replace H : ((word_Drop.f t160 0).bind fun t161 => (if t157 = 4294967282 then (if t158 = 0 then (if t159 = true then (if t160 = 8589934579 then (if t161 = 12884901874 then ((word_Changes.f t161).bind fun t162 => (if t162 = 2 then ((word_Used.f t160 0).bind fun t163 => (if t163 = true then ((word_Used.f t161 0).bind fun t164 => (if t164 = true then (some false) else ((word_Full.f k t160).bind fun t165 => (if t165 = true then (some false) else ((word_Full.f k 4294967295).bind fun t166 => (if t166 = true then ((word_Cells.f k 0 30 y153 1 1 1 1).bind fun t167 => ((lodgerref02_Same.f k t167 (([4294967282, 18446744073709551614, 18446744073709551614] : List Int))).bind fun t173 => (some t173))) else (some false))))))) else (some false))) else (some false))) else (some false)) else (some false)) else (some false)) else (some false)) else (some false))) = some r := H
  have A3 := Aside0.mk A30
  clear A30
  replace H := Option.bind_eq_some_iff.mp H
  obtain ⟨t161, A40, H⟩ := H
  replace H : (if t157 = 4294967282 then (if t158 = 0 then (if t159 = true then (if t160 = 8589934579 then (if t161 = 12884901874 then ((word_Changes.f t161).bind fun t162 => (if t162 = 2 then ((word_Used.f t160 0).bind fun t163 => (if t163 = true then ((word_Used.f t161 0).bind fun t164 => (if t164 = true then (some false) else ((word_Full.f k t160).bind fun t165 => (if t165 = true then (some false) else ((word_Full.f k 4294967295).bind fun t166 => (if t166 = true then ((word_Cells.f k 0 30 y153 1 1 1 1).bind fun t167 => ((lodgerref02_Same.f k t167 (([4294967282, 18446744073709551614, 18446744073709551614] : List Int))).bind fun t173 => (some t173))) else (some false))))))) else (some false))) else (some false))) else (some false)) else (some false)) else (some false)) else (some false)) else (some false)) = some r := H
  have A4 := Aside0.mk A40
  clear A40
  by_cases c5 : t157 = 4294967282
  · rw [if_pos c5] at H
    have c5b0 : (t157 == 4294967282) = true := beq_iff_eq.mpr c5
    have c5b1 : (t157 != 4294967282) = false := bne_eq_false_iff_eq.mpr c5
    clear c5
    by_cases c6 : t158 = 0
    · rw [if_pos c6] at H
      have c6b0 : (t158 == 0) = true := beq_iff_eq.mpr c6
      have c6b1 : (t158 != 0) = false := bne_eq_false_iff_eq.mpr c6
      clear c6
      by_cases c7 : t159 = true
      · subst c7
        have H1 : (if t160 = 8589934579 then (if t161 = 12884901874 then ((word_Changes.f t161).bind fun t162 => (if t162 = 2 then ((word_Used.f t160 0).bind fun t163 => (if t163 = true then ((word_Used.f t161 0).bind fun t164 => (if t164 = true then (some false) else ((word_Full.f k t160).bind fun t165 => (if t165 = true then (some false) else ((word_Full.f k 4294967295).bind fun t166 => (if t166 = true then ((word_Cells.f k 0 30 y153 1 1 1 1).bind fun t167 => ((lodgerref02_Same.f k t167 (([4294967282, 18446744073709551614, 18446744073709551614] : List Int))).bind fun t173 => (some t173))) else (some false))))))) else (some false))) else (some false))) else (some false)) else (some false)) = some r := by rw [if_pos rfl] at H; exact H
        clear H
        have H := H1
        clear H1
        by_cases c8 : t160 = 8589934579
        · rw [if_pos c8] at H
          have c8b0 : (t160 == 8589934579) = true := beq_iff_eq.mpr c8
          have c8b1 : (t160 != 8589934579) = false := bne_eq_false_iff_eq.mpr c8
          clear c8
          by_cases c9 : t161 = 12884901874
          · rw [if_pos c9] at H
            have c9b0 : (t161 == 12884901874) = true := beq_iff_eq.mpr c9
            have c9b1 : (t161 != 12884901874) = false := bne_eq_false_iff_eq.mpr c9
            clear c9
            replace H := Option.bind_eq_some_iff.mp H
            obtain ⟨t162, A100, H⟩ := H
            replace H : (if t162 = 2 then ((word_Used.f t160 0).bind fun t163 => (if t163 = true then ((word_Used.f t161 0).bind fun t164 => (if t164 = true then (some false) else ((word_Full.f k t160).bind fun t165 => (if t165 = true then (some false) else ((word_Full.f k 4294967295).bind fun t166 => (if t166 = true then ((word_Cells.f k 0 30 y153 1 1 1 1).bind fun t167 => ((lodgerref02_Same.f k t167 (([4294967282, 18446744073709551614, 18446744073709551614] : List Int))).bind fun t173 => (some t173))) else (some false))))))) else (some false))) else (some false)) = some r := H
            have A10 := Aside0.mk A100
            clear A100
            by_cases c11 : t162 = 2
            · rw [if_pos c11] at H
              have c11b0 : (t162 == 2) = true := beq_iff_eq.mpr c11
              have c11b1 : (t162 != 2) = false := bne_eq_false_iff_eq.mpr c11
              clear c11
              replace H := Option.bind_eq_some_iff.mp H
              obtain ⟨t163, A120, H⟩ := H
              replace H : (if t163 = true then ((word_Used.f t161 0).bind fun t164 => (if t164 = true then (some false) else ((word_Full.f k t160).bind fun t165 => (if t165 = true then (some false) else ((word_Full.f k 4294967295).bind fun t166 => (if t166 = true then ((word_Cells.f k 0 30 y153 1 1 1 1).bind fun t167 => ((lodgerref02_Same.f k t167 (([4294967282, 18446744073709551614, 18446744073709551614] : List Int))).bind fun t173 => (some t173))) else (some false))))))) else (some false)) = some r := H
              have A12 := Aside0.mk A120
              clear A120
              by_cases c13 : t163 = true
              · subst c13
                have H1 : ((word_Used.f t161 0).bind fun t164 => (if t164 = true then (some false) else ((word_Full.f k t160).bind fun t165 => (if t165 = true then (some false) else ((word_Full.f k 4294967295).bind fun t166 => (if t166 = true then ((word_Cells.f k 0 30 y153 1 1 1 1).bind fun t167 => ((lodgerref02_Same.f k t167 (([4294967282, 18446744073709551614, 18446744073709551614] : List Int))).bind fun t173 => (some t173))) else (some false))))))) = some r := by rw [if_pos rfl] at H; exact H
                clear H
                have H := H1
                clear H1
                replace H := Option.bind_eq_some_iff.mp H
                obtain ⟨t164, A140, H⟩ := H
                replace H : (if t164 = true then (some false) else ((word_Full.f k t160).bind fun t165 => (if t165 = true then (some false) else ((word_Full.f k 4294967295).bind fun t166 => (if t166 = true then ((word_Cells.f k 0 30 y153 1 1 1 1).bind fun t167 => ((lodgerref02_Same.f k t167 (([4294967282, 18446744073709551614, 18446744073709551614] : List Int))).bind fun t173 => (some t173))) else (some false)))))) = some r := H
                have A14 := Aside0.mk A140
                clear A140
                by_cases c15 : t164 = true
                · subst c15
                  have H1 : (some false) = some r := by rw [if_pos rfl] at H; exact H
                  rw [hr_.out] at H1
                  exact absurd (Option.some.inj H1) (by decide)
                · replace c15 := Bool.eq_false_iff.mpr c15
                  subst c15
                  have H1 : ((word_Full.f k t160).bind fun t165 => (if t165 = true then (some false) else ((word_Full.f k 4294967295).bind fun t166 => (if t166 = true then ((word_Cells.f k 0 30 y153 1 1 1 1).bind fun t167 => ((lodgerref02_Same.f k t167 (([4294967282, 18446744073709551614, 18446744073709551614] : List Int))).bind fun t173 => (some t173))) else (some false))))) = some r := by rw [if_neg (show ¬ (false = true) by decide)] at H; exact H
                  clear H
                  have H := H1
                  clear H1
                  replace H := Option.bind_eq_some_iff.mp H
                  obtain ⟨t165, A220, H⟩ := H
                  replace H : (if t165 = true then (some false) else ((word_Full.f k 4294967295).bind fun t166 => (if t166 = true then ((word_Cells.f k 0 30 y153 1 1 1 1).bind fun t167 => ((lodgerref02_Same.f k t167 (([4294967282, 18446744073709551614, 18446744073709551614] : List Int))).bind fun t173 => (some t173))) else (some false)))) = some r := H
                  have A22 := Aside0.mk A220
                  clear A220
                  by_cases c23 : t165 = true
                  · subst c23
                    have H1 : (some false) = some r := by rw [if_pos rfl] at H; exact H
                    rw [hr_.out] at H1
                    exact absurd (Option.some.inj H1) (by decide)
                  · replace c23 := Bool.eq_false_iff.mpr c23
                    subst c23
                    have H1 : ((word_Full.f k 4294967295).bind fun t166 => (if t166 = true then ((word_Cells.f k 0 30 y153 1 1 1 1).bind fun t167 => ((lodgerref02_Same.f k t167 (([4294967282, 18446744073709551614, 18446744073709551614] : List Int))).bind fun t173 => (some t173))) else (some false))) = some r := by rw [if_neg (show ¬ (false = true) by decide)] at H; exact H
                    clear H
                    have H := H1
                    clear H1
                    replace H := Option.bind_eq_some_iff.mp H
                    obtain ⟨t166, A300, H⟩ := H
                    replace H : (if t166 = true then ((word_Cells.f k 0 30 y153 1 1 1 1).bind fun t167 => ((lodgerref02_Same.f k t167 (([4294967282, 18446744073709551614, 18446744073709551614] : List Int))).bind fun t173 => (some t173))) else (some false)) = some r := H
                    have A30 := Aside0.mk A300
                    clear A300
                    by_cases c31 : t166 = true
                    · subst c31
                      have H1 : ((word_Cells.f k 0 30 y153 1 1 1 1).bind fun t167 => ((lodgerref02_Same.f k t167 (([4294967282, 18446744073709551614, 18446744073709551614] : List Int))).bind fun t173 => (some t173))) = some r := by rw [if_pos rfl] at H; exact H
                      clear H
                      have H := H1
                      clear H1
                      replace H := Option.bind_eq_some_iff.mp H
                      obtain ⟨t167, A320, H⟩ := H
                      replace H : ((lodgerref02_Same.f k t167 (([4294967282, 18446744073709551614, 18446744073709551614] : List Int))).bind fun t173 => (some t173)) = some r := H
                      have A32 := Aside0.mk A320
                      clear A320
                      obtain ⟨y170, hy170⟩ : ∃ y_ : List Int, y_ = (([4294967282, 18446744073709551614, 18446744073709551614] : List Int)) := ⟨_, rfl⟩
                      replace H : ((lodgerref02_Same.f k t167 y170).bind fun t173 => (some t173)) = some r := by first | (rw [hy170]; with_reducible exact H) | (have H2_ := (Option.bind_some _ _).symm.trans H; rw [hy170]; with_reducible exact H2_) | (have H2_ := (Option.bind_some _ _).symm.trans H; with_reducible exact H2_) | with_reducible exact H | (rw [hy170]; exact H) | exact H
                      have Ny170 := Aside0.mk hy170
                      clear hy170
                      replace H := Option.bind_eq_some_iff.mp H
                      obtain ⟨t173, A330, H⟩ := H
                      replace H : (some t173) = some r := H
                      have A33 := Aside0.mk A330
                      clear A330
                      first | (exfalso; rw [hr_.out] at H; exact absurd (Option.some.inj H) (by decide)) | (try clear hr_)
                      all_goals
                        obtain rfl := Option.some.inj H
                        go_enter Try.func8, Try.ntmps8
                        go_wp2_with (first | ((with_reducible refine gate_dst (N := 8) rfl ?_); (try (refine gate_guard (by rfl) ?_; dsimp only)); refine Kd.R_lit (Kd.int .i64) _ 3 ?hg (N := 8) ?hd (xs := ([1] : List Int)) (inner := [.int .i64 1]) (ok := fun _ => True) (okp := fun _ => True) ?hr ?hp (fun _ hk => hk) trivial (Below.refl _ _) (Nat.le_refl _) (by simp) ?_; (case hd => rfl); (case hg => rfl); (case hr => first | (go_simp; done) | (go_simp; rfl)); (case hp => exact (Reps.one (show Kd.M (Kd.int .i64) _ _ _ 1 [.int .i64 1] from rfl) (Reps.none _ _))); intro v154 w34 ho35 hb hg_ hnew_; clear hg_ hnew_; (first | rw [← Ny153.out] at ho35 | (simp only [Int.reduceToNat] at ho35; rw [← Ny153.out] at ho35)); have n0_ := Aside0.mk (Kd.R_lower ho35 (below_size (by repeat (first | (with_reducible first | exact HB.out | apply below_alloc | apply pw_below_drewN | apply below_drew1) | exact HB.out)))); have n1_ := Aside0.mk (below_step (by repeat (first | (with_reducible first | exact HB.out | apply below_alloc | apply pw_below_drewN | apply below_drew1) | exact HB.out)) hb); clear HB; have HO155 := n0_; have HB := n1_; clear n0_ n1_; clear hb ho35; obtain ⟨Ao36, co36, eo36⟩ := Kd.R_slice HO155.out; subst eo36) | ((with_reducible refine gate_dst (N := 1) rfl ?_); (try (refine gate_guard (by rfl) ?_; dsimp only)); refine box_event ?hg (N := 1) ?hd (cs := #[.int .u32 0, .int .i64 0, .slice none 0 0, .int .i64 0, .int .i64 0, .int .i64 0, .int .i64 0]) (t := 36) ?hr ?_; (case hd => rfl); (case hg => rfl); (case hr => first | (go_simp; done) | (go_simp; rfl)); intro gb156 hg w37 hbox hb; have n0_ := Aside0.mk (Kd.R_below (by (with_reducible repeat (first | apply Kd.R_alloc | apply Kd.R_drewN | apply Kd.R_drew)); exact HO155.out) hb); have n1_ := Aside0.mk (below_step (by repeat (first | (with_reducible first | exact HB.out | apply below_alloc | apply pw_below_drewN | apply below_drew1) | exact HB.out)) hb); have n2_ := Aside0.mk (hbox); have n3_ := Aside0.mk ((by rw [hg]; exact (below_size (by repeat (first | (with_reducible first | exact HB.out | apply below_alloc | apply pw_below_drewN | apply below_drew1) | exact HB.out))) : w.heap.size ≤ gb156)); have n4_ := Aside0.mk ((by rw [hg]; exact (below_size (by repeat (first | (with_reducible first | exact HB.out | apply below_alloc | apply pw_below_drewN | apply below_drew1) | exact HB.out))) : w.heap.size ≤ gb156)); clear HO155; clear HB; have HO155 := n0_; have HB := n1_; have BK156 := n2_; have GW156 := n3_; have GE156 := n4_; clear n0_ n1_ n2_ n3_ n4_; clear hb hbox hg; have hcz38_0 : w37.cell? ⟨gb156, 0, none⟩ = some (.int .u32 0) := (blk_cell BK156.out 0).trans rfl; have hcz38_1 : w37.cell? ⟨gb156, 1, none⟩ = some (.int .i64 0) := (blk_cell BK156.out 1).trans rfl; have hcz38_2 : w37.cell? ⟨gb156, 2, none⟩ = some (.slice none 0 0) := (blk_cell BK156.out 2).trans rfl; have hcz38_3 : w37.cell? ⟨gb156, 3, none⟩ = some (.int .i64 0) := (blk_cell BK156.out 3).trans rfl; have hcz38_4 : w37.cell? ⟨gb156, 4, none⟩ = some (.int .i64 0) := (blk_cell BK156.out 4).trans rfl; have hcz38_5 : w37.cell? ⟨gb156, 5, none⟩ = some (.int .i64 0) := (blk_cell BK156.out 5).trans rfl; have hcz38_6 : w37.cell? ⟨gb156, 6, none⟩ = some (.int .i64 0) := (blk_cell BK156.out 6).trans rfl; have hfz38_0 := blk_frozen BK156.out 0; have hfz38_1 := blk_frozen BK156.out 1; have hfz38_2 := blk_frozen BK156.out 2; have hfz38_3 := blk_frozen BK156.out 3; have hfz38_4 := blk_frozen BK156.out 4; have hfz38_5 := blk_frozen BK156.out 5; have hfz38_6 := blk_frozen BK156.out 6) | ((with_reducible refine gate_callee (f := 23) rfl ?_); refine goesL_ (some 11) rfl rfl Try.func23 (by kernel_rfl) rfl #[.agg #[.int .u32 0, .int .i64 30, .slice Ao36 y153.length co36, .int .i64 1, .int .i64 1, .int .i64 1, .int .i64 1], .int .i64 0] rfl (by (try simp only [List.map_toArray, List.map_cons, List.map_nil]); first | done | rfl | (simp only [List.length_drop, List.length_take]; rfl)) ?_; (with_reducible refine (word_New.calls k 0 30 _ _ y153 1 1 1 1 0 t157 _ ?side1 ?side2 A1.out).mono ?_); (case side1 => refine (Kd.R_reads' (e := 3) (base := w.heap.size) (ok := fun k_ => True) (n := y153.length) (c := co36) ?_).2.2; exact (by (with_reducible repeat (first | apply Kd.R_alloc | apply Kd.R_drewN | apply Kd.R_drew)); exact (Kd.R_mono (Kd.R_far (p := ⟨gb156, 6, none⟩) (Kd.R_far (p := ⟨gb156, 5, none⟩) (Kd.R_far (p := ⟨gb156, 4, none⟩) (Kd.R_far (p := ⟨gb156, 3, none⟩) (Kd.R_far (p := ⟨gb156, 2, none⟩) (Kd.R_far (p := ⟨gb156, 1, none⟩) (Kd.R_far (p := ⟨gb156, 0, none⟩) (Kd.R_types HO155.out BK156.out (by decide)) (fun _ hk => hk.2) (.int .u32 0)) (fun _ hk => hk.2) (.int .i64 30)) (fun _ hk => hk.2) (.slice Ao36 y153.length co36)) (fun _ hk => hk.2) (.int .i64 1)) (fun _ hk => hk.2) (.int .i64 1)) (fun _ hk => hk.2) (.int .i64 1)) (fun _ hk => hk.2) (.int .i64 1)) (fun _ h_ => h_.1)))); (case side2 => exact (Kd.R_reads' HO155.out).2.1); rintro e w39 ⟨rfl, hb⟩; refine ⟨_, rfl, ?_⟩; have n0_ := Aside0.mk (Kd.R_below (by (with_reducible repeat (first | apply Kd.R_alloc | apply Kd.R_drewN | apply Kd.R_drew)); exact (Kd.R_mono (Kd.R_far (p := ⟨gb156, 6, none⟩) (Kd.R_far (p := ⟨gb156, 5, none⟩) (Kd.R_far (p := ⟨gb156, 4, none⟩) (Kd.R_far (p := ⟨gb156, 3, none⟩) (Kd.R_far (p := ⟨gb156, 2, none⟩) (Kd.R_far (p := ⟨gb156, 1, none⟩) (Kd.R_far (p := ⟨gb156, 0, none⟩) (Kd.R_types HO155.out BK156.out (by decide)) (fun _ hk => hk.2) (.int .u32 0)) (fun _ hk => hk.2) (.int .i64 30)) (fun _ hk => hk.2) (.slice Ao36 y153.length co36)) (fun _ hk => hk.2) (.int .i64 1)) (fun _ hk => hk.2) (.int .i64 1)) (fun _ hk => hk.2) (.int .i64 1)) (fun _ hk => hk.2) (.int .i64 1)) (fun _ h_ => h_.1))) hb); have n1_ := Aside0.mk (blk_below (g := gb156) (o := .cells #[.int .u32 0, .int .i64 30, .slice Ao36 y153.length co36, .int .i64 1, .int .i64 1, .int .i64 1, .int .i64 1] 36 (0, 0)) (by (with_reducible repeat (first | refine blk_drewN ?_ _ | refine blk_drew ?_ | refine blk_alloc ?_ _)); refine blk_put (cs := #[.int .u32 0, .int .i64 30, .slice Ao36 y153.length co36, .int .i64 1, .int .i64 1, .int .i64 1, .int .i64 0]) ?_ 6 _ rfl; (with_reducible repeat (first | refine blk_drewN ?_ _ | refine blk_drew ?_ | refine blk_alloc ?_ _)); refine blk_put (cs := #[.int .u32 0, .int .i64 30, .slice Ao36 y153.length co36, .int .i64 1, .int .i64 1, .int .i64 0, .int .i64 0]) ?_ 5 _ rfl; (with_reducible repeat (first | refine blk_drewN ?_ _ | refine blk_drew ?_ | refine blk_alloc ?_ _)); refine blk_put (cs := #[.int .u32 0, .int .i64 30, .slice Ao36 y153.length co36, .int .i64 1, .int .i64 0, .int .i64 0, .int .i64 0]) ?_ 4 _ rfl; (with_reducible repeat (first | refine blk_drewN ?_ _ | refine blk_drew ?_ | refine blk_alloc ?_ _)); refine blk_put (cs := #[.int .u32 0, .int .i64 30, .slice Ao36 y153.length co36, .int .i64 0, .int .i64 0, .int .i64 0, .int .i64 0]) ?_ 3 _ rfl; (with_reducible repeat (first | refine blk_drewN ?_ _ | refine blk_drew ?_ | refine blk_alloc ?_ _)); refine blk_put (cs := #[.int .u32 0, .int .i64 30, .slice none 0 0, .int .i64 0, .int .i64 0, .int .i64 0, .int .i64 0]) ?_ 2 _ rfl; (with_reducible repeat (first | refine blk_drewN ?_ _ | refine blk_drew ?_ | refine blk_alloc ?_ _)); refine blk_put (cs := #[.int .u32 0, .int .i64 0, .slice none 0 0, .int .i64 0, .int .i64 0, .int .i64 0, .int .i64 0]) ?_ 1 _ rfl; (with_reducible repeat (first | refine blk_drewN ?_ _ | refine blk_drew ?_ | refine blk_alloc ?_ _)); refine blk_put (cs := #[.int .u32 0, .int .i64 0, .slice none 0 0, .int .i64 0, .int .i64 0, .int .i64 0, .int .i64 0]) ?_ 0 _ rfl; (with_reducible repeat (first | refine blk_drewN ?_ _ | refine blk_drew ?_ | refine blk_alloc ?_ _)); exact BK156.out) hb); have n2_ := Aside0.mk (below_step (by repeat (first | (with_reducible first | exact HB.out | apply below_alloc | apply pw_below_drewN | apply below_drew1 | refine below_set ?_ GE156.out) | exact HB.out)) hb); clear HO155; clear BK156; clear HB; have HO155 := n0_; have BK156 := n1_; have HB := n2_; clear n0_ n1_ n2_; (try clear hb); (try clear hb2); (try clear hk); (try clear hi)) | ((with_reducible refine gate_callee (f := 9) rfl ?_); refine goesL_ (some 14) rfl rfl Try.func9 (by kernel_rfl) rfl #[.int .u64 t157] rfl (by (try simp only [List.map_toArray, List.map_cons, List.map_nil]); first | done | rfl | (simp only [List.length_drop, List.length_take]; rfl)) ?_; (with_reducible refine (word_First.calls k t157 t158 true _ A2.out).mono ?_); rintro e w' ⟨rfl, ⟨nd, rfl⟩⟩; refine ⟨_, rfl, ?_⟩) | ((with_reducible refine gate_callee (f := 14) rfl ?_); refine goesL_ (some 18) rfl rfl Try.func14 (by kernel_rfl) rfl #[.int .u64 t157, .int .i64 0] rfl (by (try simp only [List.map_toArray, List.map_cons, List.map_nil]); first | done | rfl | (simp only [List.length_drop, List.length_take]; rfl)) ?_; (with_reducible refine (word_Claim.calls t157 0 t160 _ A3.out).mono ?_); rintro e w' ⟨rfl, ⟨nd, rfl⟩⟩; refine ⟨_, rfl, ?_⟩) | ((with_reducible refine gate_callee (f := 16) rfl ?_); refine goesL_ (some 20) rfl rfl Try.func16 (by kernel_rfl) rfl #[.int .u64 t160, .int .i64 0] rfl (by (try simp only [List.map_toArray, List.map_cons, List.map_nil]); first | done | rfl | (simp only [List.length_drop, List.length_take]; rfl)) ?_; (with_reducible refine (word_Drop.calls t160 0 t161 _ A4.out).mono ?_); rintro e w' ⟨rfl, ⟨nd, rfl⟩⟩; refine ⟨_, rfl, ?_⟩) | (go_at_call 13; (with_reducible refine (word_Changes.calls t161 t162 _ A10.out).mono ?_); rintro e w' ⟨rfl, ⟨nd, rfl⟩⟩) | (go_at_call 11; (with_reducible refine (word_Used.calls t160 0 true _ A12.out).mono ?_); rintro e w' ⟨rfl, ⟨nd, rfl⟩⟩) | (go_at_call 11; (with_reducible refine (word_Used.calls t161 0 false _ A14.out).mono ?_); rintro e w' ⟨rfl, ⟨nd, rfl⟩⟩) | (go_at_call 18; (with_reducible refine (word_Full.calls k t160 false _ A22.out).mono ?_); rintro e w' ⟨rfl, ⟨nd, rfl⟩⟩) | (go_at_call 18; (with_reducible refine (word_Full.calls k 4294967295 true _ A30.out).mono ?_); rintro e w' ⟨rfl, ⟨nd, rfl⟩⟩; have hcz40_0 : w39.cell? ⟨gb156, 0, none⟩ = some (.int .u32 0) := (blk_cell BK156.out 0).trans rfl; have hcz40_1 : w39.cell? ⟨gb156, 1, none⟩ = some (.int .i64 30) := (blk_cell BK156.out 1).trans rfl; have hcz40_2 : w39.cell? ⟨gb156, 2, none⟩ = some (.slice Ao36 y153.length co36) := (blk_cell BK156.out 2).trans rfl; have hcz40_3 : w39.cell? ⟨gb156, 3, none⟩ = some (.int .i64 1) := (blk_cell BK156.out 3).trans rfl; have hcz40_4 : w39.cell? ⟨gb156, 4, none⟩ = some (.int .i64 1) := (blk_cell BK156.out 4).trans rfl; have hcz40_5 : w39.cell? ⟨gb156, 5, none⟩ = some (.int .i64 1) := (blk_cell BK156.out 5).trans rfl; have hcz40_6 : w39.cell? ⟨gb156, 6, none⟩ = some (.int .i64 1) := (blk_cell BK156.out 6).trans rfl; have hfz40_0 := blk_frozen BK156.out 0; have hfz40_1 := blk_frozen BK156.out 1; have hfz40_2 := blk_frozen BK156.out 2; have hfz40_3 := blk_frozen BK156.out 3; have hfz40_4 := blk_frozen BK156.out 4; have hfz40_5 := blk_frozen BK156.out 5; have hfz40_6 := blk_frozen BK156.out 6) | (go_at_call 26; (with_reducible refine (word_Cells.calls k 0 30 _ _ y153 1 1 1 1 t167 _ ?side1 ?side2 A32.out).mono ?_); (case side1 => repeat (first | exact (Kd.R_reads' HO155.out).2.2 | (with_reducible refine Kd.C_alloc ?_ _) | (with_reducible refine Kd.C_drewN ?_ _) | (with_reducible refine Kd.C_drew ?_))); (case side2 => exact (Kd.R_reads' HO155.out).2.1); rintro e w41 ⟨v168, rfl, ho0, hb⟩; have n0_ := Aside0.mk (Kd.R_below (by (with_reducible repeat (first | apply Kd.R_alloc | apply Kd.R_drewN | apply Kd.R_drew)); exact HO155.out) hb); have n1_ := Aside0.mk (Kd.R_lower ho0 (below_size (by repeat (first | (with_reducible first | exact HB.out | apply below_alloc | apply pw_below_drewN | apply below_drew1 | refine below_set ?_ GE156.out) | exact HB.out)))); have n2_ := Aside0.mk (blk_below (g := gb156) (o := .cells #[.int .u32 0, .int .i64 30, .slice Ao36 y153.length co36, .int .i64 1, .int .i64 1, .int .i64 1, .int .i64 1] 36 (0, 0)) (by (with_reducible repeat (first | refine blk_drewN ?_ _ | refine blk_drew ?_ | refine blk_alloc ?_ _)); exact BK156.out) hb); have n3_ := Aside0.mk (below_step (by repeat (first | (with_reducible first | exact HB.out | apply below_alloc | apply pw_below_drewN | apply below_drew1 | refine below_set ?_ GE156.out) | exact HB.out)) hb); clear HO155; clear BK156; clear HB; have HO155 := n0_; have HO169 := n1_; have BK156 := n2_; have HB := n3_; clear n0_ n1_ n2_ n3_; (try clear hb); (try clear hb2); (try clear hk); (try clear hi); (try clear ho0)) | ((with_reducible refine gate_dst (N := 63) rfl ?_); (try (refine gate_guard (by rfl) ?_; dsimp only)); refine Kd.R_lit (Kd.int .u64) _ 22 ?hg (N := 63) ?hd (xs := ([4294967282, 18446744073709551614, 18446744073709551614] : List Int)) (inner := [.int .u64 4294967282, .int .u64 18446744073709551614, .int .u64 18446744073709551614]) (ok := fun _ => True) (okp := fun _ => True) ?hr ?hp (fun _ hk => hk) trivial (Below.refl _ _) (Nat.le_refl _) (by simp) ?_; (case hd => rfl); (case hg => rfl); (case hr => first | (go_simp; done) | (go_simp; rfl)); (case hp => exact (Reps.one (show Kd.M (Kd.int .u64) _ _ _ 4294967282 [.int .u64 4294967282] from rfl) (Reps.one (show Kd.M (Kd.int .u64) _ _ _ 18446744073709551614 [.int .u64 18446744073709551614] from rfl) (Reps.one (show Kd.M (Kd.int .u64) _ _ _ 18446744073709551614 [.int .u64 18446744073709551614] from rfl) (Reps.none _ _))))); intro v171 w42 ho43 hb hg_ hnew_; clear hg_ hnew_; (first | rw [← Ny170.out] at ho43 | (simp only [Int.reduceToNat] at ho43; rw [← Ny170.out] at ho43)); have n0_ := Aside0.mk (Kd.R_below (by (with_reducible repeat (first | apply Kd.R_alloc | apply Kd.R_drewN | apply Kd.R_drew)); exact HO155.out) hb); have n1_ := Aside0.mk (Kd.R_elder' (by (with_reducible repeat (first | apply Kd.R_alloc | apply Kd.R_drewN | apply Kd.R_drew)); exact HO169.out) (Kd.R_base ho43) hb); have n2_ := Aside0.mk (Kd.R_lower (Kd.R_new' ho43 (Kd.R_lt (by (with_reducible repeat (first | apply Kd.R_alloc | apply Kd.R_drewN | apply Kd.R_drew)); exact HO169.out))) (below_size (by repeat (first | (with_reducible first | exact HB.out | apply below_alloc | apply pw_below_drewN | apply below_drew1 | refine below_set ?_ GE156.out) | exact HB.out)))); have n3_ := Aside0.mk (blk_below (g := gb156) (o := .cells #[.int .u32 0, .int .i64 30, .slice Ao36 y153.length co36, .int .i64 1, .int .i64 1, .int .i64 1, .int .i64 1] 36 (0, 0)) (by (with_reducible repeat (first | refine blk_drewN ?_ _ | refine blk_drew ?_ | refine blk_alloc ?_ _)); exact BK156.out) hb); have n4_ := Aside0.mk (below_step (by repeat (first | (with_reducible first | exact HB.out | apply below_alloc | apply pw_below_drewN | apply below_drew1 | refine below_set ?_ GE156.out) | exact HB.out)) hb); clear HO155; clear HO169; clear BK156; clear HB; have HO155 := n0_; have HO169 := n1_; have HO172 := n2_; have BK156 := n3_; have HB := n4_; clear n0_ n1_ n2_ n3_ n4_; clear hb ho43; obtain ⟨Ao44, co44, eo44⟩ := Kd.R_slice HO169.out; subst eo44; obtain ⟨Ao45, co45, eo45⟩ := Kd.R_slice HO172.out; subst eo45) | (go_at_call 25; (with_reducible refine (lodgerref02_Same.calls k _ _ t167 _ _ y170 t173 _ ?side1 ?side2 ?side3 ?side4 A33.out).mono ?_); (case side1 => repeat (first | exact (Kd.R_reads' HO169.out).2.2 | (with_reducible refine Kd.C_alloc ?_ _) | (with_reducible refine Kd.C_drewN ?_ _) | (with_reducible refine Kd.C_drew ?_))); (case side2 => exact (Kd.R_reads' HO169.out).2.1); (case side3 => repeat (first | exact (Kd.R_reads' HO172.out).2.2 | (with_reducible refine Kd.C_alloc ?_ _) | (with_reducible refine Kd.C_drewN ?_ _) | (with_reducible refine Kd.C_drew ?_))); (case side4 => exact (Kd.R_reads' HO172.out).2.1); rintro e w' ⟨rfl, ⟨nd, rfl⟩⟩) | (go_at_call 23; (with_reducible refine (word_First.calls k t157 t158 true _ A2.out).mono ?_); rintro e w' ⟨rfl, ⟨nd, rfl⟩⟩) | (go_at_call 14; (with_reducible refine (word_Claim.calls t157 0 t160 _ A3.out).mono ?_); rintro e w' ⟨rfl, ⟨nd, rfl⟩⟩) | (go_at_call 16; (with_reducible refine (word_Drop.calls t160 0 t161 _ A4.out).mono ?_); rintro e w' ⟨rfl, ⟨nd, rfl⟩⟩))
                        go_ret
                        exact ⟨by first | rfl | (simp [errW_none, errW_some] <;> rfl) | (simp [*, errW_none, errW_some] <;> rfl), by repeat (first | (with_reducible first | exact HB.out | apply below_alloc | apply pw_below_drewN | apply below_drew1 | refine below_set ?_ GE156.out) | exact HB.out)⟩
                    · replace c31 := Bool.eq_false_iff.mpr c31
                      subst c31
                      have H1 : (some false) = some r := by rw [if_neg (show ¬ (false = true) by decide)] at H; exact H
                      rw [hr_.out] at H1
                      exact absurd (Option.some.inj H1) (by decide)
              · replace c13 := Bool.eq_false_iff.mpr c13
                subst c13
                have H1 : (some false) = some r := by rw [if_neg (show ¬ (false = true) by decide)] at H; exact H
                rw [hr_.out] at H1
                exact absurd (Option.some.inj H1) (by decide)
            · rw [if_neg c11] at H
              rw [hr_.out] at H
              exact absurd (Option.some.inj H) (by decide)
          · rw [if_neg c9] at H
            rw [hr_.out] at H
            exact absurd (Option.some.inj H) (by decide)
        · rw [if_neg c8] at H
          rw [hr_.out] at H
          exact absurd (Option.some.inj H) (by decide)
      · replace c7 := Bool.eq_false_iff.mpr c7
        subst c7
        have H1 : (some false) = some r := by rw [if_neg (show ¬ (false = true) by decide)] at H; exact H
        rw [hr_.out] at H1
        exact absurd (Option.some.inj H1) (by decide)
    · rw [if_neg c6] at H
      rw [hr_.out] at H
      exact absurd (Option.some.inj H) (by decide)
  · rw [if_neg c5] at H
    rw [hr_.out] at H
    exact absurd (Option.some.inj H) (by decide)

/-! ### lodgerref01_Pow: function 34 -/
def lodgerref01_Pow.l0 : Nat → Int → Int → Int → Option (Int)
  | 0, _, _, _ => none
  | k + 1, x0, x3, x4 => if x4 < x0 then (lodgerref01_Pow.l0 k x0 (IntKind.u64.wrap (x3 * 2)) (wrap64 (x4 + 1))) else (some x3)
def lodgerref01_Pow.f (k : Nat) (a0 : Int) : Option (Int) := lodgerref01_Pow.l0 k a0 1 0
theorem lodgerref01_Pow.mono_l : ∀ k, (∀ y0 y1 y2, LeO (lodgerref01_Pow.l0 k y0 y1 y2) (lodgerref01_Pow.l0 (k + 1) y0 y1 y2))
  | 0 => fun _ _ _ r h => by simp [lodgerref01_Pow.l0] at h
  | k + 1 => by
    have ih0 := lodgerref01_Pow.mono_l k
    · intro y0 y1 y2
      unfold lodgerref01_Pow.l0
      repeat' first
      | (with_reducible exact ih0 _ _ _)
      | (with_reducible exact LeO.refl _)
      | (with_reducible exact LeO.none _)
      | (with_reducible refine LeO.ite ?_ ?_)
      | (with_reducible refine LeO.bind ?_ (fun _ => ?_))
      | exact ih0 _ _ _
      | exact LeO.none _
      | refine LeO.ite ?_ ?_
      | refine LeO.bind ?_ (fun _ => ?_)
theorem lodgerref01_Pow.mono : ∀ a0 k, LeO (lodgerref01_Pow.f k a0) (lodgerref01_Pow.f (k + 1) a0) := by
  intro a0 k
  have ih0 := lodgerref01_Pow.mono_l k
  unfold lodgerref01_Pow.f
  repeat' first
      | (with_reducible exact ih0 _ _ _)
      | (with_reducible exact LeO.refl _)
      | (with_reducible exact LeO.none _)
      | (with_reducible refine LeO.ite ?_ ?_)
      | (with_reducible refine LeO.bind ?_ (fun _ => ?_))
      | exact ih0 _ _ _
      | exact LeO.none _
      | refine LeO.ite ?_ ?_
      | refine LeO.bind ?_ (fun _ => ?_)
set_option maxHeartbeats 8000000 in
set_option maxRecDepth 100000 in
theorem lodgerref01_Pow.calls (k : Nat) (a0 : Int) (r : Int) (w : World) (h : lodgerref01_Pow.f k a0 = some r) :
    Calls Try.prog 34 #[.int .i64 a0] w fun e w' => e = .returned (.int .u64 r) ∧ Drawn0 w w' := by
  have H : (lodgerref01_Pow.l0 k a0 1 0) = some r := h
  clear h
  have H' := Aside0.mk H
  clear H
  go_enter Try.func34, Try.ntmps34
  go_wp2
  go_loopg [3, 4] k (fun kq v3 v4 w' => ∃ (x3_1 : Int) (x4_1 : Int), v3 = .int .u64 x3_1 ∧ v4 = .int .i64 x4_1 ∧ Aside0 (lodgerref01_Pow.l0 kq a0 x3_1 x4_1 = some r) ∧ Aside0 (kq ≤ k) ∧ Drawn0 w w')
  case atStart => exact ⟨(1), (0), (by first | rfl | (simp; done) | (simp [*]; done)), (by first | rfl | (simp; done) | (simp [*]; done)), H', ⟨Nat.le_refl _⟩, by repeat (first | exact Drawn0.refl _ | apply Drawn0.step)⟩
  case round =>
    clear H'
    obtain ⟨x3_1, x4_1, rfl, rfl, HA, HK1, ⟨m1, rfl⟩⟩ := hrel
    cases gk with
    | zero => exact absurd HA.out (by simp [lodgerref01_Pow.l0])
    | succ k1 =>
      have H := HA.out
      clear HA
      simp only [lodgerref01_Pow.l0] at H
      by_cases c2 : x4_1 < a0
      · rw [if_pos c2] at H
        have c2b0 : decide (x4_1 < a0) = true := decide_eq_true c2
        clear c2
        have H' := Aside0.mk H
        clear H
        go_wp2
        go_roundg k1
        case measure => have := HK1.out; omega
        case rel => exact ⟨(IntKind.u64.wrap (x3_1 * 2)), (wrap64 (x4_1 + 1)), (by first | rfl | (simp; done) | (simp [*]; done)), (by first | rfl | (simp; done) | (simp [*]; done)), H', ⟨by have := HK1.out; omega⟩, by repeat (first | exact Drawn0.refl _ | apply Drawn0.step)⟩
      · rw [if_neg c2] at H
        have c2b0 : decide (x4_1 < a0) = false := decide_eq_false c2
        clear c2
        obtain rfl := Option.some.inj H
        go_wp2
        go_ret
        exact ⟨by first | rfl | (simp; done) | (simp [*]; done), by repeat (first | exact Drawn0.refl _ | apply Drawn0.step)⟩

/-! ### lodgerref01_Has: function 12 -/
def lodgerref01_Has.f (k : Nat) (a0 : Int) (a1 : Int) : Option (Bool) := (lodgerref01_Pow.f k a1).bind fun t174 => (if t174 = 0 then (none) else (some ((Int.tmod (IntKind.u64.wrap (Int.tdiv a0 t174)) 2) == 1)))
theorem lodgerref01_Has.mono : ∀ a0 a1 k, LeO (lodgerref01_Has.f k a0 a1) (lodgerref01_Has.f (k + 1) a0 a1) := by
  intro a0 a1 k
  unfold lodgerref01_Has.f
  repeat' first
      | (with_reducible exact lodgerref01_Pow.mono _ _)
      | (with_reducible exact LeO.refl _)
      | (with_reducible exact LeO.none _)
      | (with_reducible refine LeO.ite ?_ ?_)
      | (with_reducible refine LeO.bind ?_ (fun _ => ?_))
      | exact lodgerref01_Pow.mono _ _
      | exact LeO.none _
      | refine LeO.ite ?_ ?_
      | refine LeO.bind ?_ (fun _ => ?_)
set_option maxHeartbeats 8000000 in
set_option maxRecDepth 100000 in
theorem lodgerref01_Has.calls (k : Nat) (a0 : Int) (a1 : Int) (r : Bool) (w : World) (h : lodgerref01_Has.f k a0 a1 = some r) :
    Calls Try.prog 12 #[.int .u64 a0, .int .i64 a1] w fun e w' => e = .returned (.bool r) ∧ Drawn0 w w' := by
  have H : ((lodgerref01_Pow.f k a1).bind fun t174 => (if t174 = 0 then (none) else (some ((Int.tmod (IntKind.u64.wrap (Int.tdiv a0 t174)) 2) == 1)))) = some r := h
  clear h
  replace H := Option.bind_eq_some_iff.mp H
  obtain ⟨t174, A30, H⟩ := H
  replace H : (if t174 = 0 then (none) else (some ((Int.tmod (IntKind.u64.wrap (Int.tdiv a0 t174)) 2) == 1))) = some r := H
  have A3 := Aside0.mk A30
  clear A30
  by_cases c4 : t174 = 0
  · rw [if_pos c4] at H
    exact absurd H (by simp)
  · rw [if_neg c4] at H
    have c4b0 : (t174 == 0) = false := beq_eq_false_iff_ne.mpr c4
    have c4b1 : (t174 != 0) = true := bne_iff_ne.mpr c4
    obtain rfl := Option.some.inj H
    go_enter Try.func12, Try.ntmps12
    go_wp2_with (first | ((with_reducible refine gate_callee (f := 34) rfl ?_); refine goesL_ (some 7) rfl rfl Try.func34 (by kernel_rfl) rfl #[.int .i64 a1] rfl (by (try simp only [List.map_toArray, List.map_cons, List.map_nil]); first | done | rfl | (simp only [List.length_drop, List.length_take]; rfl)) ?_; (with_reducible refine (lodgerref01_Pow.calls k a1 t174 _ A3.out).mono ?_); rintro e w' ⟨rfl, ⟨nd, rfl⟩⟩; refine ⟨_, rfl, ?_⟩) | (go_at_call 34; (with_reducible refine (lodgerref01_Pow.calls k a1 t174 _ A3.out).mono ?_); rintro e w' ⟨rfl, ⟨nd, rfl⟩⟩))
    go_ret
    exact ⟨by first | rfl | (simp; done) | (simp [*]; done), by repeat (first | exact Drawn0.refl _ | apply Drawn0.step)⟩

/-! ### lodgerref01_First: function 32 -/
def lodgerref01_First.l0 : Nat → Int → Int → Int → Option (Int × Bool)
  | 0, _, _, _ => none
  | k + 1, x0, x1, x6 => if x6 < x1 then ((lodgerref01_Has.f k x0 x6).bind fun t175 => (if t175 = true then (lodgerref01_First.l0 k x0 x1 (wrap64 (x6 + 1))) else (some (x6, true)))) else (some (0, false))
def lodgerref01_First.f (k : Nat) (a0 : Int) (a1 : Int) : Option (Int × Bool) := lodgerref01_First.l0 k a0 a1 0
theorem lodgerref01_First.mono_l : ∀ k, (∀ y0 y1 y2, LeO (lodgerref01_First.l0 k y0 y1 y2) (lodgerref01_First.l0 (k + 1) y0 y1 y2))
  | 0 => fun _ _ _ r h => by simp [lodgerref01_First.l0] at h
  | k + 1 => by
    have ih0 := lodgerref01_First.mono_l k
    · intro y0 y1 y2
      unfold lodgerref01_First.l0
      repeat' first
      | (with_reducible exact ih0 _ _ _)
      | (with_reducible exact lodgerref01_Has.mono _ _ _)
      | (with_reducible exact LeO.refl _)
      | (with_reducible exact LeO.none _)
      | (with_reducible refine LeO.ite ?_ ?_)
      | (with_reducible refine LeO.bind ?_ (fun _ => ?_))
      | exact ih0 _ _ _
      | exact lodgerref01_Has.mono _ _ _
      | exact LeO.none _
      | refine LeO.ite ?_ ?_
      | refine LeO.bind ?_ (fun _ => ?_)
theorem lodgerref01_First.mono : ∀ a0 a1 k, LeO (lodgerref01_First.f k a0 a1) (lodgerref01_First.f (k + 1) a0 a1) := by
  intro a0 a1 k
  have ih0 := lodgerref01_First.mono_l k
  unfold lodgerref01_First.f
  repeat' first
      | (with_reducible exact ih0 _ _ _)
      | (with_reducible exact lodgerref01_Has.mono _ _ _)
      | (with_reducible exact LeO.refl _)
      | (with_reducible exact LeO.none _)
      | (with_reducible refine LeO.ite ?_ ?_)
      | (with_reducible refine LeO.bind ?_ (fun _ => ?_))
      | exact ih0 _ _ _
      | exact lodgerref01_Has.mono _ _ _
      | exact LeO.none _
      | refine LeO.ite ?_ ?_
      | refine LeO.bind ?_ (fun _ => ?_)
set_option maxHeartbeats 8000000 in
set_option maxRecDepth 100000 in
theorem lodgerref01_First.calls (k : Nat) (a0 : Int) (a1 : Int) (r1 : Int) (r2 : Bool) (w : World) (h : lodgerref01_First.f k a0 a1 = some (r1, r2)) :
    Calls Try.prog 32 #[.int .u64 a0, .int .i64 a1] w fun e w' => e = .returned (.tuple #[.int .i64 r1, .bool r2]) ∧ Drawn0 w w' := by
  have H : (lodgerref01_First.l0 k a0 a1 0) = some (r1, r2) := h
  clear h
  have H' := Aside0.mk H
  clear H
  go_enter Try.func32, Try.ntmps32
  go_wp2
  go_loopg [6] k (fun kq v6 w' => ∃ (x6_1 : Int), v6 = .int .i64 x6_1 ∧ Aside0 (lodgerref01_First.l0 kq a0 a1 x6_1 = some (r1, r2)) ∧ Aside0 (kq ≤ k) ∧ Drawn0 w w')
  case atStart => exact ⟨(0), (by first | rfl | (simp; done) | (simp [*]; done)), H', ⟨Nat.le_refl _⟩, by repeat (first | exact Drawn0.refl _ | apply Drawn0.step)⟩
  case round =>
    clear H'
    try clear p2
    obtain ⟨x6_1, rfl, HA, HK1, ⟨m1, rfl⟩⟩ := hrel
    cases gk with
    | zero => exact absurd HA.out (by simp [lodgerref01_First.l0])
    | succ k1 =>
      have H := HA.out
      clear HA
      simp only [lodgerref01_First.l0] at H
      by_cases c3 : x6_1 < a1
      · rw [if_pos c3] at H
        have c3b0 : decide (x6_1 < a1) = true := decide_eq_true c3
        clear c3
        replace H := Option.bind_eq_some_iff.mp H
        obtain ⟨t175, A40, H⟩ := H
        replace H : (if t175 = true then (lodgerref01_First.l0 k1 a0 a1 (wrap64 (x6_1 + 1))) else (some (x6_1, true))) = some (r1, r2) := H
        have A4 := Aside0.mk A40
        clear A40
        by_cases c5 : t175 = true
        · subst c5
          have H1 : (lodgerref01_First.l0 k1 a0 a1 (wrap64 (x6_1 + 1))) = some (r1, r2) := by rw [if_pos rfl] at H; exact H
          clear H
          have H := H1
          clear H1
          have H' := Aside0.mk H
          clear H
          go_wp2_with (first | ((with_reducible refine gate_callee (f := 12) rfl ?_); refine goesL_ (some 14) rfl rfl Try.func12 (by kernel_rfl) rfl #[.int .u64 a0, .int .i64 x6_1] rfl (by (try simp only [List.map_toArray, List.map_cons, List.map_nil]); first | done | rfl | (simp only [List.length_drop, List.length_take]; rfl)) ?_; (with_reducible refine (lodgerref01_Has.calls k1 a0 x6_1 true _ A4.out).mono ?_); rintro e w' ⟨rfl, ⟨nd, rfl⟩⟩; refine ⟨_, rfl, ?_⟩) | (go_at_call 12; (with_reducible refine (lodgerref01_Has.calls k1 a0 x6_1 true _ A4.out).mono ?_); rintro e w' ⟨rfl, ⟨nd, rfl⟩⟩))
          go_roundg k1
          case measure => have := HK1.out; omega
          case rel => exact ⟨(wrap64 (x6_1 + 1)), (by first | rfl | (simp; done) | (simp [*]; done)), H', ⟨by have := HK1.out; omega⟩, by repeat (first | exact Drawn0.refl _ | apply Drawn0.step)⟩
        · replace c5 := Bool.eq_false_iff.mpr c5
          subst c5
          have H1 : (some (x6_1, true)) = some (r1, r2) := by rw [if_neg (show ¬ (false = true) by decide)] at H; exact H
          clear H
          have H := H1
          clear H1
          simp only [Option.some.injEq, Prod.mk.injEq] at H
          obtain ⟨rfl, rfl⟩ := H
          go_wp2_with (first | ((with_reducible refine gate_callee (f := 12) rfl ?_); refine goesL_ (some 14) rfl rfl Try.func12 (by kernel_rfl) rfl #[.int .u64 a0, .int .i64 x6_1] rfl (by (try simp only [List.map_toArray, List.map_cons, List.map_nil]); first | done | rfl | (simp only [List.length_drop, List.length_take]; rfl)) ?_; (with_reducible refine (lodgerref01_Has.calls k1 a0 x6_1 false _ A4.out).mono ?_); rintro e w' ⟨rfl, ⟨nd, rfl⟩⟩; refine ⟨_, rfl, ?_⟩) | (go_at_call 12; (with_reducible refine (lodgerref01_Has.calls k1 a0 x6_1 false _ A4.out).mono ?_); rintro e w' ⟨rfl, ⟨nd, rfl⟩⟩))
          go_ret2
          exact ⟨by first | rfl | (simp; done) | (simp [*]; done), by repeat (first | exact Drawn0.refl _ | apply Drawn0.step)⟩
      · rw [if_neg c3] at H
        have c3b0 : decide (x6_1 < a1) = false := decide_eq_false c3
        clear c3
        simp only [Option.some.injEq, Prod.mk.injEq] at H
        obtain ⟨rfl, rfl⟩ := H
        go_wp2
        go_ret2
        exact ⟨by first | rfl | (simp; done) | (simp [*]; done), by repeat (first | exact Drawn0.refl _ | apply Drawn0.step)⟩

/-! ### lodgerref07_First: function 10 -/
def lodgerref07_First.f (k : Nat) (a0 : Int) : Option (Int × Bool) := (lodgerref01_First.f k a0 32).bind fun bt176 => (some (bt176.1, bt176.2))
theorem lodgerref07_First.mono : ∀ a0 k, LeO (lodgerref07_First.f k a0) (lodgerref07_First.f (k + 1) a0) := by
  intro a0 k
  unfold lodgerref07_First.f
  repeat' first
      | (with_reducible exact lodgerref01_First.mono _ _ _)
      | (with_reducible exact LeO.refl _)
      | (with_reducible exact LeO.none _)
      | (with_reducible refine LeO.ite ?_ ?_)
      | (with_reducible refine LeO.bind ?_ (fun _ => ?_))
      | exact lodgerref01_First.mono _ _ _
      | exact LeO.none _
      | refine LeO.ite ?_ ?_
      | refine LeO.bind ?_ (fun _ => ?_)
set_option maxHeartbeats 8000000 in
set_option maxRecDepth 100000 in
theorem lodgerref07_First.calls (k : Nat) (a0 : Int) (r1 : Int) (r2 : Bool) (w : World) (h : lodgerref07_First.f k a0 = some (r1, r2)) :
    Calls Try.prog 10 #[.int .u64 a0] w fun e w' => e = .returned (.tuple #[.int .i64 r1, .bool r2]) ∧ Drawn0 w w' := by
  have H : ((lodgerref01_First.f k a0 32).bind fun bt176 => (some (bt176.1, bt176.2))) = some (r1, r2) := h
  clear h
  replace H := Option.bind_eq_some_iff.mp H
  obtain ⟨⟨t176, t177⟩, A20, H⟩ := H
  replace H : (some (t176, t177)) = some (r1, r2) := H
  have A2 := Aside0.mk A20
  clear A20
  simp only [Option.some.injEq, Prod.mk.injEq] at H
  obtain ⟨rfl, rfl⟩ := H
  go_enter Try.func10, Try.ntmps10
  go_wp2_with (first | ((with_reducible refine gate_callee (f := 32) rfl ?_); refine goesL_ (some 5) rfl rfl Try.func32 (by kernel_rfl) rfl #[.int .u64 a0, .int .i64 32] rfl (by (try simp only [List.map_toArray, List.map_cons, List.map_nil]); first | done | rfl | (simp only [List.length_drop, List.length_take]; rfl)) ?_; (with_reducible refine (lodgerref01_First.calls k a0 32 t176 t177 _ A2.out).mono ?_); rintro e w' ⟨rfl, ⟨nd, rfl⟩⟩; refine ⟨_, rfl, ?_⟩) | (go_at_call 32; (with_reducible refine (lodgerref01_First.calls k a0 32 t176 t177 _ A2.out).mono ?_); rintro e w' ⟨rfl, ⟨nd, rfl⟩⟩))
  go_ret2
  exact ⟨by first | rfl | (simp; done) | (simp [*]; done), by repeat (first | exact Drawn0.refl _ | apply Drawn0.step)⟩

/-! ### lodgerref01_Set: function 37 -/
def lodgerref01_Set.f (k : Nat) (a0 : Int) (a1 : Int) : Option (Int) := (lodgerref01_Has.f k a0 a1).bind fun t178 => (if t178 = true then (some a0) else ((lodgerref01_Pow.f k a1).bind fun t179 => (some (IntKind.u64.wrap (a0 + t179)))))
theorem lodgerref01_Set.mono : ∀ a0 a1 k, LeO (lodgerref01_Set.f k a0 a1) (lodgerref01_Set.f (k + 1) a0 a1) := by
  intro a0 a1 k
  unfold lodgerref01_Set.f
  repeat' first
      | (with_reducible exact lodgerref01_Has.mono _ _ _)
      | (with_reducible exact lodgerref01_Pow.mono _ _)
      | (with_reducible exact LeO.refl _)
      | (with_reducible exact LeO.none _)
      | (with_reducible refine LeO.ite ?_ ?_)
      | (with_reducible refine LeO.bind ?_ (fun _ => ?_))
      | exact lodgerref01_Has.mono _ _ _
      | exact lodgerref01_Pow.mono _ _
      | exact LeO.none _
      | refine LeO.ite ?_ ?_
      | refine LeO.bind ?_ (fun _ => ?_)
set_option maxHeartbeats 8000000 in
set_option maxRecDepth 100000 in
theorem lodgerref01_Set.calls (k : Nat) (a0 : Int) (a1 : Int) (r : Int) (w : World) (h : lodgerref01_Set.f k a0 a1 = some r) :
    Calls Try.prog 37 #[.int .u64 a0, .int .i64 a1] w fun e w' => e = .returned (.int .u64 r) ∧ Drawn0 w w' := by
  have H : ((lodgerref01_Has.f k a0 a1).bind fun t178 => (if t178 = true then (some a0) else ((lodgerref01_Pow.f k a1).bind fun t179 => (some (IntKind.u64.wrap (a0 + t179)))))) = some r := h
  clear h
  replace H := Option.bind_eq_some_iff.mp H
  obtain ⟨t178, A30, H⟩ := H
  replace H : (if t178 = true then (some a0) else ((lodgerref01_Pow.f k a1).bind fun t179 => (some (IntKind.u64.wrap (a0 + t179))))) = some r := H
  have A3 := Aside0.mk A30
  clear A30
  by_cases c4 : t178 = true
  · subst c4
    have H1 : (some a0) = some r := by rw [if_pos rfl] at H; exact H
    clear H
    have H := H1
    clear H1
    obtain rfl := Option.some.inj H
    go_enter Try.func37, Try.ntmps37
    go_wp2_with (first | ((with_reducible refine gate_callee (f := 12) rfl ?_); refine goesL_ (some 7) rfl rfl Try.func12 (by kernel_rfl) rfl #[.int .u64 a0, .int .i64 a1] rfl (by (try simp only [List.map_toArray, List.map_cons, List.map_nil]); first | done | rfl | (simp only [List.length_drop, List.length_take]; rfl)) ?_; (with_reducible refine (lodgerref01_Has.calls k a0 a1 true _ A3.out).mono ?_); rintro e w' ⟨rfl, ⟨nd, rfl⟩⟩; refine ⟨_, rfl, ?_⟩) | (go_at_call 12; (with_reducible refine (lodgerref01_Has.calls k a0 a1 true _ A3.out).mono ?_); rintro e w' ⟨rfl, ⟨nd, rfl⟩⟩))
    go_ret
    exact ⟨by first | rfl | (simp; done) | (simp [*]; done), by repeat (first | exact Drawn0.refl _ | apply Drawn0.step)⟩
  · replace c4 := Bool.eq_false_iff.mpr c4
    subst c4
    have H1 : ((lodgerref01_Pow.f k a1).bind fun t179 => (some (IntKind.u64.wrap (a0 + t179)))) = some r := by rw [if_neg (show ¬ (false = true) by decide)] at H; exact H
    clear H
    have H := H1
    clear H1
    replace H := Option.bind_eq_some_iff.mp H
    obtain ⟨t179, A50, H⟩ := H
    replace H : (some (IntKind.u64.wrap (a0 + t179))) = some r := H
    have A5 := Aside0.mk A50
    clear A50
    obtain rfl := Option.some.inj H
    go_enter Try.func37, Try.ntmps37
    go_wp2_with (first | ((with_reducible refine gate_callee (f := 12) rfl ?_); refine goesL_ (some 7) rfl rfl Try.func12 (by kernel_rfl) rfl #[.int .u64 a0, .int .i64 a1] rfl (by (try simp only [List.map_toArray, List.map_cons, List.map_nil]); first | done | rfl | (simp only [List.length_drop, List.length_take]; rfl)) ?_; (with_reducible refine (lodgerref01_Has.calls k a0 a1 false _ A3.out).mono ?_); rintro e w' ⟨rfl, ⟨nd, rfl⟩⟩; refine ⟨_, rfl, ?_⟩) | ((with_reducible refine gate_callee (f := 34) rfl ?_); refine goesL_ (some 11) rfl rfl Try.func34 (by kernel_rfl) rfl #[.int .i64 a1] rfl (by (try simp only [List.map_toArray, List.map_cons, List.map_nil]); first | done | rfl | (simp only [List.length_drop, List.length_take]; rfl)) ?_; (with_reducible refine (lodgerref01_Pow.calls k a1 t179 _ A5.out).mono ?_); rintro e w' ⟨rfl, ⟨nd, rfl⟩⟩; refine ⟨_, rfl, ?_⟩) | (go_at_call 12; (with_reducible refine (lodgerref01_Has.calls k a0 a1 false _ A3.out).mono ?_); rintro e w' ⟨rfl, ⟨nd, rfl⟩⟩) | (go_at_call 34; (with_reducible refine (lodgerref01_Pow.calls k a1 t179 _ A5.out).mono ?_); rintro e w' ⟨rfl, ⟨nd, rfl⟩⟩))
    go_ret
    exact ⟨by first | rfl | (simp; done) | (simp [*]; done), by repeat (first | exact Drawn0.refl _ | apply Drawn0.step)⟩

/-! ### lodgerref07_Claim: function 15 -/
def lodgerref07_Claim.f (k : Nat) (a0 : Int) (a1 : Int) : Option (Int) := (lodgerref01_Set.f k a0 a1).bind fun t180 => (some (IntKind.u64.wrap (t180 + 4294967296)))
theorem lodgerref07_Claim.mono : ∀ a0 a1 k, LeO (lodgerref07_Claim.f k a0 a1) (lodgerref07_Claim.f (k + 1) a0 a1) := by
  intro a0 a1 k
  unfold lodgerref07_Claim.f
  repeat' first
      | (with_reducible exact lodgerref01_Set.mono _ _ _)
      | (with_reducible exact LeO.refl _)
      | (with_reducible exact LeO.none _)
      | (with_reducible refine LeO.ite ?_ ?_)
      | (with_reducible refine LeO.bind ?_ (fun _ => ?_))
      | exact lodgerref01_Set.mono _ _ _
      | exact LeO.none _
      | refine LeO.ite ?_ ?_
      | refine LeO.bind ?_ (fun _ => ?_)
set_option maxHeartbeats 8000000 in
set_option maxRecDepth 100000 in
theorem lodgerref07_Claim.calls (k : Nat) (a0 : Int) (a1 : Int) (r : Int) (w : World) (h : lodgerref07_Claim.f k a0 a1 = some r) :
    Calls Try.prog 15 #[.int .u64 a0, .int .i64 a1] w fun e w' => e = .returned (.int .u64 r) ∧ Drawn0 w w' := by
  have H : ((lodgerref01_Set.f k a0 a1).bind fun t180 => (some (IntKind.u64.wrap (t180 + 4294967296)))) = some r := h
  clear h
  replace H := Option.bind_eq_some_iff.mp H
  obtain ⟨t180, A30, H⟩ := H
  replace H : (some (IntKind.u64.wrap (t180 + 4294967296))) = some r := H
  have A3 := Aside0.mk A30
  clear A30
  obtain rfl := Option.some.inj H
  go_enter Try.func15, Try.ntmps15
  go_wp2_with (first | ((with_reducible refine gate_callee (f := 37) rfl ?_); refine goesL_ (some 7) rfl rfl Try.func37 (by kernel_rfl) rfl #[.int .u64 a0, .int .i64 a1] rfl (by (try simp only [List.map_toArray, List.map_cons, List.map_nil]); first | done | rfl | (simp only [List.length_drop, List.length_take]; rfl)) ?_; (with_reducible refine (lodgerref01_Set.calls k a0 a1 t180 _ A3.out).mono ?_); rintro e w' ⟨rfl, ⟨nd, rfl⟩⟩; refine ⟨_, rfl, ?_⟩) | (go_at_call 37; (with_reducible refine (lodgerref01_Set.calls k a0 a1 t180 _ A3.out).mono ?_); rintro e w' ⟨rfl, ⟨nd, rfl⟩⟩))
  go_ret
  exact ⟨by first | rfl | (simp; done) | (simp [*]; done), by repeat (first | exact Drawn0.refl _ | apply Drawn0.step)⟩

/-! ### lodgerref01_Clear: function 39 -/
def lodgerref01_Clear.f (k : Nat) (a0 : Int) (a1 : Int) : Option (Int) := (lodgerref01_Has.f k a0 a1).bind fun t181 => (if t181 = true then ((lodgerref01_Pow.f k a1).bind fun t182 => (some (IntKind.u64.wrap (a0 - t182)))) else (some a0))
theorem lodgerref01_Clear.mono : ∀ a0 a1 k, LeO (lodgerref01_Clear.f k a0 a1) (lodgerref01_Clear.f (k + 1) a0 a1) := by
  intro a0 a1 k
  unfold lodgerref01_Clear.f
  repeat' first
      | (with_reducible exact lodgerref01_Has.mono _ _ _)
      | (with_reducible exact lodgerref01_Pow.mono _ _)
      | (with_reducible exact LeO.refl _)
      | (with_reducible exact LeO.none _)
      | (with_reducible refine LeO.ite ?_ ?_)
      | (with_reducible refine LeO.bind ?_ (fun _ => ?_))
      | exact lodgerref01_Has.mono _ _ _
      | exact lodgerref01_Pow.mono _ _
      | exact LeO.none _
      | refine LeO.ite ?_ ?_
      | refine LeO.bind ?_ (fun _ => ?_)
set_option maxHeartbeats 8000000 in
set_option maxRecDepth 100000 in
theorem lodgerref01_Clear.calls (k : Nat) (a0 : Int) (a1 : Int) (r : Int) (w : World) (h : lodgerref01_Clear.f k a0 a1 = some r) :
    Calls Try.prog 39 #[.int .u64 a0, .int .i64 a1] w fun e w' => e = .returned (.int .u64 r) ∧ Drawn0 w w' := by
  have H : ((lodgerref01_Has.f k a0 a1).bind fun t181 => (if t181 = true then ((lodgerref01_Pow.f k a1).bind fun t182 => (some (IntKind.u64.wrap (a0 - t182)))) else (some a0))) = some r := h
  clear h
  replace H := Option.bind_eq_some_iff.mp H
  obtain ⟨t181, A30, H⟩ := H
  replace H : (if t181 = true then ((lodgerref01_Pow.f k a1).bind fun t182 => (some (IntKind.u64.wrap (a0 - t182)))) else (some a0)) = some r := H
  have A3 := Aside0.mk A30
  clear A30
  by_cases c4 : t181 = true
  · subst c4
    have H1 : ((lodgerref01_Pow.f k a1).bind fun t182 => (some (IntKind.u64.wrap (a0 - t182)))) = some r := by rw [if_pos rfl] at H; exact H
    clear H
    have H := H1
    clear H1
    replace H := Option.bind_eq_some_iff.mp H
    obtain ⟨t182, A50, H⟩ := H
    replace H : (some (IntKind.u64.wrap (a0 - t182))) = some r := H
    have A5 := Aside0.mk A50
    clear A50
    obtain rfl := Option.some.inj H
    go_enter Try.func39, Try.ntmps39
    go_wp2_with (first | ((with_reducible refine gate_callee (f := 12) rfl ?_); refine goesL_ (some 7) rfl rfl Try.func12 (by kernel_rfl) rfl #[.int .u64 a0, .int .i64 a1] rfl (by (try simp only [List.map_toArray, List.map_cons, List.map_nil]); first | done | rfl | (simp only [List.length_drop, List.length_take]; rfl)) ?_; (with_reducible refine (lodgerref01_Has.calls k a0 a1 true _ A3.out).mono ?_); rintro e w' ⟨rfl, ⟨nd, rfl⟩⟩; refine ⟨_, rfl, ?_⟩) | ((with_reducible refine gate_callee (f := 34) rfl ?_); refine goesL_ (some 10) rfl rfl Try.func34 (by kernel_rfl) rfl #[.int .i64 a1] rfl (by (try simp only [List.map_toArray, List.map_cons, List.map_nil]); first | done | rfl | (simp only [List.length_drop, List.length_take]; rfl)) ?_; (with_reducible refine (lodgerref01_Pow.calls k a1 t182 _ A5.out).mono ?_); rintro e w' ⟨rfl, ⟨nd, rfl⟩⟩; refine ⟨_, rfl, ?_⟩) | (go_at_call 12; (with_reducible refine (lodgerref01_Has.calls k a0 a1 true _ A3.out).mono ?_); rintro e w' ⟨rfl, ⟨nd, rfl⟩⟩) | (go_at_call 34; (with_reducible refine (lodgerref01_Pow.calls k a1 t182 _ A5.out).mono ?_); rintro e w' ⟨rfl, ⟨nd, rfl⟩⟩))
    go_ret
    exact ⟨by first | rfl | (simp; done) | (simp [*]; done), by repeat (first | exact Drawn0.refl _ | apply Drawn0.step)⟩
  · replace c4 := Bool.eq_false_iff.mpr c4
    subst c4
    have H1 : (some a0) = some r := by rw [if_neg (show ¬ (false = true) by decide)] at H; exact H
    clear H
    have H := H1
    clear H1
    obtain rfl := Option.some.inj H
    go_enter Try.func39, Try.ntmps39
    go_wp2_with (first | ((with_reducible refine gate_callee (f := 12) rfl ?_); refine goesL_ (some 7) rfl rfl Try.func12 (by kernel_rfl) rfl #[.int .u64 a0, .int .i64 a1] rfl (by (try simp only [List.map_toArray, List.map_cons, List.map_nil]); first | done | rfl | (simp only [List.length_drop, List.length_take]; rfl)) ?_; (with_reducible refine (lodgerref01_Has.calls k a0 a1 false _ A3.out).mono ?_); rintro e w' ⟨rfl, ⟨nd, rfl⟩⟩; refine ⟨_, rfl, ?_⟩) | (go_at_call 12; (with_reducible refine (lodgerref01_Has.calls k a0 a1 false _ A3.out).mono ?_); rintro e w' ⟨rfl, ⟨nd, rfl⟩⟩))
    go_ret
    exact ⟨by first | rfl | (simp; done) | (simp [*]; done), by repeat (first | exact Drawn0.refl _ | apply Drawn0.step)⟩

/-! ### lodgerref07_Drop: function 17 -/
def lodgerref07_Drop.f (k : Nat) (a0 : Int) (a1 : Int) : Option (Int) := (lodgerref01_Clear.f k a0 a1).bind fun t183 => (some (IntKind.u64.wrap (t183 + 4294967296)))
theorem lodgerref07_Drop.mono : ∀ a0 a1 k, LeO (lodgerref07_Drop.f k a0 a1) (lodgerref07_Drop.f (k + 1) a0 a1) := by
  intro a0 a1 k
  unfold lodgerref07_Drop.f
  repeat' first
      | (with_reducible exact lodgerref01_Clear.mono _ _ _)
      | (with_reducible exact LeO.refl _)
      | (with_reducible exact LeO.none _)
      | (with_reducible refine LeO.ite ?_ ?_)
      | (with_reducible refine LeO.bind ?_ (fun _ => ?_))
      | exact lodgerref01_Clear.mono _ _ _
      | exact LeO.none _
      | refine LeO.ite ?_ ?_
      | refine LeO.bind ?_ (fun _ => ?_)
set_option maxHeartbeats 8000000 in
set_option maxRecDepth 100000 in
theorem lodgerref07_Drop.calls (k : Nat) (a0 : Int) (a1 : Int) (r : Int) (w : World) (h : lodgerref07_Drop.f k a0 a1 = some r) :
    Calls Try.prog 17 #[.int .u64 a0, .int .i64 a1] w fun e w' => e = .returned (.int .u64 r) ∧ Drawn0 w w' := by
  have H : ((lodgerref01_Clear.f k a0 a1).bind fun t183 => (some (IntKind.u64.wrap (t183 + 4294967296)))) = some r := h
  clear h
  replace H := Option.bind_eq_some_iff.mp H
  obtain ⟨t183, A30, H⟩ := H
  replace H : (some (IntKind.u64.wrap (t183 + 4294967296))) = some r := H
  have A3 := Aside0.mk A30
  clear A30
  obtain rfl := Option.some.inj H
  go_enter Try.func17, Try.ntmps17
  go_wp2_with (first | ((with_reducible refine gate_callee (f := 39) rfl ?_); refine goesL_ (some 7) rfl rfl Try.func39 (by kernel_rfl) rfl #[.int .u64 a0, .int .i64 a1] rfl (by (try simp only [List.map_toArray, List.map_cons, List.map_nil]); first | done | rfl | (simp only [List.length_drop, List.length_take]; rfl)) ?_; (with_reducible refine (lodgerref01_Clear.calls k a0 a1 t183 _ A3.out).mono ?_); rintro e w' ⟨rfl, ⟨nd, rfl⟩⟩; refine ⟨_, rfl, ?_⟩) | (go_at_call 39; (with_reducible refine (lodgerref01_Clear.calls k a0 a1 t183 _ A3.out).mono ?_); rintro e w' ⟨rfl, ⟨nd, rfl⟩⟩))
  go_ret
  exact ⟨by first | rfl | (simp; done) | (simp [*]; done), by repeat (first | exact Drawn0.refl _ | apply Drawn0.step)⟩

/-! ### lodgerref07_Full: function 19 -/
def lodgerref07_Full.f (a0 : Int) : Option (Bool) := some ((Int.tmod a0 4294967296) == 4294967295)
set_option maxHeartbeats 8000000 in
set_option maxRecDepth 100000 in
theorem lodgerref07_Full.calls (a0 : Int) (r : Bool) (w : World) (h : lodgerref07_Full.f a0 = some r) :
    Calls Try.prog 19 #[.int .u64 a0] w fun e w' => e = .returned (.bool r) ∧ Drawn0 w w' := by
  have H : (some ((Int.tmod a0 4294967296) == 4294967295)) = some r := h
  clear h
  obtain rfl := Option.some.inj H
  go_enter Try.func19, Try.ntmps19
  go_wp2
  go_ret
  exact ⟨by first | rfl | (simp; done) | (simp [*]; done), by repeat (first | exact Drawn0.refl _ | apply Drawn0.step)⟩

/-! ### lodgerlaw07_WordDoes: function 3 -/
def lodgerlaw07_WordDoes.f (k : Nat) (a0 : Int) (a1 : Int) : Option (Bool) := (lodgerlaw07_awake.f k).bind fun t184 => (if t184 = true then ((word_First.f k a0).bind fun bt185 => ((lodgerref07_First.f k a0).bind fun bt187 => ((word_Used.f a0 (wrap64 (Int.tmod a1 32))).bind fun t189 => ((lodgerref01_Has.f k a0 (wrap64 (Int.tmod a1 32))).bind fun t190 => (if (t189 == t190) = true then ((word_Changes.f a0).bind fun t191 => (if t191 = ((IntKind.u64.wrap (Int.tdiv a0 4294967296)) % 4294967296) then ((word_Claim.f a0 (wrap64 (Int.tmod a1 32))).bind fun t192 => ((lodgerref07_Claim.f k a0 (wrap64 (Int.tmod a1 32))).bind fun t193 => (if t192 = t193 then ((word_Drop.f a0 (wrap64 (Int.tmod a1 32))).bind fun t194 => ((lodgerref07_Drop.f k a0 (wrap64 (Int.tmod a1 32))).bind fun t195 => (if t194 = t195 then (if bt185.1 = bt187.1 then (if (bt185.2 == bt187.2) = true then ((word_Full.f k a0).bind fun t196 => ((lodgerref07_Full.f a0).bind fun t197 => (some (t196 == t197)))) else (some false)) else (some false)) else (some false)))) else (some false)))) else (some false))) else (some false)))))) else (some false))
theorem lodgerlaw07_WordDoes.mono : ∀ a0 a1 k, LeO (lodgerlaw07_WordDoes.f k a0 a1) (lodgerlaw07_WordDoes.f (k + 1) a0 a1) := by
  intro a0 a1 k
  unfold lodgerlaw07_WordDoes.f
  repeat' first
      | (with_reducible exact lodgerlaw07_awake.mono _)
      | (with_reducible exact lodgerref01_Has.mono _ _ _)
      | (with_reducible exact lodgerref07_Claim.mono _ _ _)
      | (with_reducible exact lodgerref07_Drop.mono _ _ _)
      | (with_reducible exact lodgerref07_First.mono _ _)
      | (with_reducible exact word_First.mono _ _)
      | (with_reducible exact word_Full.mono _ _)
      | (with_reducible exact LeO.refl _)
      | (with_reducible exact LeO.none _)
      | (with_reducible refine LeO.ite ?_ ?_)
      | (with_reducible refine LeO.bind ?_ (fun _ => ?_))
      | exact lodgerlaw07_awake.mono _
      | exact lodgerref01_Has.mono _ _ _
      | exact lodgerref07_Claim.mono _ _ _
      | exact lodgerref07_Drop.mono _ _ _
      | exact lodgerref07_First.mono _ _
      | exact word_First.mono _ _
      | exact word_Full.mono _ _
      | exact LeO.none _
      | refine LeO.ite ?_ ?_
      | refine LeO.bind ?_ (fun _ => ?_)
set_option maxHeartbeats 8000000 in
set_option maxRecDepth 100000 in
theorem lodgerlaw07_WordDoes.calls (k : Nat) (a0 : Int) (a1 : Int) (r : Bool) (w : World) (hr_ : r = true) (h : lodgerlaw07_WordDoes.f k a0 a1 = some r) :
    Calls Try.prog 3 #[.int .u64 a0, .int .u8 a1] w fun e w' => e = .returned (.bool r) ∧ Below w.heap.size w w' := by
  have HB := Aside0.mk (Below.refl w.heap.size w)
  replace hr_ := Aside0.mk hr_
  have H : ((lodgerlaw07_awake.f k).bind fun t184 => (if t184 = true then ((word_First.f k a0).bind fun bt185 => ((lodgerref07_First.f k a0).bind fun bt187 => ((word_Used.f a0 (wrap64 (Int.tmod a1 32))).bind fun t189 => ((lodgerref01_Has.f k a0 (wrap64 (Int.tmod a1 32))).bind fun t190 => (if (t189 == t190) = true then ((word_Changes.f a0).bind fun t191 => (if t191 = ((IntKind.u64.wrap (Int.tdiv a0 4294967296)) % 4294967296) then ((word_Claim.f a0 (wrap64 (Int.tmod a1 32))).bind fun t192 => ((lodgerref07_Claim.f k a0 (wrap64 (Int.tmod a1 32))).bind fun t193 => (if t192 = t193 then ((word_Drop.f a0 (wrap64 (Int.tmod a1 32))).bind fun t194 => ((lodgerref07_Drop.f k a0 (wrap64 (Int.tmod a1 32))).bind fun t195 => (if t194 = t195 then (if bt185.1 = bt187.1 then (if (bt185.2 == bt187.2) = true then ((word_Full.f k a0).bind fun t196 => ((lodgerref07_Full.f a0).bind fun t197 => (some (t196 == t197)))) else (some false)) else (some false)) else (some false)))) else (some false)))) else (some false))) else (some false)))))) else (some false))) = some r := h
  clear h
  replace H := Option.bind_eq_some_iff.mp H
  obtain ⟨t184, A30, H⟩ := H
  replace H : (if t184 = true then ((word_First.f k a0).bind fun bt185 => ((lodgerref07_First.f k a0).bind fun bt187 => ((word_Used.f a0 (wrap64 (Int.tmod a1 32))).bind fun t189 => ((lodgerref01_Has.f k a0 (wrap64 (Int.tmod a1 32))).bind fun t190 => (if (t189 == t190) = true then ((word_Changes.f a0).bind fun t191 => (if t191 = ((IntKind.u64.wrap (Int.tdiv a0 4294967296)) % 4294967296) then ((word_Claim.f a0 (wrap64 (Int.tmod a1 32))).bind fun t192 => ((lodgerref07_Claim.f k a0 (wrap64 (Int.tmod a1 32))).bind fun t193 => (if t192 = t193 then ((word_Drop.f a0 (wrap64 (Int.tmod a1 32))).bind fun t194 => ((lodgerref07_Drop.f k a0 (wrap64 (Int.tmod a1 32))).bind fun t195 => (if t194 = t195 then (if bt185.1 = bt187.1 then (if (bt185.2 == bt187.2) = true then ((word_Full.f k a0).bind fun t196 => ((lodgerref07_Full.f a0).bind fun t197 => (some (t196 == t197)))) else (some false)) else (some false)) else (some false)))) else (some false)))) else (some false))) else (some false)))))) else (some false)) = some r := H
  have A3 := Aside0.mk A30
  clear A30
  by_cases c4 : t184 = true
  · subst c4
    have H1 : ((word_First.f k a0).bind fun bt185 => ((lodgerref07_First.f k a0).bind fun bt187 => ((word_Used.f a0 (wrap64 (Int.tmod a1 32))).bind fun t189 => ((lodgerref01_Has.f k a0 (wrap64 (Int.tmod a1 32))).bind fun t190 => (if (t189 == t190) = true then ((word_Changes.f a0).bind fun t191 => (if t191 = ((IntKind.u64.wrap (Int.tdiv a0 4294967296)) % 4294967296) then ((word_Claim.f a0 (wrap64 (Int.tmod a1 32))).bind fun t192 => ((lodgerref07_Claim.f k a0 (wrap64 (Int.tmod a1 32))).bind fun t193 => (if t192 = t193 then ((word_Drop.f a0 (wrap64 (Int.tmod a1 32))).bind fun t194 => ((lodgerref07_Drop.f k a0 (wrap64 (Int.tmod a1 32))).bind fun t195 => (if t194 = t195 then (if bt185.1 = bt187.1 then (if (bt185.2 == bt187.2) = true then ((word_Full.f k a0).bind fun t196 => ((lodgerref07_Full.f a0).bind fun t197 => (some (t196 == t197)))) else (some false)) else (some false)) else (some false)))) else (some false)))) else (some false))) else (some false)))))) = some r := by rw [if_pos rfl] at H; exact H
    clear H
    have H := H1
    clear H1
    replace H := Option.bind_eq_some_iff.mp H
    obtain ⟨⟨t185, t186⟩, A50, H⟩ := H
    replace H : ((lodgerref07_First.f k a0).bind fun bt187 => ((word_Used.f a0 (wrap64 (Int.tmod a1 32))).bind fun t189 => ((lodgerref01_Has.f k a0 (wrap64 (Int.tmod a1 32))).bind fun t190 => (if (t189 == t190) = true then ((word_Changes.f a0).bind fun t191 => (if t191 = ((IntKind.u64.wrap (Int.tdiv a0 4294967296)) % 4294967296) then ((word_Claim.f a0 (wrap64 (Int.tmod a1 32))).bind fun t192 => ((lodgerref07_Claim.f k a0 (wrap64 (Int.tmod a1 32))).bind fun t193 => (if t192 = t193 then ((word_Drop.f a0 (wrap64 (Int.tmod a1 32))).bind fun t194 => ((lodgerref07_Drop.f k a0 (wrap64 (Int.tmod a1 32))).bind fun t195 => (if t194 = t195 then (if t185 = bt187.1 then (if (t186 == bt187.2) = true then ((word_Full.f k a0).bind fun t196 => ((lodgerref07_Full.f a0).bind fun t197 => (some (t196 == t197)))) else (some false)) else (some false)) else (some false)))) else (some false)))) else (some false))) else (some false))))) = some r := H
    have A5 := Aside0.mk A50
    clear A50
    replace H := Option.bind_eq_some_iff.mp H
    obtain ⟨⟨t187, t188⟩, A60, H⟩ := H
    replace H : ((word_Used.f a0 (wrap64 (Int.tmod a1 32))).bind fun t189 => ((lodgerref01_Has.f k a0 (wrap64 (Int.tmod a1 32))).bind fun t190 => (if (t189 == t190) = true then ((word_Changes.f a0).bind fun t191 => (if t191 = ((IntKind.u64.wrap (Int.tdiv a0 4294967296)) % 4294967296) then ((word_Claim.f a0 (wrap64 (Int.tmod a1 32))).bind fun t192 => ((lodgerref07_Claim.f k a0 (wrap64 (Int.tmod a1 32))).bind fun t193 => (if t192 = t193 then ((word_Drop.f a0 (wrap64 (Int.tmod a1 32))).bind fun t194 => ((lodgerref07_Drop.f k a0 (wrap64 (Int.tmod a1 32))).bind fun t195 => (if t194 = t195 then (if t185 = t187 then (if (t186 == t188) = true then ((word_Full.f k a0).bind fun t196 => ((lodgerref07_Full.f a0).bind fun t197 => (some (t196 == t197)))) else (some false)) else (some false)) else (some false)))) else (some false)))) else (some false))) else (some false)))) = some r := H
    have A6 := Aside0.mk A60
    clear A60
    replace H := Option.bind_eq_some_iff.mp H
    obtain ⟨t189, A70, H⟩ := H
    replace H : ((lodgerref01_Has.f k a0 (wrap64 (Int.tmod a1 32))).bind fun t190 => (if (t189 == t190) = true then ((word_Changes.f a0).bind fun t191 => (if t191 = ((IntKind.u64.wrap (Int.tdiv a0 4294967296)) % 4294967296) then ((word_Claim.f a0 (wrap64 (Int.tmod a1 32))).bind fun t192 => ((lodgerref07_Claim.f k a0 (wrap64 (Int.tmod a1 32))).bind fun t193 => (if t192 = t193 then ((word_Drop.f a0 (wrap64 (Int.tmod a1 32))).bind fun t194 => ((lodgerref07_Drop.f k a0 (wrap64 (Int.tmod a1 32))).bind fun t195 => (if t194 = t195 then (if t185 = t187 then (if (t186 == t188) = true then ((word_Full.f k a0).bind fun t196 => ((lodgerref07_Full.f a0).bind fun t197 => (some (t196 == t197)))) else (some false)) else (some false)) else (some false)))) else (some false)))) else (some false))) else (some false))) = some r := H
    have A7 := Aside0.mk A70
    clear A70
    replace H := Option.bind_eq_some_iff.mp H
    obtain ⟨t190, A80, H⟩ := H
    replace H : (if (t189 == t190) = true then ((word_Changes.f a0).bind fun t191 => (if t191 = ((IntKind.u64.wrap (Int.tdiv a0 4294967296)) % 4294967296) then ((word_Claim.f a0 (wrap64 (Int.tmod a1 32))).bind fun t192 => ((lodgerref07_Claim.f k a0 (wrap64 (Int.tmod a1 32))).bind fun t193 => (if t192 = t193 then ((word_Drop.f a0 (wrap64 (Int.tmod a1 32))).bind fun t194 => ((lodgerref07_Drop.f k a0 (wrap64 (Int.tmod a1 32))).bind fun t195 => (if t194 = t195 then (if t185 = t187 then (if (t186 == t188) = true then ((word_Full.f k a0).bind fun t196 => ((lodgerref07_Full.f a0).bind fun t197 => (some (t196 == t197)))) else (some false)) else (some false)) else (some false)))) else (some false)))) else (some false))) else (some false)) = some r := H
    have A8 := Aside0.mk A80
    clear A80
    by_cases c9 : (t189 == t190) = true
    · rw [if_pos c9] at H
      have c9b0 : (t189 == t190) = true := c9
      (try (have c9b1 : decide (t189 = t190) = true := by simpa using c9))
      (try (have c9b2 : (t189 == t190) = true := by simpa using c9))
      clear c9
      replace H := Option.bind_eq_some_iff.mp H
      obtain ⟨t191, A100, H⟩ := H
      replace H : (if t191 = ((IntKind.u64.wrap (Int.tdiv a0 4294967296)) % 4294967296) then ((word_Claim.f a0 (wrap64 (Int.tmod a1 32))).bind fun t192 => ((lodgerref07_Claim.f k a0 (wrap64 (Int.tmod a1 32))).bind fun t193 => (if t192 = t193 then ((word_Drop.f a0 (wrap64 (Int.tmod a1 32))).bind fun t194 => ((lodgerref07_Drop.f k a0 (wrap64 (Int.tmod a1 32))).bind fun t195 => (if t194 = t195 then (if t185 = t187 then (if (t186 == t188) = true then ((word_Full.f k a0).bind fun t196 => ((lodgerref07_Full.f a0).bind fun t197 => (some (t196 == t197)))) else (some false)) else (some false)) else (some false)))) else (some false)))) else (some false)) = some r := H
      have A10 := Aside0.mk A100
      clear A100
      by_cases c11 : t191 = ((IntKind.u64.wrap (Int.tdiv a0 4294967296)) % 4294967296)
      · rw [if_pos c11] at H
        have c11b0 : (t191 == ((IntKind.u64.wrap (Int.tdiv a0 4294967296)) % 4294967296)) = true := beq_iff_eq.mpr c11
        have c11b1 : (t191 != ((IntKind.u64.wrap (Int.tdiv a0 4294967296)) % 4294967296)) = false := bne_eq_false_iff_eq.mpr c11
        clear c11
        replace H := Option.bind_eq_some_iff.mp H
        obtain ⟨t192, A120, H⟩ := H
        replace H : ((lodgerref07_Claim.f k a0 (wrap64 (Int.tmod a1 32))).bind fun t193 => (if t192 = t193 then ((word_Drop.f a0 (wrap64 (Int.tmod a1 32))).bind fun t194 => ((lodgerref07_Drop.f k a0 (wrap64 (Int.tmod a1 32))).bind fun t195 => (if t194 = t195 then (if t185 = t187 then (if (t186 == t188) = true then ((word_Full.f k a0).bind fun t196 => ((lodgerref07_Full.f a0).bind fun t197 => (some (t196 == t197)))) else (some false)) else (some false)) else (some false)))) else (some false))) = some r := H
        have A12 := Aside0.mk A120
        clear A120
        replace H := Option.bind_eq_some_iff.mp H
        obtain ⟨t193, A130, H⟩ := H
        replace H : (if t192 = t193 then ((word_Drop.f a0 (wrap64 (Int.tmod a1 32))).bind fun t194 => ((lodgerref07_Drop.f k a0 (wrap64 (Int.tmod a1 32))).bind fun t195 => (if t194 = t195 then (if t185 = t187 then (if (t186 == t188) = true then ((word_Full.f k a0).bind fun t196 => ((lodgerref07_Full.f a0).bind fun t197 => (some (t196 == t197)))) else (some false)) else (some false)) else (some false)))) else (some false)) = some r := H
        have A13 := Aside0.mk A130
        clear A130
        by_cases c14 : t192 = t193
        · rw [if_pos c14] at H
          have c14b0 : (t192 == t193) = true := beq_iff_eq.mpr c14
          have c14b1 : (t192 != t193) = false := bne_eq_false_iff_eq.mpr c14
          clear c14
          replace H := Option.bind_eq_some_iff.mp H
          obtain ⟨t194, A150, H⟩ := H
          replace H : ((lodgerref07_Drop.f k a0 (wrap64 (Int.tmod a1 32))).bind fun t195 => (if t194 = t195 then (if t185 = t187 then (if (t186 == t188) = true then ((word_Full.f k a0).bind fun t196 => ((lodgerref07_Full.f a0).bind fun t197 => (some (t196 == t197)))) else (some false)) else (some false)) else (some false))) = some r := H
          have A15 := Aside0.mk A150
          clear A150
          replace H := Option.bind_eq_some_iff.mp H
          obtain ⟨t195, A160, H⟩ := H
          replace H : (if t194 = t195 then (if t185 = t187 then (if (t186 == t188) = true then ((word_Full.f k a0).bind fun t196 => ((lodgerref07_Full.f a0).bind fun t197 => (some (t196 == t197)))) else (some false)) else (some false)) else (some false)) = some r := H
          have A16 := Aside0.mk A160
          clear A160
          by_cases c17 : t194 = t195
          · rw [if_pos c17] at H
            have c17b0 : (t194 == t195) = true := beq_iff_eq.mpr c17
            have c17b1 : (t194 != t195) = false := bne_eq_false_iff_eq.mpr c17
            clear c17
            by_cases c18 : t185 = t187
            · rw [if_pos c18] at H
              have c18b0 : (t185 == t187) = true := beq_iff_eq.mpr c18
              have c18b1 : (t185 != t187) = false := bne_eq_false_iff_eq.mpr c18
              clear c18
              by_cases c19 : (t186 == t188) = true
              · rw [if_pos c19] at H
                have c19b0 : (t186 == t188) = true := c19
                (try (have c19b1 : decide (t186 = t188) = true := by simpa using c19))
                (try (have c19b2 : (t186 == t188) = true := by simpa using c19))
                clear c19
                replace H := Option.bind_eq_some_iff.mp H
                obtain ⟨t196, A200, H⟩ := H
                replace H : ((lodgerref07_Full.f a0).bind fun t197 => (some (t196 == t197))) = some r := H
                have A20 := Aside0.mk A200
                clear A200
                replace H := Option.bind_eq_some_iff.mp H
                obtain ⟨t197, A210, H⟩ := H
                replace H : (some (t196 == t197)) = some r := H
                have A21 := Aside0.mk A210
                clear A210
                first | (exfalso; rw [hr_.out] at H; exact absurd (Option.some.inj H) (by decide)) | (try clear hr_)
                all_goals
                  obtain rfl := Option.some.inj H
                  go_enter Try.func3, Try.ntmps3
                  go_wp2_with (first | ((with_reducible refine gate_callee (f := 8) rfl ?_); refine goesL_ (some 10) rfl rfl Try.func8 (by kernel_rfl) rfl #[] rfl (by (try simp only [List.map_toArray, List.map_cons, List.map_nil]); first | done | rfl | (simp only [List.length_drop, List.length_take]; rfl)) ?_; (with_reducible refine (lodgerlaw07_awake.calls k  true _ A3.out).mono ?_); rintro e w22 ⟨rfl, hb⟩; refine ⟨_, rfl, ?_⟩; have n0_ := Aside0.mk (below_step (by repeat (first | (with_reducible first | exact HB.out | apply below_alloc | apply pw_below_drewN | apply below_drew1) | exact HB.out)) hb); clear HB; have HB := n0_; clear n0_; (try clear hb); (try clear hb2); (try clear hk); (try clear hi)) | ((with_reducible refine gate_callee (f := 9) rfl ?_); refine goesL_ (some 17) rfl rfl Try.func9 (by kernel_rfl) rfl #[.int .u64 a0] rfl (by (try simp only [List.map_toArray, List.map_cons, List.map_nil]); first | done | rfl | (simp only [List.length_drop, List.length_take]; rfl)) ?_; (with_reducible refine (word_First.calls k a0 t185 t186 _ A5.out).mono ?_); rintro e w' ⟨rfl, ⟨nd, rfl⟩⟩; refine ⟨_, rfl, ?_⟩) | ((with_reducible refine gate_callee (f := 10) rfl ?_); refine goesL_ (some 22) rfl rfl Try.func10 (by kernel_rfl) rfl #[.int .u64 a0] rfl (by (try simp only [List.map_toArray, List.map_cons, List.map_nil]); first | done | rfl | (simp only [List.length_drop, List.length_take]; rfl)) ?_; (with_reducible refine (lodgerref07_First.calls k a0 t187 t188 _ A6.out).mono ?_); rintro e w' ⟨rfl, ⟨nd, rfl⟩⟩; refine ⟨_, rfl, ?_⟩) | ((with_reducible refine gate_callee (f := 11) rfl ?_); refine goesL_ (some 27) rfl rfl Try.func11 (by kernel_rfl) rfl #[.int .u64 a0, .int .i64 (wrap64 (Int.tmod a1 32))] rfl (by (try simp only [List.map_toArray, List.map_cons, List.map_nil]); first | done | rfl | (simp only [List.length_drop, List.length_take]; rfl)) ?_; (with_reducible refine (word_Used.calls a0 (wrap64 (Int.tmod a1 32)) t189 _ A7.out).mono ?_); rintro e w' ⟨rfl, ⟨nd, rfl⟩⟩; refine ⟨_, rfl, ?_⟩) | ((with_reducible refine gate_callee (f := 12) rfl ?_); refine goesL_ (some 30) rfl rfl Try.func12 (by kernel_rfl) rfl #[.int .u64 a0, .int .i64 (wrap64 (Int.tmod a1 32))] rfl (by (try simp only [List.map_toArray, List.map_cons, List.map_nil]); first | done | rfl | (simp only [List.length_drop, List.length_take]; rfl)) ?_; (with_reducible refine (lodgerref01_Has.calls k a0 (wrap64 (Int.tmod a1 32)) t190 _ A8.out).mono ?_); rintro e w' ⟨rfl, ⟨nd, rfl⟩⟩; refine ⟨_, rfl, ?_⟩) | (go_at_call 13; (with_reducible refine (word_Changes.calls a0 t191 _ A10.out).mono ?_); rintro e w' ⟨rfl, ⟨nd, rfl⟩⟩) | (go_at_call 14; (with_reducible refine (word_Claim.calls a0 (wrap64 (Int.tmod a1 32)) t192 _ A12.out).mono ?_); rintro e w' ⟨rfl, ⟨nd, rfl⟩⟩) | (go_at_call 15; (with_reducible refine (lodgerref07_Claim.calls k a0 (wrap64 (Int.tmod a1 32)) t193 _ A13.out).mono ?_); rintro e w' ⟨rfl, ⟨nd, rfl⟩⟩) | (go_at_call 16; (with_reducible refine (word_Drop.calls a0 (wrap64 (Int.tmod a1 32)) t194 _ A15.out).mono ?_); rintro e w' ⟨rfl, ⟨nd, rfl⟩⟩) | (go_at_call 17; (with_reducible refine (lodgerref07_Drop.calls k a0 (wrap64 (Int.tmod a1 32)) t195 _ A16.out).mono ?_); rintro e w' ⟨rfl, ⟨nd, rfl⟩⟩) | (go_at_call 18; (with_reducible refine (word_Full.calls k a0 t196 _ A20.out).mono ?_); rintro e w' ⟨rfl, ⟨nd, rfl⟩⟩) | (go_at_call 19; (with_reducible refine (lodgerref07_Full.calls a0 t197 _ A21.out).mono ?_); rintro e w' ⟨rfl, ⟨nd, rfl⟩⟩) | (go_at_call 8; (with_reducible refine (word_First.calls k a0 t185 t186 _ A5.out).mono ?_); rintro e w' ⟨rfl, ⟨nd, rfl⟩⟩) | (go_at_call 10; (with_reducible refine (lodgerref07_First.calls k a0 t187 t188 _ A6.out).mono ?_); rintro e w' ⟨rfl, ⟨nd, rfl⟩⟩) | (go_at_call 11; (with_reducible refine (word_Used.calls a0 (wrap64 (Int.tmod a1 32)) t189 _ A7.out).mono ?_); rintro e w' ⟨rfl, ⟨nd, rfl⟩⟩) | (go_at_call 12; (with_reducible refine (lodgerref01_Has.calls k a0 (wrap64 (Int.tmod a1 32)) t190 _ A8.out).mono ?_); rintro e w' ⟨rfl, ⟨nd, rfl⟩⟩))
                  go_ret
                  exact ⟨by first | rfl | (simp [errW_none, errW_some] <;> rfl) | (simp [*, errW_none, errW_some] <;> rfl), by repeat (first | (with_reducible first | exact HB.out | apply below_alloc | apply pw_below_drewN | apply below_drew1) | exact HB.out)⟩
              · rw [if_neg c19] at H
                rw [hr_.out] at H
                exact absurd (Option.some.inj H) (by decide)
            · rw [if_neg c18] at H
              rw [hr_.out] at H
              exact absurd (Option.some.inj H) (by decide)
          · rw [if_neg c17] at H
            rw [hr_.out] at H
            exact absurd (Option.some.inj H) (by decide)
        · rw [if_neg c14] at H
          rw [hr_.out] at H
          exact absurd (Option.some.inj H) (by decide)
      · rw [if_neg c11] at H
        rw [hr_.out] at H
        exact absurd (Option.some.inj H) (by decide)
    · rw [if_neg c9] at H
      rw [hr_.out] at H
      exact absurd (Option.some.inj H) (by decide)
  · replace c4 := Bool.eq_false_iff.mpr c4
    subst c4
    have H1 : (some false) = some r := by rw [if_neg (show ¬ (false = true) by decide)] at H; exact H
    rw [hr_.out] at H1
    exact absurd (Option.some.inj H1) (by decide)

/-- THE ONE PURE STATEMENT of lodgerlaw07_WordDoes: yours. -/
def lodgerlaw07_WordDoes.Pure : Prop := ∀ (a0 : Int) (a1 : Int), (Lit.int .u64 a0).wf = true → (Lit.int .u8 a1).wf = true → ∃ k, lodgerlaw07_WordDoes.f k a0 a1 = some true
theorem lodgerlaw07_WordDoes.walk (P : lodgerlaw07_WordDoes.Pure) (a0 : Int) (a1 : Int) (w : World) (w0 : (Lit.int .u64 a0).wf = true) (w1 : (Lit.int .u8 a1).wf = true) :
    Calls Try.prog 3 #[.int .u64 a0, .int .u8 a1] w fun e w' => e = .returned (.bool true) ∧ Below w.heap.size w w' := by
  obtain ⟨k, h⟩ := P a0 a1 w0 w1
  refine (lodgerlaw07_WordDoes.calls k a0 a1 true w rfl h).mono ?_
  rintro e w' ⟨rfl, hd⟩
  exact ⟨rfl, hd⟩

end Go.Proofs.Ytdbpdpdpabhfbaa.PWordDoes
