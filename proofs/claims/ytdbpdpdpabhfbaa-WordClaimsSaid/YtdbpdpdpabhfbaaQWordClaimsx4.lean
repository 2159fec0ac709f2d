/- The walk of WordClaims, part of it: what the Go functions answer; no condition. -/
import Derived.Test.YtdbpdpdpabhfbaaQWordClaimsx0
import Derived.Test.YtdbpdpdpabhfbaaQWordClaimsx1
import Derived.Test.YtdbpdpdpabhfbaaQWordClaimsx2
import Derived.Test.YtdbpdpdpabhfbaaQWordClaimsx3
namespace Go.Proofs.Ytdbpdpdpabhfbaa.PWordClaims
open Go.RowKit Go.Proofs.YtdbpdpdpabhfbaaW.PrintWords Go.Proofs.YtdbpdpdpabhfbaaW.PrintLast Go.Proofs.YtdbpdpdpabhfbaaW.PrintMore
attribute [local go_sem] max2_int min2_int max_two min_two max_three min_three max_four min_four   -- for this text's walks alone
set_option linter.unusedVariables false
set_option linter.unusedSimpArgs false

/-! ### lodgerlaw07_awake: function 8 -/
def lodgerlaw07_awake.f (k : Nat)  : Option (Bool) := (some (([1] : List Int) : List Int)).bind fun y153 => ((word_New.f k 0 30 y153 1 1 1 1 0).bind fun t157 => ((word_First.f k t157).bind fun bt158 => ((word_Claim.f t157 0).bind fun t160 => ((word_Drop.f t160 0).bind fun t161 => (if t157 = 4294967282 then (if bt158.1 = 0 then (if bt158.2 = true then (if t160 = 8589934579 then (if t161 = 12884901874 then ((word_Changes.f t161).bind fun t162 => (if t162 = 2 then ((word_Used.f t160 0).bind fun t163 => (if t163 = true then ((word_Used.f t161 0).bind fun t164 => (if t164 = true then (some false) else ((word_Full.f k t160).bind fun t165 => (if t165 = true then (some false) else ((word_Full.f k 4294967295).bind fun t166 => (if t166 = true then ((word_Cells.f k 0 30 y153 1 1 1 1).bind fun t167 => ((lodgerref02_Same.f k t167 (([4294967282, 18446744073709551614, 18446744073709551614] : List Int))).bind fun t173 => (some t173))) else (some false))))))) else (some false))) else (some false))) else (some false)) else (some false)) else (some false)) else (some false)) else (some false))))))
theorem lodgerlaw07_awake.mono : ∀ k, LeO (lodgerlaw07_awake.f k ) (lodgerlaw07_awake.f (k + 1) ) := by
  intro  k
  unfold lodgerlaw07_awake.f
  repeat' first
      | (with_reducible exact lodgerref02_Same.mono _ _ _)
      | (with_reducible exact word_Cells.mono _ _ _ _ _ _ _ _)
      | (with_reducible exact word_First.mono _ _)
      | (with_reducible exact word_Full.mono _ _)
      | (with_reducible exact word_New.mono _ _ _ _ _ _ _ _ _)
      | (with_reducible exact LeO.refl _)
      | (with_reducible exact LeO.none _)
      | (with_reducible refine LeO.ite ?_ ?_)
      | (with_reducible refine LeO.bind ?_ (fun _ => ?_))
      | exact lodgerref02_Same.mono _ _ _
      | exact word_Cells.mono _ _ _ _ _ _ _ _
      | exact word_First.mono _ _
      | exact word_Full.mono _ _
      | exact word_New.mono _ _ _ _ _ _ _ _ _
      | exact LeO.none _
      | refine LeO.ite ?_ ?_
      | refine LeO.bind ?_ (fun _ => ?_)
set_option maxHeartbeats 8000000 in
set_option maxRecDepth 100000 in
theorem lodgerlaw07_awake.only {k : Nat} {r : Bool} (h : lodgerlaw07_awake.f k = some r) : r = true := by
  have e : lodgerlaw07_awake.f 500 = some true := by decide +kernel
  have h1 := at_rounds lodgerlaw07_awake.mono (Nat.le_max_left k 500) h
  rw [at_rounds lodgerlaw07_awake.mono (Nat.le_max_right k 500) e] at h1
  exact (Option.some.inj h1).symm
theorem lodgerlaw07_awake.calls (k : Nat)  (r : Bool) (w : World) (h : lodgerlaw07_awake.f k  = some r) :
    Calls Try.prog 8 #[] w fun e w' => e = .returned (.bool r) ∧ Below w.heap.size w w' := by
  have hu33 := Try.underlying33
  have hu36 := Try.underlying36
  have HB := Aside0.mk (Below.refl w.heap.size w)
  have hr_ := Aside0.mk (lodgerlaw07_awake.only h)
  have H : ((some (([1] : List Int) : List Int)).bind fun y153 => ((word_New.f k 0 30 y153 1 1 1 1 0).bind fun t157 => ((word_First.f k t157).bind fun bt158 => ((word_Claim.f t157 0).bind fun t160 => ((word_Drop.f t160 0).bind fun t161 => (if t157 = 4294967282 then (if bt158.1 = 0 then (if bt158.2 = true then (if t160 = 8589934579 then (if t161 = 12884901874 then ((word_Changes.f t161).bind fun t162 => (if t162 = 2 then ((word_Used.f t160 0).bind fun t163 => (if t163 = true then ((word_Used.f t161 0).bind fun t164 => (if t164 = true then (some false) else ((word_Full.f k t160).bind fun t165 => (if t165 = true then (some false) else ((word_Full.f k 4294967295).bind fun t166 => (if t166 = true then ((word_Cells.f k 0 30 y153 1 1 1 1).bind fun t167 => ((lodgerref02_Same.f k t167 (([4294967282, 18446744073709551614, 18446744073709551614] : List Int))).bind fun t173 => (some t173))) else (some false))))))) else (some false))) else (some false))) else (some false)) else (some false)) else (some false)) else (some false)) else (some false))))))) = some r := h
  clear h
  obtain ⟨y153, hy153⟩ : ∃ y_ : List Int, y_ = (([1] : List Int)) := ⟨_, rfl⟩
  replace H : ((word_New.f k 0 30 y153 1 1 1 1 0).bind fun t157 => ((word_First.f k t157).bind fun bt158 => ((word_Claim.f t157 0).bind fun t160 => ((word_Drop.f t160 0).bind fun t161 => (if t157 = 4294967282 then (if bt158.1 = 0 then (if bt158.2 = true then (if t160 = 8589934579 then (if t161 = 12884901874 then ((word_Changes.f t161).bind fun t162 => (if t162 = 2 then ((word_Used.f t160 0).bind fun t163 => (if t163 = true then ((word_Used.f t161 0).bind fun t164 => (if t164 = true then (some false) else ((word_Full.f k t160).bind fun t165 => (if t165 = true then (some false) else ((word_Full.f k 4294967295).bind fun t166 => (if t166 = true then ((word_Cells.f k 0 30 y153 1 1 1 1).bind fun t167 => ((lodgerref02_Same.f k t167 (([4294967282, 18446744073709551614, 18446744073709551614] : List Int))).bind fun t173 => (some t173))) else (some false))))))) else (some false))) else (some false))) else (some false)) else (some false)) else (some false)) else (some false)) else (some false)))))) = some r := by first | (rw [hy153]; with_reducible exact H) | (have H2_ := (Option.bind_some _ _).symm.trans H; rw [hy153]; with_reducible exact H2_) | (have H2_ := (Option.bind_some _ _).symm.trans H; with_reducible exact H2_) | with_reducible exact H | (rw [hy153]; exact H) | exact H
  have Ny153 := Aside0.mk hy153
  clear hy153
  replace H := Option.bind_eq_some_iff.mp H
  obtain ⟨t157, A10, H⟩ := H
  replace H : ((word_First.f k t157).bind fun bt158 => ((word_Claim.f t157 0).bind fun t160 => ((word_Drop.f t160 0).bind fun t161 => (if t157 = 4294967282 then (if bt158.1 = 0 then (if bt158.2 = true then (if t160 = 8589934579 then (if t161 = 12884901874 then ((word_Changes.f t161).bind fun t162 => (if t162 = 2 then ((word_Used.f t160 0).bind fun t163 => (if t163 = true then ((word_Used.f t161 0).bind fun t164 => (if t164 = true then (some false) else ((word_Full.f k t160).bind fun t165 => (if t165 = true then (some false) else ((word_Full.f k 4294967295).bind fun t166 => (if t166 = true then ((word_Cells.f k 0 30 y153 1 1 1 1).bind fun t167 => ((lodgerref02_Same.f k t167 (([4294967282, 18446744073709551614, 18446744073709551614] : List Int))).bind fun t173 => (some t173))) else (some false))))))) else (some false))) else (some false))) else (some false)) else (some false)) else (some false)) else (some false)) else (some false))))) = some r := H
  have A1 := Aside0.mk A10
  clear A10
  replace H := Option.bind_eq_some_iff.mp H
  obtain ⟨⟨t158, t159⟩, A20, H⟩ := H
  replace H : ((word_Claim.f t157 0).bind fun t160 => ((word_Drop.f t160 0).bind fun t161 => (if t157 = 4294967282 then (if t158 = 0 then (if t159 = true then (if t160 = 8589934579 then (if t161 = 12884901874 then ((word_Changes.f t161).bind fun t162 => (if t162 = 2 then ((word_Used.f t160 0).bind fun t163 => (if t163 = true then ((word_Used.f t161 0).bind fun t164 => (if t164 = true then (some false) else ((word_Full.f k t160).bind fun t165 => (if t165 = true then (some false) else ((word_Full.f k 4294967295).bind fun t166 => (if t166 = true then ((word_Cells.f k 0 30 y153 1 1 1 1).bind fun t167 => ((lodgerref02_Same.f k t167 (([4294967282, 18446744073709551614, 18446744073709551614] : List Int))).bind fun t173 => (some t173))) else (some false))))))) else (some false))) else (some false))) else (some false)) else (some false)) else (some false)) else (some false)) else (some false)))) = some r := H
  have A2 := Aside0.mk A20
  clear A20
  replace H := Option.bind_eq_some_iff.mp H
  obtain ⟨t160, A30, H⟩ := H
  replace H : ((word_Drop.f t160 0).bind fun t161 => (if t157 = 4294967282 then (if t158 = 0 then (if t159 = true then (if t160 = 8589934579 then (if t161 = 12884901874 then ((word_Changes.f t161).bind fun t162 => (if t162 = 2 then ((word_Used.f t160 0).bind fun t163 => (if t163 = true then ((word_Used.f t161 0).bind fun t164 => (if t164 = true then (some false) else ((word_Full.f k t160).bind fun t165 => (if t165 = true then (some false) else ((word_Full.f k 4294967295).bind fun t166 => (if t166 = true then ((word_Cells.f k 0 30 y153 1 1 1 1).bind fun t167 => ((lodgerref02_Same.f k t167 (([4294967282, 18446744073709551614, 18446744073709551614] : List Int))).bind fun t173 => (some t173))) else (some false))))))) else (some false))) else (some false))) else (some false)) else (some false)) else (some false)) else (some false)) else (some false))) = some r := H
  have A3 := Aside0.mk A30
  clear A30
  replace H := Option.bind_eq_some_iff.mp H
  obtain ⟨t161, A40, H⟩ := H
  replace H : (if t157 = 4294967282 then (if t158 = 0 then (if t159 = true then (if t160 = 8589934579 then (if t161 = 12884901874 then ((word_Changes.f t161).bind fun t162 => (if t162 = 2 then ((word_Used.f t160 0).bind fun t163 => (if t163 = true then ((word_Used.f t161 0).bind fun t164 => (if t164 = true then (some false) else ((word_Full.f k t160).bind fun t165 => (if t165 = true then (some false) else ((word_Full.f k 4294967295).bind fun t166 => (if t166 = true then ((word_Cells.f k 0 30 y153 1 1 1 1).bind fun t167 => ((lodgerref02_Same.f k t167 (([4294967282, 18446744073709551614, 18446744073709551614] : List Int))).bind fun t173 => (some t173))) else (some false))))))) else (some false))) else (some false))) else (some false)) else (some false)) else (some false)) else (some false)) else (some false)) = some r := H
  have A4 := Aside0.mk A40
  clear A40
  by_cases c5 : t157 = 4294967282
  · rw [if_pos c5] at H
    have c5b0 : (t157 == 4294967282) = true := beq_iff_eq.mpr c5
    have c5b1 : (t157 != 4294967282) = false := bne_eq_false_iff_eq.mpr c5
    clear c5
    by_cases c6 : t158 = 0
    · rw [if_pos c6] at H
      have c6b0 : (t158 == 0) = true := beq_iff_eq.mpr c6
      have c6b1 : (t158 != 0) = false := bne_eq_false_iff_eq.mpr c6
      clear c6
      by_cases c7 : t159 = true
      · subst c7
        have H1 : (if t160 = 8589934579 then (if t161 = 12884901874 then ((word_Changes.f t161).bind fun t162 => (if t162 = 2 then ((word_Used.f t160 0).bind fun t163 => (if t163 = true then ((word_Used.f t161 0).bind fun t164 => (if t164 = true then (some false) else ((word_Full.f k t160).bind fun t165 => (if t165 = true then (some false) else ((word_Full.f k 4294967295).bind fun t166 => (if t166 = true then ((word_Cells.f k 0 30 y153 1 1 1 1).bind fun t167 => ((lodgerref02_Same.f k t167 (([4294967282, 18446744073709551614, 18446744073709551614] : List Int))).bind fun t173 => (some t173))) else (some false))))))) else (some false))) else (some false))) else (some false)) else (some false)) = some r := by rw [if_pos rfl] at H; exact H
        clear H
        have H := H1
        clear H1
        by_cases c8 : t160 = 8589934579
        · rw [if_pos c8] at H
          have c8b0 : (t160 == 8589934579) = true := beq_iff_eq.mpr c8
          have c8b1 : (t160 != 8589934579) = false := bne_eq_false_iff_eq.mpr c8
          clear c8
          by_cases c9 : t161 = 12884901874
          · rw [if_pos c9] at H
            have c9b0 : (t161 == 12884901874) = true := beq_iff_eq.mpr c9
            have c9b1 : (t161 != 12884901874) = false := bne_eq_false_iff_eq.mpr c9
            clear c9
            replace H := Option.bind_eq_some_iff.mp H
            obtain ⟨t162, A100, H⟩ := H
            replace H : (if t162 = 2 then ((word_Used.f t160 0).bind fun t163 => (if t163 = true then ((word_Used.f t161 0).bind fun t164 => (if t164 = true then (some false) else ((word_Full.f k t160).bind fun t165 => (if t165 = true then (some false) else ((word_Full.f k 4294967295).bind fun t166 => (if t166 = true then ((word_Cells.f k 0 30 y153 1 1 1 1).bind fun t167 => ((lodgerref02_Same.f k t167 (([4294967282, 18446744073709551614, 18446744073709551614] : List Int))).bind fun t173 => (some t173))) else (some false))))))) else (some false))) else (some false)) = some r := H
            have A10 := Aside0.mk A100
            clear A100
            by_cases c11 : t162 = 2
            · rw [if_pos c11] at H
              have c11b0 : (t162 == 2) = true := beq_iff_eq.mpr c11
              have c11b1 : (t162 != 2) = false := bne_eq_false_iff_eq.mpr c11
              clear c11
              replace H := Option.bind_eq_some_iff.mp H
              obtain ⟨t163, A120, H⟩ := H
              replace H : (if t163 = true then ((word_Used.f t161 0).bind fun t164 => (if t164 = true then (some false) else ((word_Full.f k t160).bind fun t165 => (if t165 = true then (some false) else ((word_Full.f k 4294967295).bind fun t166 => (if t166 = true then ((word_Cells.f k 0 30 y153 1 1 1 1).bind fun t167 => ((lodgerref02_Same.f k t167 (([4294967282, 18446744073709551614, 18446744073709551614] : List Int))).bind fun t173 => (some t173))) else (some false))))))) else (some false)) = some r := H
              have A12 := Aside0.mk A120
              clear A120
              by_cases c13 : t163 = true
              · subst c13
                have H1 : ((word_Used.f t161 0).bind fun t164 => (if t164 = true then (some false) else ((word_Full.f k t160).bind fun t165 => (if t165 = true then (some false) else ((word_Full.f k 4294967295).bind fun t166 => (if t166 = true then ((word_Cells.f k 0 30 y153 1 1 1 1).bind fun t167 => ((lodgerref02_Same.f k t167 (([4294967282, 18446744073709551614, 18446744073709551614] : List Int))).bind fun t173 => (some t173))) else (some false))))))) = some r := by rw [if_pos rfl] at H; exact H
                clear H
                have H := H1
                clear H1
                replace H := Option.bind_eq_some_iff.mp H
                obtain ⟨t164, A140, H⟩ := H
                replace H : (if t164 = true then (some false) else ((word_Full.f k t160).bind fun t165 => (if t165 = true then (some false) else ((word_Full.f k 4294967295).bind fun t166 => (if t166 = true then ((word_Cells.f k 0 30 y153 1 1 1 1).bind fun t167 => ((lodgerref02_Same.f k t167 (([4294967282, 18446744073709551614, 18446744073709551614] : List Int))).bind fun t173 => (some t173))) else (some false)))))) = some r := H
                have A14 := Aside0.mk A140
                clear A140
                by_cases c15 : t164 = true
                · subst c15
                  have H1 : (some false) = some r := by rw [if_pos rfl] at H; exact H
                  rw [hr_.out] at H1
                  exact absurd (Option.some.inj H1) (by decide)
                · replace c15 := Bool.eq_false_iff.mpr c15
                  subst c15
                  have H1 : ((word_Full.f k t160).bind fun t165 => (if t165 = true then (some false) else ((word_Full.f k 4294967295).bind fun t166 => (if t166 = true then ((word_Cells.f k 0 30 y153 1 1 1 1).bind fun t167 => ((lodgerref02_Same.f k t167 (([4294967282, 18446744073709551614, 18446744073709551614] : List Int))).bind fun t173 => (some t173))) else (some false))))) = some r := by rw [if_neg (show ¬ (false = true) by decide)] at H; exact H
                  clear H
                  have H := H1
                  clear H1
                  replace H := Option.bind_eq_some_iff.mp H
                  obtain ⟨t165, A220, H⟩ := H
                  replace H : (if t165 = true then (some false) else ((word_Full.f k 4294967295).bind fun t166 => (if t166 = true then ((word_Cells.f k 0 30 y153 1 1 1 1).bind fun t167 => ((lodgerref02_Same.f k t167 (([4294967282, 18446744073709551614, 18446744073709551614] : List Int))).bind fun t173 => (some t173))) else (some false)))) = some r := H
                  have A22 := Aside0.mk A220
                  clear A220
                  by_cases c23 : t165 = true
                  · subst c23
                    have H1 : (some false) = some r := by rw [if_pos rfl] at H; exact H
                    rw [hr_.out] at H1
                    exact absurd (Option.some.inj H1) (by decide)
                  · replace c23 := Bool.eq_false_iff.mpr c23
                    subst c23
                    have H1 : ((word_Full.f k 4294967295).bind fun t166 => (if t166 = true then ((word_Cells.f k 0 30 y153 1 1 1 1).bind fun t167 => ((lodgerref02_Same.f k t167 (([4294967282, 18446744073709551614, 18446744073709551614] : List Int))).bind fun t173 => (some t173))) else (some false))) = some r := by rw [if_neg (show ¬ (false = true) by decide)] at H; exact H
                    clear H
                    have H := H1
                    clear H1
                    replace H := Option.bind_eq_some_iff.mp H
                    obtain ⟨t166, A300, H⟩ := H
                    replace H : (if t166 = true then ((word_Cells.f k 0 30 y153 1 1 1 1).bind fun t167 => ((lodgerref02_Same.f k t167 (([4294967282, 18446744073709551614, 18446744073709551614] : List Int))).bind fun t173 => (some t173))) else (some false)) = some r := H
                    have A30 := Aside0.mk A300
                    clear A300
                    by_cases c31 : t166 = true
                    · subst c31
                      have H1 : ((word_Cells.f k 0 30 y153 1 1 1 1).bind fun t167 => ((lodgerref02_Same.f k t167 (([4294967282, 18446744073709551614, 18446744073709551614] : List Int))).bind fun t173 => (some t173))) = some r := by rw [if_pos rfl] at H; exact H
                      clear H
                      have H := H1
                      clear H1
                      replace H := Option.bind_eq_some_iff.mp H
                      obtain ⟨t167, A320, H⟩ := H
                      replace H : ((lodgerref02_Same.f k t167 (([4294967282, 18446744073709551614, 18446744073709551614] : List Int))).bind fun t173 => (some t173)) = some r := H
                      have A32 := Aside0.mk A320
                      clear A320
                      obtain ⟨y170, hy170⟩ : ∃ y_ : List Int, y_ = (([4294967282, 18446744073709551614, 18446744073709551614] : List Int)) := ⟨_, rfl⟩
                      replace H : ((lodgerref02_Same.f k t167 y170).bind fun t173 => (some t173)) = some r := by first | (rw [hy170]; with_reducible exact H) | (have H2_ := (Option.bind_some _ _).symm.trans H; rw [hy170]; with_reducible exact H2_) | (have H2_ := (Option.bind_some _ _).symm.trans H; with_reducible exact H2_) | with_reducible exact H | (rw [hy170]; exact H) | exact H
                      have Ny170 := Aside0.mk hy170
                      clear hy170
                      replace H := Option.bind_eq_some_iff.mp H
                      obtain ⟨t173, A330, H⟩ := H
                      replace H : (some t173) = some r := H
                      have A33 := Aside0.mk A330
                      clear A330
                      first | (exfalso; rw [hr_.out] at H; exact absurd (Option.some.inj H) (by decide)) | (try clear hr_)
                      all_goals
                        obtain rfl := Option.some.inj H
                        go_enter Try.func8, Try.ntmps8
                        go_wp2_with (first | ((with_reducible refine gate_dst (N := 8) rfl ?_); (try (refine gate_guard (by rfl) ?_; dsimp only)); refine Kd.R_lit (Kd.int .i64) _ 3 ?hg (N := 8) ?hd (xs := ([1] : List Int)) (inner := [.int .i64 1]) (ok := fun _ => True) (okp := fun _ => True) ?hr ?hp (fun _ hk => hk) trivial (Below.refl _ _) (Nat.le_refl _) (by simp) ?_; (case hd => rfl); (case hg => rfl); (case hr => first | (go_simp; done) | (go_simp; rfl)); (case hp => exact (Reps.one (show Kd.M (Kd.int .i64) _ _ _ 1 [.int .i64 1] from rfl) (Reps.none _ _))); intro v154 w34 ho35 hb hg_ hnew_; clear hg_ hnew_; (first | rw [← Ny153.out] at ho35 | (simp only [Int.reduceToNat] at ho35; rw [← Ny153.out] at ho35)); have n0_ := Aside0.mk (Kd.R_lower ho35 (below_size (by repeat (first | (with_reducible first | exact HB.out | apply below_alloc | apply pw_below_drewN | apply below_drew1) | exact HB.out)))); have n1_ := Aside0.mk (below_step (by repeat (first | (with_reducible first | exact HB.out | apply below_alloc | apply pw_below_drewN | apply below_drew1) | exact HB.out)) hb); clear HB; have HO155 := n0_; have HB := n1_; clear n0_ n1_; clear hb ho35; obtain ⟨Ao36, co36, eo36⟩ := Kd.R_slice HO155.out; subst eo36) | ((with_reducible refine gate_dst (N := 1) rfl ?_); (try (refine gate_guard (by rfl) ?_; dsimp only)); refine box_event ?hg (N := 1) ?hd (cs := #[.int .u32 0, .int .i64 0, .slice none 0 0, .int .i64 0, .int .i64 0, .int .i64 0, .int .i64 0]) (t := 36) ?hr ?_; (case hd => rfl); (case hg => rfl); (case hr => first | (go_simp; done) | (go_simp; rfl)); intro gb156 hg w37 hbox hb; have n0_ := Aside0.mk (Kd.R_below (by (with_reducible repeat (first | apply Kd.R_alloc | apply Kd.R_drewN | apply Kd.R_drew)); exact HO155.out) hb); have n1_ := Aside0.mk (below_step (by repeat (first | (with_reducible first | exact HB.out | apply below_alloc | apply pw_below_drewN | apply below_drew1) | exact HB.out)) hb); have n2_ := Aside0.mk (hbox); have n3_ := Aside0.mk ((by rw [hg]; exact (below_size (by repeat (first | (with_reducible first | exact HB.out | apply below_alloc | apply pw_below_drewN | apply below_drew1) | exact HB.out))) : w.heap.size ≤ gb156)); have n4_ := Aside0.mk ((by rw [hg]; exact (below_size (by repeat (first | (with_reducible first | exact HB.out | apply below_alloc | apply pw_below_drewN | apply below_drew1) | exact HB.out))) : w.heap.size ≤ gb156)); clear HO155; clear HB; have HO155 := n0_; have HB := n1_; have BK156 := n2_; have GW156 := n3_; have GE156 := n4_; clear n0_ n1_ n2_ n3_ n4_; clear hb hbox hg; have hcz38_0 : w37.cell? ⟨gb156, 0, none⟩ = some (.int .u32 0) := (blk_cell BK156.out 0).trans rfl; have hcz38_1 : w37.cell? ⟨gb156, 1, none⟩ = some (.int .i64 0) := (blk_cell BK156.out 1).trans rfl; have hcz38_2 : w37.cell? ⟨gb156, 2, none⟩ = some (.slice none 0 0) := (blk_cell BK156.out 2).trans rfl; have hcz38_3 : w37.cell? ⟨gb156, 3, none⟩ = some (.int .i64 0) := (blk_cell BK156.out 3).trans rfl; have hcz38_4 : w37.cell? ⟨gb156, 4, none⟩ = some (.int .i64 0) := (blk_cell BK156.out 4).trans rfl; have hcz38_5 : w37.cell? ⟨gb156, 5, none⟩ = some (.int .i64 0) := (blk_cell BK156.out 5).trans rfl; have hcz38_6 : w37.cell? ⟨gb156, 6, none⟩ = some (.int .i64 0) := (blk_cell BK156.out 6).trans rfl; have hfz38_0 := blk_frozen BK156.out 0; have hfz38_1 := blk_frozen BK156.out 1; have hfz38_2 := blk_frozen BK156.out 2; have hfz38_3 := blk_frozen BK156.out 3; have hfz38_4 := blk_frozen BK156.out 4; have hfz38_5 := blk_frozen BK156.out 5; have hfz38_6 := blk_frozen BK156.out 6) | ((with_reducible refine gate_callee (f := 23) rfl ?_); refine goesL_ (some 11) rfl rfl Try.func23 (by kernel_rfl) rfl #[.agg #[.int .u32 0, .int .i64 30, .slice Ao36 y153.length co36, .int .i64 1, .int .i64 1, .int .i64 1, .int .i64 1], .int .i64 0] rfl (by (try simp only [List.map_toArray, List.map_cons, List.map_nil]); first | done | rfl | (simp only [List.length_drop, List.length_take]; rfl)) ?_; (with_reducible refine (word_New.calls k 0 30 _ _ y153 1 1 1 1 0 t157 _ ?side1 ?side2 A1.out).mono ?_); (case side1 => refine (Kd.R_reads' (e := 3) (base := w.heap.size) (ok := fun k_ => True) (n := y153.length) (c := co36) ?_).2.2; exact (by (with_reducible repeat (first | apply Kd.R_alloc | apply Kd.R_drewN | apply Kd.R_drew)); exact (Kd.R_mono (Kd.R_far (p := ⟨gb156, 6, none⟩) (Kd.R_far (p := ⟨gb156, 5, none⟩) (Kd.R_far (p := ⟨gb156, 4, none⟩) (Kd.R_far (p := ⟨gb156, 3, none⟩) (Kd.R_far (p := ⟨gb156, 2, none⟩) (Kd.R_far (p := ⟨gb156, 1, none⟩) (Kd.R_far (p := ⟨gb156, 0, none⟩) (Kd.R_types HO155.out BK156.out (by decide)) (fun _ hk => hk.2) (.int .u32 0)) (fun _ hk => hk.2) (.int .i64 30)) (fun _ hk => hk.2) (.slice Ao36 y153.length co36)) (fun _ hk => hk.2) (.int .i64 1)) (fun _ hk => hk.2) (.int .i64 1)) (fun _ hk => hk.2) (.int .i64 1)) (fun _ hk => hk.2) (.int .i64 1)) (fun _ h_ => h_.1)))); (case side2 => exact (Kd.R_reads' HO155.out).2.1); rintro e w39 ⟨rfl, hb⟩; refine ⟨_, rfl, ?_⟩; have n0_ := Aside0.mk (Kd.R_below (by (with_reducible repeat (first | apply Kd.R_alloc | apply Kd.R_drewN | apply Kd.R_drew)); exact (Kd.R_mono (Kd.R_far (p := ⟨gb156, 6, none⟩) (Kd.R_far (p := ⟨gb156, 5, none⟩) (Kd.R_far (p := ⟨gb156, 4, none⟩) (Kd.R_far (p := ⟨gb156, 3, none⟩) (Kd.R_far (p := ⟨gb156, 2, none⟩) (Kd.R_far (p := ⟨gb156, 1, none⟩) (Kd.R_far (p := ⟨gb156, 0, none⟩) (Kd.R_types HO155.out BK156.out (by decide)) (fun _ hk => hk.2) (.int .u32 0)) (fun _ hk => hk.2) (.int .i64 30)) (fun _ hk => hk.2) (.slice Ao36 y153.length co36)) (fun _ hk => hk.2) (.int .i64 1)) (fun _ hk => hk.2) (.int .i64 1)) (fun _ hk => hk.2) (.int .i64 1)) (fun _ hk => hk.2) (.int .i64 1)) (fun _ h_ => h_.1))) hb); have n1_ := Aside0.mk (blk_below (g := gb156) (o := .cells #[.int .u32 0, .int .i64 30, .slice Ao36 y153.length co36, .int .i64 1, .int .i64 1, .int .i64 1, .int .i64 1] 36 (0, 0)) (by (with_reducible repeat (first | refine blk_drewN ?_ _ | refine blk_drew ?_ | refine blk_alloc ?_ _)); refine blk_put (cs := #[.int .u32 0, .int .i64 30, .slice Ao36 y153.length co36, .int .i64 1, .int .i64 1, .int .i64 1, .int .i64 0]) ?_ 6 _ rfl; (with_reducible repeat (first | refine blk_drewN ?_ _ | refine blk_drew ?_ | refine blk_alloc ?_ _)); refine blk_put (cs := #[.int .u32 0, .int .i64 30, .slice Ao36 y153.length co36, .int .i64 1, .int .i64 1, .int .i64 0, .int .i64 0]) ?_ 5 _ rfl; (with_reducible repeat (first | refine blk_drewN ?_ _ | refine blk_drew ?_ | refine blk_alloc ?_ _)); refine blk_put (cs := #[.int .u32 0, .int .i64 30, .slice Ao36 y153.length co36, .int .i64 1, .int .i64 0, .int .i64 0, .int .i64 0]) ?_ 4 _ rfl; (with_reducible repeat (first | refine blk_drewN ?_ _ | refine blk_drew ?_ | refine blk_alloc ?_ _)); refine blk_put (cs := #[.int .u32 0, .int .i64 30, .slice Ao36 y153.length co36, .int .i64 0, .int .i64 0, .int .i64 0, .int .i64 0]) ?_ 3 _ rfl; (with_reducible repeat (first | refine blk_drewN ?_ _ | refine blk_drew ?_ | refine blk_alloc ?_ _)); refine blk_put (cs := #[.int .u32 0, .int .i64 30, .slice none 0 0, .int .i64 0, .int .i64 0, .int .i64 0, .int .i64 0]) ?_ 2 _ rfl; (with_reducible repeat (first | refine blk_drewN ?_ _ | refine blk_drew ?_ | refine blk_alloc ?_ _)); refine blk_put (cs := #[.int .u32 0, .int .i64 0, .slice none 0 0, .int .i64 0, .int .i64 0, .int .i64 0, .int .i64 0]) ?_ 1 _ rfl; (with_reducible repeat (first | refine blk_drewN ?_ _ | refine blk_drew ?_ | refine blk_alloc ?_ _)); refine blk_put (cs := #[.int .u32 0, .int .i64 0, .slice none 0 0, .int .i64 0, .int .i64 0, .int .i64 0, .int .i64 0]) ?_ 0 _ rfl; (with_reducible repeat (first | refine blk_drewN ?_ _ | refine blk_drew ?_ | refine blk_alloc ?_ _)); exact BK156.out) hb); have n2_ := Aside0.mk (below_step (by repeat (first | (with_reducible first | exact HB.out | apply below_alloc | apply pw_below_drewN | apply below_drew1 | refine below_set ?_ GE156.out) | exact HB.out)) hb); clear HO155; clear BK156; clear HB; have HO155 := n0_; have BK156 := n1_; have HB := n2_; clear n0_ n1_ n2_; (try clear hb); (try clear hb2); (try clear hk); (try clear hi)) | ((with_reducible refine gate_callee (f := 9) rfl ?_); refine goesL_ (some 14) rfl rfl Try.func9 (by kernel_rfl) rfl #[.int .u64 t157] rfl (by (try simp only [List.map_toArray, List.map_cons, List.map_nil]); first | done | rfl | (simp only [List.length_drop, List.length_take]; rfl)) ?_; (with_reducible refine (word_First.calls k t157 t158 true _ A2.out).mono ?_); rintro e w' ⟨rfl, ⟨nd, rfl⟩⟩; refine ⟨_, rfl, ?_⟩) | ((with_reducible refine gate_callee (f := 14) rfl ?_); refine goesL_ (some 18) rfl rfl Try.func14 (by kernel_rfl) rfl #[.int .u64 t157, .int .i64 0] rfl (by (try simp only [List.map_toArray, List.map_cons, List.map_nil]); first | done | rfl | (simp only [List.length_drop, List.length_take]; rfl)) ?_; (with_reducible refine (word_Claim.calls t157 0 t160 _ A3.out).mono ?_); rintro e w' ⟨rfl, ⟨nd, rfl⟩⟩; refine ⟨_, rfl, ?_⟩) | ((with_reducible refine gate_callee (f := 16) rfl ?_); refine goesL_ (some 20) rfl rfl Try.func16 (by kernel_rfl) rfl #[.int .u64 t160, .int .i64 0] rfl (by (try simp only [List.map_toArray, List.map_cons, List.map_nil]); first | done | rfl | (simp only [List.length_drop, List.length_take]; rfl)) ?_; (with_reducible refine (word_Drop.calls t160 0 t161 _ A4.out).mono ?_); rintro e w' ⟨rfl, ⟨nd, rfl⟩⟩; refine ⟨_, rfl, ?_⟩) | (go_at_call 13; (with_reducible refine (word_Changes.calls t161 t162 _ A10.out).mono ?_); rintro e w' ⟨rfl, ⟨nd, rfl⟩⟩) | (go_at_call 11; (with_reducible refine (word_Used.calls t160 0 true _ A12.out).mono ?_); rintro e w' ⟨rfl, ⟨nd, rfl⟩⟩) | (go_at_call 11; (with_reducible refine (word_Used.calls t161 0 false _ A14.out).mono ?_); rintro e w' ⟨rfl, ⟨nd, rfl⟩⟩) | (go_at_call 18; (with_reducible refine (word_Full.calls k t160 false _ A22.out).mono ?_); rintro e w' ⟨rfl, ⟨nd, rfl⟩⟩) | (go_at_call 18; (with_reducible refine (word_Full.calls k 4294967295 true _ A30.out).mono ?_); rintro e w' ⟨rfl, ⟨nd, rfl⟩⟩; have hcz40_0 : w39.cell? ⟨gb156, 0, none⟩ = some (.int .u32 0) := (blk_cell BK156.out 0).trans rfl; have hcz40_1 : w39.cell? ⟨gb156, 1, none⟩ = some (.int .i64 30) := (blk_cell BK156.out 1).trans rfl; have hcz40_2 : w39.cell? ⟨gb156, 2, none⟩ = some (.slice Ao36 y153.length co36) := (blk_cell BK156.out 2).trans rfl; have hcz40_3 : w39.cell? ⟨gb156, 3, none⟩ = some (.int .i64 1) := (blk_cell BK156.out 3).trans rfl; have hcz40_4 : w39.cell? ⟨gb156, 4, none⟩ = some (.int .i64 1) := (blk_cell BK156.out 4).trans rfl; have hcz40_5 : w39.cell? ⟨gb156, 5, none⟩ = some (.int .i64 1) := (blk_cell BK156.out 5).trans rfl; have hcz40_6 : w39.cell? ⟨gb156, 6, none⟩ = some (.int .i64 1) := (blk_cell BK156.out 6).trans rfl; have hfz40_0 := blk_frozen BK156.out 0; have hfz40_1 := blk_frozen BK156.out 1; have hfz40_2 := blk_frozen BK156.out 2; have hfz40_3 := blk_frozen BK156.out 3; have hfz40_4 := blk_frozen BK156.out 4; have hfz40_5 := blk_frozen BK156.out 5; have hfz40_6 := blk_frozen BK156.out 6) | (go_at_call 26; (with_reducible refine (word_Cells.calls k 0 30 _ _ y153 1 1 1 1 t167 _ ?side1 ?side2 A32.out).mono ?_); (case side1 => repeat (first | exact (Kd.R_reads' HO155.out).2.2 | (with_reducible refine Kd.C_alloc ?_ _) | (with_reducible refine Kd.C_drewN ?_ _) | (with_reducible refine Kd.C_drew ?_))); (case side2 => exact (Kd.R_reads' HO155.out).2.1); rintro e w41 ⟨v168, rfl, ho0, hb⟩; have n0_ := Aside0.mk (Kd.R_below (by (with_reducible repeat (first | apply Kd.R_alloc | apply Kd.R_drewN | apply Kd.R_drew)); exact HO155.out) hb); have n1_ := Aside0.mk (Kd.R_lower ho0 (below_size (by repeat (first | (with_reducible first | exact HB.out | apply below_alloc | apply pw_below_drewN | apply below_drew1 | refine below_set ?_ GE156.out) | exact HB.out)))); have n2_ := Aside0.mk (blk_below (g := gb156) (o := .cells #[.int .u32 0, .int .i64 30, .slice Ao36 y153.length co36, .int .i64 1, .int .i64 1, .int .i64 1, .int .i64 1] 36 (0, 0)) (by (with_reducible repeat (first | refine blk_drewN ?_ _ | refine blk_drew ?_ | refine blk_alloc ?_ _)); exact BK156.out) hb); have n3_ := Aside0.mk (below_step (by repeat (first | (with_reducible first | exact HB.out | apply below_alloc | apply pw_below_drewN | apply below_drew1 | refine below_set ?_ GE156.out) | exact HB.out)) hb); clear HO155; clear BK156; clear HB; have HO155 := n0_; have HO169 := n1_; have BK156 := n2_; have HB := n3_; clear n0_ n1_ n2_ n3_; (try clear hb); (try clear hb2); (try clear hk); (try clear hi); (try clear ho0)) | ((with_reducible refine gate_dst (N := 63) rfl ?_); (try (refine gate_guard (by rfl) ?_; dsimp only)); refine Kd.R_lit (Kd.int .u64) _ 22 ?hg (N := 63) ?hd (xs := ([4294967282, 18446744073709551614, 18446744073709551614] : List Int)) (inner := [.int .u64 4294967282, .int .u64 18446744073709551614, .int .u64 18446744073709551614]) (ok := fun _ => True) (okp := fun _ => True) ?hr ?hp (fun _ hk => hk) trivial (Below.refl _ _) (Nat.le_refl _) (by simp) ?_; (case hd => rfl); (case hg => rfl); (case hr => first | (go_simp; done) | (go_simp; rfl)); (case hp => exact (Reps.one (show Kd.M (Kd.int .u64) _ _ _ 4294967282 [.int .u64 4294967282] from rfl) (Reps.one (show Kd.M (Kd.int .u64) _ _ _ 18446744073709551614 [.int .u64 18446744073709551614] from rfl) (Reps.one (show Kd.M (Kd.int .u64) _ _ _ 18446744073709551614 [.int .u64 18446744073709551614] from rfl) (Reps.none _ _))))); intro v171 w42 ho43 hb hg_ hnew_; clear hg_ hnew_; (first | rw [← Ny170.out] at ho43 | (simp only [Int.reduceToNat] at ho43; rw [← Ny170.out] at ho43)); have n0_ := Aside0.mk (Kd.R_below (by (with_reducible repeat (first | apply Kd.R_alloc | apply Kd.R_drewN | apply Kd.R_drew)); exact HO155.out) hb); have n1_ := Aside0.mk (Kd.R_elder' (by (with_reducible repeat (first | apply Kd.R_alloc | apply Kd.R_drewN | apply Kd.R_drew)); exact HO169.out) (Kd.R_base ho43) hb); have n2_ := Aside0.mk (Kd.R_lower (Kd.R_new' ho43 (Kd.R_lt (by (with_reducible repeat (first | apply Kd.R_alloc | apply Kd.R_drewN | apply Kd.R_drew)); exact HO169.out))) (below_size (by repeat (first | (with_reducible first | exact HB.out | apply below_alloc | apply pw_below_drewN | apply below_drew1 | refine below_set ?_ GE156.out) | exact HB.out)))); have n3_ := Aside0.mk (blk_below (g := gb156) (o := .cells #[.int .u32 0, .int .i64 30, .slice Ao36 y153.length co36, .int .i64 1, .int .i64 1, .int .i64 1, .int .i64 1] 36 (0, 0)) (by (with_reducible repeat (first | refine blk_drewN ?_ _ | refine blk_drew ?_ | refine blk_alloc ?_ _)); exact BK156.out) hb); have n4_ := Aside0.mk (below_step (by repeat (first | (with_reducible first | exact HB.out | apply below_alloc | apply pw_below_drewN | apply below_drew1 | refine below_set ?_ GE156.out) | exact HB.out)) hb); clear HO155; clear HO169; clear BK156; clear HB; have HO155 := n0_; have HO169 := n1_; have HO172 := n2_; have BK156 := n3_; have HB := n4_; clear n0_ n1_ n2_ n3_ n4_; clear hb ho43; obtain ⟨Ao44, co44, eo44⟩ := Kd.R_slice HO169.out; subst eo44; obtain ⟨Ao45, co45, eo45⟩ := Kd.R_slice HO172.out; subst eo45) | (go_at_call 25; (with_reducible refine (lodgerref02_Same.calls k _ _ t167 _ _ y170 t173 _ ?side1 ?side2 ?side3 ?side4 A33.out).mono ?_); (case side1 => repeat (first | exact (Kd.R_reads' HO169.out).2.2 | (with_reducible refine Kd.C_alloc ?_ _) | (with_reducible refine Kd.C_drewN ?_ _) | (with_reducible refine Kd.C_drew ?_))); (case side2 => exact (Kd.R_reads' HO169.out).2.1); (case side3 => repeat (first | exact (Kd.R_reads' HO172.out).2.2 | (with_reducible refine Kd.C_alloc ?_ _) | (with_reducible refine Kd.C_drewN ?_ _) | (with_reducible refine Kd.C_drew ?_))); (case side4 => exact (Kd.R_reads' HO172.out).2.1); rintro e w' ⟨rfl, ⟨nd, rfl⟩⟩) | (go_at_call 23; (with_reducible refine (word_First.calls k t157 t158 true _ A2.out).mono ?_); rintro e w' ⟨rfl, ⟨nd, rfl⟩⟩) | (go_at_call 14; (with_reducible refine (word_Claim.calls t157 0 t160 _ A3.out).mono ?_); rintro e w' ⟨rfl, ⟨nd, rfl⟩⟩) | (go_at_call 16; (with_reducible refine (word_Drop.calls t160 0 t161 _ A4.out).mono ?_); rintro e w' ⟨rfl, ⟨nd, rfl⟩⟩))
                        go_ret
                        exact ⟨by first | rfl | (simp [errW_none, errW_some] <;> rfl) | (simp [*, errW_none, errW_some] <;> rfl), by repeat (first | (with_reducible first | exact HB.out | apply below_alloc | apply pw_below_drewN | apply below_drew1 | refine below_set ?_ GE156.out) | exact HB.out)⟩
                    · replace c31 := Bool.eq_false_iff.mpr c31
                      subst c31
                      have H1 : (some false) = some r := by rw [if_neg (show ¬ (false = true) by decide)] at H; exact H
                      rw [hr_.out] at H1
                      exact absurd (Option.some.inj H1) (by decide)
              · replace c13 := Bool.eq_false_iff.mpr c13
                subst c13
                have H1 : (some false) = some r := by rw [if_neg (show ¬ (false = true) by decide)] at H; exact H
                rw [hr_.out] at H1
                exact absurd (Option.some.inj H1) (by decide)
            · rw [if_neg c11] at H
              rw [hr_.out] at H
              exact absurd (Option.some.inj H) (by decide)
          · rw [if_neg c9] at H
            rw [hr_.out] at H
            exact absurd (Option.some.inj H) (by decide)
        · rw [if_neg c8] at H
          rw [hr_.out] at H
          exact absurd (Option.some.inj H) (by decide)
      · replace c7 := Bool.eq_false_iff.mpr c7
        subst c7
        have H1 : (some false) = some r := by rw [if_neg (show ¬ (false = true) by decide)] at H; exact H
        rw [hr_.out] at H1
        exact absurd (Option.some.inj H1) (by decide)
    · rw [if_neg c6] at H
      rw [hr_.out] at H
      exact absurd (Option.some.inj H) (by decide)
  · rw [if_neg c5] at H
    rw [hr_.out] at H
    exact absurd (Option.some.inj H) (by decide)

/-! ### lodgerlaw07_WordClaims: function 5 -/
mutual
def lodgerlaw07_WordClaims.j0 : Nat → Int → Int → Int → Int → Int → Bool → Option (Bool)
  | 0, _, _, _, _, _, _ => none
  | k + 1, x0, x7, x8, x9, x10, x49 => if x49 = true then (some false) else (if x7 = x8 then (lodgerlaw07_WordClaims.j1 k x0 x7 x9 x10 false) else ((word_Used.f x9 x8).bind fun t183 => ((word_Used.f x0 x8).bind fun t184 => (if (t183 != t184) = true then (lodgerlaw07_WordClaims.j1 k x0 x7 x9 x10 true) else ((word_Used.f x10 x8).bind fun t185 => ((word_Used.f x0 x8).bind fun t186 => (lodgerlaw07_WordClaims.j1 k x0 x7 x9 x10 (t185 != t186))))))))
def lodgerlaw07_WordClaims.j1 : Nat → Int → Int → Int → Int → Bool → Option (Bool)
  | 0, _, _, _, _, _ => none
  | k + 1, x0, x7, x9, x10, x70 => if x70 = true then (some false) else (if x9 = x0 then (some false) else (if x10 = x0 then (some false) else (if x9 = x10 then (some false) else ((word_Claim.f x9 x7).bind fun t187 => (if t187 = x9 then (some false) else ((word_Full.f k x9).bind fun t188 => (if t188 = true then (some true) else ((word_Full.f k x0).bind fun t189 => (some (!t189))))))))))
end
def lodgerlaw07_WordClaims.f (k : Nat) (a0 : Int) (a1 : Int) (a2 : Int) : Option (Bool) := (lodgerlaw07_awake.f k).bind fun t174 => (if t174 = true then ((word_Claim.f a0 (wrap64 (Int.tmod a1 32))).bind fun t175 => ((word_Drop.f t175 (wrap64 (Int.tmod a1 32))).bind fun t176 => ((word_Used.f t175 (wrap64 (Int.tmod a1 32))).bind fun t177 => (if t177 = true then ((word_Used.f t176 (wrap64 (Int.tmod a1 32))).bind fun t178 => (if t178 = true then (lodgerlaw07_WordClaims.j0 k a0 (wrap64 (Int.tmod a1 32)) (wrap64 (Int.tmod a2 32)) t175 t176 true) else ((word_Changes.f t175).bind fun t179 => ((word_Changes.f a0).bind fun t180 => (if t179 = ((t180 + 1) % 4294967296) then ((word_Changes.f t176).bind fun t181 => ((word_Changes.f a0).bind fun t182 => (lodgerlaw07_WordClaims.j0 k a0 (wrap64 (Int.tmod a1 32)) (wrap64 (Int.tmod a2 32)) t175 t176 (t181 != ((t182 + 2) % 4294967296))))) else (lodgerlaw07_WordClaims.j0 k a0 (wrap64 (Int.tmod a1 32)) (wrap64 (Int.tmod a2 32)) t175 t176 true)))))) else (lodgerlaw07_WordClaims.j0 k a0 (wrap64 (Int.tmod a1 32)) (wrap64 (Int.tmod a2 32)) t175 t176 true))))) else (some false))
theorem lodgerlaw07_WordClaims.mono_l : ∀ k, (∀ y0 y1 y2 y3 y4 y5, LeO (lodgerlaw07_WordClaims.j0 k y0 y1 y2 y3 y4 y5) (lodgerlaw07_WordClaims.j0 (k + 1) y0 y1 y2 y3 y4 y5)) ∧ (∀ y0 y1 y2 y3 y4, LeO (lodgerlaw07_WordClaims.j1 k y0 y1 y2 y3 y4) (lodgerlaw07_WordClaims.j1 (k + 1) y0 y1 y2 y3 y4))
  | 0 => ⟨fun _ _ _ _ _ _ r h => by simp [lodgerlaw07_WordClaims.j0] at h, fun _ _ _ _ _ r h => by simp [lodgerlaw07_WordClaims.j1] at h⟩
  | k + 1 => by
    obtain ⟨ih0, ih1⟩ := lodgerlaw07_WordClaims.mono_l k
    refine ⟨?_, ?_⟩
    · intro y0 y1 y2 y3 y4 y5
      unfold lodgerlaw07_WordClaims.j0
      repeat' first
      | (with_reducible exact ih0 _ _ _ _ _ _)
      | (with_reducible exact ih1 _ _ _ _ _)
      | (with_reducible exact lodgerlaw07_awake.mono _)
      | (with_reducible exact word_Full.mono _ _)
      | (with_reducible exact LeO.refl _)
      | (with_reducible exact LeO.none _)
      | (with_reducible refine LeO.ite ?_ ?_)
      | (with_reducible refine LeO.bind ?_ (fun _ => ?_))
      | exact ih0 _ _ _ _ _ _
      | exact ih1 _ _ _ _ _
      | exact lodgerlaw07_awake.mono _
      | exact word_Full.mono _ _
      | exact LeO.none _
      | refine LeO.ite ?_ ?_
      | refine LeO.bind ?_ (fun _ => ?_)
    · intro y0 y1 y2 y3 y4
      unfold lodgerlaw07_WordClaims.j1
      repeat' first
      | (with_reducible exact ih0 _ _ _ _ _ _)
      | (with_reducible exact ih1 _ _ _ _ _)
      | (with_reducible exact lodgerlaw07_awake.mono _)
      | (with_reducible exact word_Full.mono _ _)
      | (with_reducible exact LeO.refl _)
      | (with_reducible exact LeO.none _)
      | (with_reducible refine LeO.ite ?_ ?_)
      | (with_reducible refine LeO.bind ?_ (fun _ => ?_))
      | exact ih0 _ _ _ _ _ _
      | exact ih1 _ _ _ _ _
      | exact lodgerlaw07_awake.mono _
      | exact word_Full.mono _ _
      | exact LeO.none _
      | refine LeO.ite ?_ ?_
      | refine LeO.bind ?_ (fun _ => ?_)
theorem lodgerlaw07_WordClaims.mono : ∀ a0 a1 a2 k, LeO (lodgerlaw07_WordClaims.f k a0 a1 a2) (lodgerlaw07_WordClaims.f (k + 1) a0 a1 a2) := by
  intro a0 a1 a2 k
  obtain ⟨ih0, ih1⟩ := lodgerlaw07_WordClaims.mono_l k
  unfold lodgerlaw07_WordClaims.f
  repeat' first
      | (with_reducible exact ih0 _ _ _ _ _ _)
      | (with_reducible exact ih1 _ _ _ _ _)
      | (with_reducible exact lodgerlaw07_awake.mono _)
      | (with_reducible exact word_Full.mono _ _)
      | (with_reducible exact LeO.refl _)
      | (with_reducible exact LeO.none _)
      | (with_reducible refine LeO.ite ?_ ?_)
      | (with_reducible refine LeO.bind ?_ (fun _ => ?_))
      | exact ih0 _ _ _ _ _ _
      | exact ih1 _ _ _ _ _
      | exact lodgerlaw07_awake.mono _
      | exact word_Full.mono _ _
      | exact LeO.none _
      | refine LeO.ite ?_ ?_
      | refine LeO.bind ?_ (fun _ => ?_)
set_option maxHeartbeats 8000000 in
set_option maxRecDepth 100000 in
theorem lodgerlaw07_WordClaims.calls (k : Nat) (a0 : Int) (a1 : Int) (a2 : Int) (r : Bool) (w : World) (hr_ : r = true) (h : lodgerlaw07_WordClaims.f k a0 a1 a2 = some r) :
    Calls Try.prog 5 #[.int .u64 a0, .int .u8 a1, .int .u8 a2] w fun e w' => e = .returned (.bool r) ∧ Below w.heap.size w w' := by
  have HB := Aside0.mk (Below.refl w.heap.size w)
  replace hr_ := Aside0.mk hr_
  have H : ((lodgerlaw07_awake.f k).bind fun t174 => (if t174 = true then ((word_Claim.f a0 (wrap64 (Int.tmod a1 32))).bind fun t175 => ((word_Drop.f t175 (wrap64 (Int.tmod a1 32))).bind fun t176 => ((word_Used.f t175 (wrap64 (Int.tmod a1 32))).bind fun t177 => (if t177 = true then ((word_Used.f t176 (wrap64 (Int.tmod a1 32))).bind fun t178 => (if t178 = true then (lodgerlaw07_WordClaims.j0 k a0 (wrap64 (Int.tmod a1 32)) (wrap64 (Int.tmod a2 32)) t175 t176 true) else ((word_Changes.f t175).bind fun t179 => ((word_Changes.f a0).bind fun t180 => (if t179 = ((t180 + 1) % 4294967296) then ((word_Changes.f t176).bind fun t181 => ((word_Changes.f a0).bind fun t182 => (lodgerlaw07_WordClaims.j0 k a0 (wrap64 (Int.tmod a1 32)) (wrap64 (Int.tmod a2 32)) t175 t176 (t181 != ((t182 + 2) % 4294967296))))) else (lodgerlaw07_WordClaims.j0 k a0 (wrap64 (Int.tmod a1 32)) (wrap64 (Int.tmod a2 32)) t175 t176 true)))))) else (lodgerlaw07_WordClaims.j0 k a0 (wrap64 (Int.tmod a1 32)) (wrap64 (Int.tmod a2 32)) t175 t176 true))))) else (some false))) = some r := h
  clear h
  replace H := Option.bind_eq_some_iff.mp H
  obtain ⟨t174, A40, H⟩ := H
  replace H : (if t174 = true then ((word_Claim.f a0 (wrap64 (Int.tmod a1 32))).bind fun t175 => ((word_Drop.f t175 (wrap64 (Int.tmod a1 32))).bind fun t176 => ((word_Used.f t175 (wrap64 (Int.tmod a1 32))).bind fun t177 => (if t177 = true then ((word_Used.f t176 (wrap64 (Int.tmod a1 32))).bind fun t178 => (if t178 = true then (lodgerlaw07_WordClaims.j0 k a0 (wrap64 (Int.tmod a1 32)) (wrap64 (Int.tmod a2 32)) t175 t176 true) else ((word_Changes.f t175).bind fun t179 => ((word_Changes.f a0).bind fun t180 => (if t179 = ((t180 + 1) % 4294967296) then ((word_Changes.f t176).bind fun t181 => ((word_Changes.f a0).bind fun t182 => (lodgerlaw07_WordClaims.j0 k a0 (wrap64 (Int.tmod a1 32)) (wrap64 (Int.tmod a2 32)) t175 t176 (t181 != ((t182 + 2) % 4294967296))))) else (lodgerlaw07_WordClaims.j0 k a0 (wrap64 (Int.tmod a1 32)) (wrap64 (Int.tmod a2 32)) t175 t176 true)))))) else (lodgerlaw07_WordClaims.j0 k a0 (wrap64 (Int.tmod a1 32)) (wrap64 (Int.tmod a2 32)) t175 t176 true))))) else (some false)) = some r := H
  have A4 := Aside0.mk A40
  clear A40
  by_cases c5 : t174 = true
  · subst c5
    have H1 : ((word_Claim.f a0 (wrap64 (Int.tmod a1 32))).bind fun t175 => ((word_Drop.f t175 (wrap64 (Int.tmod a1 32))).bind fun t176 => ((word_Used.f t175 (wrap64 (Int.tmod a1 32))).bind fun t177 => (if t177 = true then ((word_Used.f t176 (wrap64 (Int.tmod a1 32))).bind fun t178 => (if t178 = true then (lodgerlaw07_WordClaims.j0 k a0 (wrap64 (Int.tmod a1 32)) (wrap64 (Int.tmod a2 32)) t175 t176 true) else ((word_Changes.f t175).bind fun t179 => ((word_Changes.f a0).bind fun t180 => (if t179 = ((t180 + 1) % 4294967296) then ((word_Changes.f t176).bind fun t181 => ((word_Changes.f a0).bind fun t182 => (lodgerlaw07_WordClaims.j0 k a0 (wrap64 (Int.tmod a1 32)) (wrap64 (Int.tmod a2 32)) t175 t176 (t181 != ((t182 + 2) % 4294967296))))) else (lodgerlaw07_WordClaims.j0 k a0 (wrap64 (Int.tmod a1 32)) (wrap64 (Int.tmod a2 32)) t175 t176 true)))))) else (lodgerlaw07_WordClaims.j0 k a0 (wrap64 (Int.tmod a1 32)) (wrap64 (Int.tmod a2 32)) t175 t176 true))))) = some r := by rw [if_pos rfl] at H; exact H
    clear H
    have H := H1
    clear H1
    replace H := Option.bind_eq_some_iff.mp H
    obtain ⟨t175, A60, H⟩ := H
    replace H : ((word_Drop.f t175 (wrap64 (Int.tmod a1 32))).bind fun t176 => ((word_Used.f t175 (wrap64 (Int.tmod a1 32))).bind fun t177 => (if t177 = true then ((word_Used.f t176 (wrap64 (Int.tmod a1 32))).bind fun t178 => (if t178 = true then (lodgerlaw07_WordClaims.j0 k a0 (wrap64 (Int.tmod a1 32)) (wrap64 (Int.tmod a2 32)) t175 t176 true) else ((word_Changes.f t175).bind fun t179 => ((word_Changes.f a0).bind fun t180 => (if t179 = ((t180 + 1) % 4294967296) then ((word_Changes.f t176).bind fun t181 => ((word_Changes.f a0).bind fun t182 => (lodgerlaw07_WordClaims.j0 k a0 (wrap64 (Int.tmod a1 32)) (wrap64 (Int.tmod a2 32)) t175 t176 (t181 != ((t182 + 2) % 4294967296))))) else (lodgerlaw07_WordClaims.j0 k a0 (wrap64 (Int.tmod a1 32)) (wrap64 (Int.tmod a2 32)) t175 t176 true)))))) else (lodgerlaw07_WordClaims.j0 k a0 (wrap64 (Int.tmod a1 32)) (wrap64 (Int.tmod a2 32)) t175 t176 true)))) = some r := H
    have A6 := Aside0.mk A60
    clear A60
    replace H := Option.bind_eq_some_iff.mp H
    obtain ⟨t176, A70, H⟩ := H
    replace H : ((word_Used.f t175 (wrap64 (Int.tmod a1 32))).bind fun t177 => (if t177 = true then ((word_Used.f t176 (wrap64 (Int.tmod a1 32))).bind fun t178 => (if t178 = true then (lodgerlaw07_WordClaims.j0 k a0 (wrap64 (Int.tmod a1 32)) (wrap64 (Int.tmod a2 32)) t175 t176 true) else ((word_Changes.f t175).bind fun t179 => ((word_Changes.f a0).bind fun t180 => (if t179 = ((t180 + 1) % 4294967296) then ((word_Changes.f t176).bind fun t181 => ((word_Changes.f a0).bind fun t182 => (lodgerlaw07_WordClaims.j0 k a0 (wrap64 (Int.tmod a1 32)) (wrap64 (Int.tmod a2 32)) t175 t176 (t181 != ((t182 + 2) % 4294967296))))) else (lodgerlaw07_WordClaims.j0 k a0 (wrap64 (Int.tmod a1 32)) (wrap64 (Int.tmod a2 32)) t175 t176 true)))))) else (lodgerlaw07_WordClaims.j0 k a0 (wrap64 (Int.tmod a1 32)) (wrap64 (Int.tmod a2 32)) t175 t176 true))) = some r := H
    have A7 := Aside0.mk A70
    clear A70
    have HC8 := Aside0.mk H
    clear H
    go_enter Try.func5, Try.ntmps5
    go_upto_region 7 with (first | ((with_reducible refine gate_callee (f := 8) rfl ?_); refine goesL_ (some 11) rfl rfl Try.func8 (by kernel_rfl) rfl #[] rfl (by (try simp only [List.map_toArray, List.map_cons, List.map_nil]); first | done | rfl | (simp only [List.length_drop, List.length_take]; rfl)) ?_; (with_reducible refine (lodgerlaw07_awake.calls k  true _ A4.out).mono ?_); rintro e w9 ⟨rfl, hb⟩; refine ⟨_, rfl, ?_⟩; have n0_ := Aside0.mk (below_step (by repeat (first | (with_reducible first | exact HB.out | apply below_alloc | apply pw_below_drewN | apply below_drew1) | exact HB.out)) hb); clear HB; have HB := n0_; clear n0_; (try clear hb); (try clear hb2); (try clear hk); (try clear hi)) | ((with_reducible refine gate_callee (f := 14) rfl ?_); refine goesL_ (some 21) rfl rfl Try.func14 (by kernel_rfl) rfl #[.int .u64 a0, .int .i64 (wrap64 (Int.tmod a1 32))] rfl (by (try simp only [List.map_toArray, List.map_cons, List.map_nil]); first | done | rfl | (simp only [List.length_drop, List.length_take]; rfl)) ?_; (with_reducible refine (word_Claim.calls a0 (wrap64 (Int.tmod a1 32)) t175 _ A6.out).mono ?_); rintro e w' ⟨rfl, ⟨nd, rfl⟩⟩; refine ⟨_, rfl, ?_⟩) | ((with_reducible refine gate_callee (f := 16) rfl ?_); refine goesL_ (some 24) rfl rfl Try.func16 (by kernel_rfl) rfl #[.int .u64 t175, .int .i64 (wrap64 (Int.tmod a1 32))] rfl (by (try simp only [List.map_toArray, List.map_cons, List.map_nil]); first | done | rfl | (simp only [List.length_drop, List.length_take]; rfl)) ?_; (with_reducible refine (word_Drop.calls t175 (wrap64 (Int.tmod a1 32)) t176 _ A7.out).mono ?_); rintro e w' ⟨rfl, ⟨nd, rfl⟩⟩; refine ⟨_, rfl, ?_⟩))
    (try simp only [Act.put, List.setIfInBounds_toArray, List.set_cons_zero, List.set_cons_succ])
    go_cut [49] (fun v49 wc => ∃ (kq : Nat) (x49_7 : Bool), v49 = .bool x49_7 ∧ Aside0 (lodgerlaw07_WordClaims.j0 kq a0 (wrap64 (Int.tmod a1 32)) (wrap64 (Int.tmod a2 32)) t175 t176 x49_7 = some r) ∧ Aside0 (kq ≤ k) ∧ Aside0 (Below w.heap.size w wc))
    case first =>
      have H := HC8.out
      clear HC8
      replace H := Option.bind_eq_some_iff.mp H
      obtain ⟨t177, A100, H⟩ := H
      replace H : (if t177 = true then ((word_Used.f t176 (wrap64 (Int.tmod a1 32))).bind fun t178 => (if t178 = true then (lodgerlaw07_WordClaims.j0 k a0 (wrap64 (Int.tmod a1 32)) (wrap64 (Int.tmod a2 32)) t175 t176 true) else ((word_Changes.f t175).bind fun t179 => ((word_Changes.f a0).bind fun t180 => (if t179 = ((t180 + 1) % 4294967296) then ((word_Changes.f t176).bind fun t181 => ((word_Changes.f a0).bind fun t182 => (lodgerlaw07_WordClaims.j0 k a0 (wrap64 (Int.tmod a1 32)) (wrap64 (Int.tmod a2 32)) t175 t176 (t181 != ((t182 + 2) % 4294967296))))) else (lodgerlaw07_WordClaims.j0 k a0 (wrap64 (Int.tmod a1 32)) (wrap64 (Int.tmod a2 32)) t175 t176 true)))))) else (lodgerlaw07_WordClaims.j0 k a0 (wrap64 (Int.tmod a1 32)) (wrap64 (Int.tmod a2 32)) t175 t176 true)) = some r := H
      have A10 := Aside0.mk A100
      clear A100
      by_cases c11 : t177 = true
      · subst c11
        have H1 : ((word_Used.f t176 (wrap64 (Int.tmod a1 32))).bind fun t178 => (if t178 = true then (lodgerlaw07_WordClaims.j0 k a0 (wrap64 (Int.tmod a1 32)) (wrap64 (Int.tmod a2 32)) t175 t176 true) else ((word_Changes.f t175).bind fun t179 => ((word_Changes.f a0).bind fun t180 => (if t179 = ((t180 + 1) % 4294967296) then ((word_Changes.f t176).bind fun t181 => ((word_Changes.f a0).bind fun t182 => (lodgerlaw07_WordClaims.j0 k a0 (wrap64 (Int.tmod a1 32)) (wrap64 (Int.tmod a2 32)) t175 t176 (t181 != ((t182 + 2) % 4294967296))))) else (lodgerlaw07_WordClaims.j0 k a0 (wrap64 (Int.tmod a1 32)) (wrap64 (Int.tmod a2 32)) t175 t176 true)))))) = some r := by rw [if_pos rfl] at H; exact H
        clear H
        have H := H1
        clear H1
        replace H := Option.bind_eq_some_iff.mp H
        obtain ⟨t178, A120, H⟩ := H
        replace H : (if t178 = true then (lodgerlaw07_WordClaims.j0 k a0 (wrap64 (Int.tmod a1 32)) (wrap64 (Int.tmod a2 32)) t175 t176 true) else ((word_Changes.f t175).bind fun t179 => ((word_Changes.f a0).bind fun t180 => (if t179 = ((t180 + 1) % 4294967296) then ((word_Changes.f t176).bind fun t181 => ((word_Changes.f a0).bind fun t182 => (lodgerlaw07_WordClaims.j0 k a0 (wrap64 (Int.tmod a1 32)) (wrap64 (Int.tmod a2 32)) t175 t176 (t181 != ((t182 + 2) % 4294967296))))) else (lodgerlaw07_WordClaims.j0 k a0 (wrap64 (Int.tmod a1 32)) (wrap64 (Int.tmod a2 32)) t175 t176 true))))) = some r := H
        have A12 := Aside0.mk A120
        clear A120
        by_cases c13 : t178 = true
        · subst c13
          have H1 : (lodgerlaw07_WordClaims.j0 k a0 (wrap64 (Int.tmod a1 32)) (wrap64 (Int.tmod a2 32)) t175 t176 true) = some r := by rw [if_pos rfl] at H; exact H
          clear H
          have H := H1
          clear H1
          have H' := Aside0.mk H
          clear H
          go_wp2_with (first | ((with_reducible refine gate_callee (f := 11) rfl ?_); refine goesL_ (some 27) rfl rfl Try.func11 (by kernel_rfl) rfl #[.int .u64 t175, .int .i64 (wrap64 (Int.tmod a1 32))] rfl (by (try simp only [List.map_toArray, List.map_cons, List.map_nil]); first | done | rfl | (simp only [List.length_drop, List.length_take]; rfl)) ?_; (with_reducible refine (word_Used.calls t175 (wrap64 (Int.tmod a1 32)) true _ A10.out).mono ?_); rintro e w' ⟨rfl, ⟨nd, rfl⟩⟩; refine ⟨_, rfl, ?_⟩) | (go_at_call 11; (with_reducible refine (word_Used.calls t176 (wrap64 (Int.tmod a1 32)) true _ A12.out).mono ?_); rintro e w' ⟨rfl, ⟨nd, rfl⟩⟩) | (go_at_call 11; (with_reducible refine (word_Used.calls t175 (wrap64 (Int.tmod a1 32)) true _ A10.out).mono ?_); rintro e w' ⟨rfl, ⟨nd, rfl⟩⟩))
          go_meet
          case rel => exact ⟨_, (true), (by first | rfl | (simp; done) | (simp [*]; done)), H', ⟨by first | omega | exact Nat.le_refl _⟩, ⟨by repeat (first | (with_reducible first | exact HB.out | apply below_alloc | apply pw_below_drewN | apply below_drew1) | exact HB.out)⟩⟩
        · replace c13 := Bool.eq_false_iff.mpr c13
          subst c13
          have H1 : ((word_Changes.f t175).bind fun t179 => ((word_Changes.f a0).bind fun t180 => (if t179 = ((t180 + 1) % 4294967296) then ((word_Changes.f t176).bind fun t181 => ((word_Changes.f a0).bind fun t182 => (lodgerlaw07_WordClaims.j0 k a0 (wrap64 (Int.tmod a1 32)) (wrap64 (Int.tmod a2 32)) t175 t176 (t181 != ((t182 + 2) % 4294967296))))) else (lodgerlaw07_WordClaims.j0 k a0 (wrap64 (Int.tmod a1 32)) (wrap64 (Int.tmod a2 32)) t175 t176 true)))) = some r := by rw [if_neg (show ¬ (false = true) by decide)] at H; exact H
          clear H
          have H := H1
          clear H1
          replace H := Option.bind_eq_some_iff.mp H
          obtain ⟨t179, A140, H⟩ := H
          replace H : ((word_Changes.f a0).bind fun t180 => (if t179 = ((t180 + 1) % 4294967296) then ((word_Changes.f t176).bind fun t181 => ((word_Changes.f a0).bind fun t182 => (lodgerlaw07_WordClaims.j0 k a0 (wrap64 (Int.tmod a1 32)) (wrap64 (Int.tmod a2 32)) t175 t176 (t181 != ((t182 + 2) % 4294967296))))) else (lodgerlaw07_WordClaims.j0 k a0 (wrap64 (Int.tmod a1 32)) (wrap64 (Int.tmod a2 32)) t175 t176 true))) = some r := H
          have A14 := Aside0.mk A140
          clear A140
          replace H := Option.bind_eq_some_iff.mp H
          obtain ⟨t180, A150, H⟩ := H
          replace H : (if t179 = ((t180 + 1) % 4294967296) then ((word_Changes.f t176).bind fun t181 => ((word_Changes.f a0).bind fun t182 => (lodgerlaw07_WordClaims.j0 k a0 (wrap64 (Int.tmod a1 32)) (wrap64 (Int.tmod a2 32)) t175 t176 (t181 != ((t182 + 2) % 4294967296))))) else (lodgerlaw07_WordClaims.j0 k a0 (wrap64 (Int.tmod a1 32)) (wrap64 (Int.tmod a2 32)) t175 t176 true)) = some r := H
          have A15 := Aside0.mk A150
          clear A150
          by_cases c16 : t179 = ((t180 + 1) % 4294967296)
          · rw [if_pos c16] at H
            have c16b0 : (t179 == ((t180 + 1) % 4294967296)) = true := beq_iff_eq.mpr c16
            have c16b1 : (t179 != ((t180 + 1) % 4294967296)) = false := bne_eq_false_iff_eq.mpr c16
            clear c16
            (first | rw [c16b0] | (simp only [i64_w, i32_w]; rw [c16b0]) | skip)
            replace H := Option.bind_eq_some_iff.mp H
            obtain ⟨t181, A170, H⟩ := H
            replace H : ((word_Changes.f a0).bind fun t182 => (lodgerlaw07_WordClaims.j0 k a0 (wrap64 (Int.tmod a1 32)) (wrap64 (Int.tmod a2 32)) t175 t176 (t181 != ((t182 + 2) % 4294967296)))) = some r := H
            have A17 := Aside0.mk A170
            clear A170
            replace H := Option.bind_eq_some_iff.mp H
            obtain ⟨t182, A180, H⟩ := H
            replace H : (lodgerlaw07_WordClaims.j0 k a0 (wrap64 (Int.tmod a1 32)) (wrap64 (Int.tmod a2 32)) t175 t176 (t181 != ((t182 + 2) % 4294967296))) = some r := H
            have A18 := Aside0.mk A180
            clear A180
            have E_ := A15.out.symm.trans A18.out
            replace E_ := Option.some.inj E_
            subst E_
            have H' := Aside0.mk H
            clear H
            go_wp2_with (first | ((with_reducible refine gate_callee (f := 11) rfl ?_); refine goesL_ (some 27) rfl rfl Try.func11 (by kernel_rfl) rfl #[.int .u64 t175, .int .i64 (wrap64 (Int.tmod a1 32))] rfl (by (try simp only [List.map_toArray, List.map_cons, List.map_nil]); first | done | rfl | (simp only [List.length_drop, List.length_take]; rfl)) ?_; (with_reducible refine (word_Used.calls t175 (wrap64 (Int.tmod a1 32)) true _ A10.out).mono ?_); rintro e w' ⟨rfl, ⟨nd, rfl⟩⟩; refine ⟨_, rfl, ?_⟩) | (go_at_call 11; (with_reducible refine (word_Used.calls t176 (wrap64 (Int.tmod a1 32)) false _ A12.out).mono ?_); rintro e w' ⟨rfl, ⟨nd, rfl⟩⟩) | (go_at_call 13; (with_reducible refine (word_Changes.calls t175 t179 _ A14.out).mono ?_); rintro e w' ⟨rfl, ⟨nd, rfl⟩⟩) | (go_at_call 13; (with_reducible refine (word_Changes.calls a0 t180 _ A15.out).mono ?_); rintro e w' ⟨rfl, ⟨nd, rfl⟩⟩) | (go_at_call 13; (with_reducible refine (word_Changes.calls t176 t181 _ A17.out).mono ?_); rintro e w' ⟨rfl, ⟨nd, rfl⟩⟩) | (go_at_call 13; (with_reducible refine (word_Changes.calls a0 t180 _ A18.out).mono ?_); rintro e w' ⟨rfl, ⟨nd, rfl⟩⟩) | (go_at_call 11; (with_reducible refine (word_Used.calls t175 (wrap64 (Int.tmod a1 32)) true _ A10.out).mono ?_); rintro e w' ⟨rfl, ⟨nd, rfl⟩⟩))
            go_meet
            case rel => exact ⟨_, ((t181 != ((t180 + 2) % 4294967296))), (by first | rfl | (simp; done) | (simp [*]; done)), H', ⟨by first | omega | exact Nat.le_refl _⟩, ⟨by repeat (first | (with_reducible first | exact HB.out | apply below_alloc | apply pw_below_drewN | apply below_drew1) | exact HB.out)⟩⟩
          · rw [if_neg c16] at H
            have c16b0 : (t179 == ((t180 + 1) % 4294967296)) = false := beq_eq_false_iff_ne.mpr c16
            have c16b1 : (t179 != ((t180 + 1) % 4294967296)) = true := bne_iff_ne.mpr c16
            (first | rw [c16b0] | (simp only [i64_w, i32_w]; rw [c16b0]) | skip)
            have H' := Aside0.mk H
            clear H
            go_wp2_with (first | ((with_reducible refine gate_callee (f := 11) rfl ?_); refine goesL_ (some 27) rfl rfl Try.func11 (by kernel_rfl) rfl #[.int .u64 t175, .int .i64 (wrap64 (Int.tmod a1 32))] rfl (by (try simp only [List.map_toArray, List.map_cons, List.map_nil]); first | done | rfl | (simp only [List.length_drop, List.length_take]; rfl)) ?_; (with_reducible refine (word_Used.calls t175 (wrap64 (Int.tmod a1 32)) true _ A10.out).mono ?_); rintro e w' ⟨rfl, ⟨nd, rfl⟩⟩; refine ⟨_, rfl, ?_⟩) | (go_at_call 11; (with_reducible refine (word_Used.calls t176 (wrap64 (Int.tmod a1 32)) false _ A12.out).mono ?_); rintro e w' ⟨rfl, ⟨nd, rfl⟩⟩) | (go_at_call 13; (with_reducible refine (word_Changes.calls t175 t179 _ A14.out).mono ?_); rintro e w' ⟨rfl, ⟨nd, rfl⟩⟩) | (go_at_call 13; (with_reducible refine (word_Changes.calls a0 t180 _ A15.out).mono ?_); rintro e w' ⟨rfl, ⟨nd, rfl⟩⟩) | (go_at_call 11; (with_reducible refine (word_Used.calls t175 (wrap64 (Int.tmod a1 32)) true _ A10.out).mono ?_); rintro e w' ⟨rfl, ⟨nd, rfl⟩⟩))
            go_meet
            case rel => exact ⟨_, (true), (by first | rfl | (simp; done) | (simp [*]; done)), H', ⟨by first | omega | exact Nat.le_refl _⟩, ⟨by repeat (first | (with_reducible first | exact HB.out | apply below_alloc | apply pw_below_drewN | apply below_drew1) | exact HB.out)⟩⟩
      · replace c11 := Bool.eq_false_iff.mpr c11
        subst c11
        have H1 : (lodgerlaw07_WordClaims.j0 k a0 (wrap64 (Int.tmod a1 32)) (wrap64 (Int.tmod a2 32)) t175 t176 true) = some r := by rw [if_neg (show ¬ (false = true) by decide)] at H; exact H
        clear H
        have H := H1
        clear H1
        have H' := Aside0.mk H
        clear H
        go_wp2_with (first | ((with_reducible refine gate_callee (f := 11) rfl ?_); refine goesL_ (some 27) rfl rfl Try.func11 (by kernel_rfl) rfl #[.int .u64 t175, .int .i64 (wrap64 (Int.tmod a1 32))] rfl (by (try simp only [List.map_toArray, List.map_cons, List.map_nil]); first | done | rfl | (simp only [List.length_drop, List.length_take]; rfl)) ?_; (with_reducible refine (word_Used.calls t175 (wrap64 (Int.tmod a1 32)) false _ A10.out).mono ?_); rintro e w' ⟨rfl, ⟨nd, rfl⟩⟩; refine ⟨_, rfl, ?_⟩) | (go_at_call 11; (with_reducible refine (word_Used.calls t175 (wrap64 (Int.tmod a1 32)) false _ A10.out).mono ?_); rintro e w' ⟨rfl, ⟨nd, rfl⟩⟩))
        go_meet
        case rel => exact ⟨_, (true), (by first | rfl | (simp; done) | (simp [*]; done)), H', ⟨by first | omega | exact Nat.le_refl _⟩, ⟨by repeat (first | (with_reducible first | exact HB.out | apply below_alloc | apply pw_below_drewN | apply below_drew1) | exact HB.out)⟩⟩
    case rest =>
      clear HC8
      try clear c1
      try clear p2
      try clear c5
      try clear p6
      try clear c8
      try clear c11
      try clear c13
      try clear c14
      try clear c16
      try clear c16b0
      try clear c16b1
      obtain ⟨kq, x49_7, rfl, HA, HJ7, HB⟩ := hcut
      cases kq with
      | zero => exact absurd HA.out (by simp [lodgerlaw07_WordClaims.j0])
      | succ kj7 =>
        have H := HA.out
        clear HA
        simp only [lodgerlaw07_WordClaims.j0] at H
        by_cases c19 : x49_7 = true
        · subst c19
          have H1 : (some false) = some r := by rw [if_pos rfl] at H; exact H
          rw [hr_.out] at H1
          exact absurd (Option.some.inj H1) (by decide)
        · replace c19 := Bool.eq_false_iff.mpr c19
          subst c19
          have H1 : (if (wrap64 (Int.tmod a1 32)) = (wrap64 (Int.tmod a2 32)) then (lodgerlaw07_WordClaims.j1 kj7 a0 (wrap64 (Int.tmod a1 32)) t175 t176 false) else ((word_Used.f t175 (wrap64 (Int.tmod a2 32))).bind fun t183 => ((word_Used.f a0 (wrap64 (Int.tmod a2 32))).bind fun t184 => (if (t183 != t184) = true then (lodgerlaw07_WordClaims.j1 kj7 a0 (wrap64 (Int.tmod a1 32)) t175 t176 true) else ((word_Used.f t176 (wrap64 (Int.tmod a2 32))).bind fun t185 => ((word_Used.f a0 (wrap64 (Int.tmod a2 32))).bind fun t186 => (lodgerlaw07_WordClaims.j1 kj7 a0 (wrap64 (Int.tmod a1 32)) t175 t176 (t185 != t186)))))))) = some r := by rw [if_neg (show ¬ (false = true) by decide)] at H; exact H
          clear H
          have H := H1
          clear H1
          have HC20 := Aside0.mk H
          clear H
          go_upto_region 9 with (fail)
          go_cut [70] (fun v70 wc => ∃ (kq : Nat) (x70_19 : Bool), v70 = .bool x70_19 ∧ Aside0 (lodgerlaw07_WordClaims.j1 kq a0 (wrap64 (Int.tmod a1 32)) t175 t176 x70_19 = some r) ∧ Aside0 (kq ≤ kj7) ∧ Aside0 (Below w.heap.size w wc))
          case first =>
            have H := HC20.out
            clear HC20
            by_cases c21 : (wrap64 (Int.tmod a1 32)) = (wrap64 (Int.tmod a2 32))
            · rw [if_pos c21] at H
              have c21b0 : ((wrap64 (Int.tmod a1 32)) == (wrap64 (Int.tmod a2 32))) = true := beq_iff_eq.mpr c21
              have c21b1 : ((wrap64 (Int.tmod a1 32)) != (wrap64 (Int.tmod a2 32))) = false := bne_eq_false_iff_eq.mpr c21
              clear c21
              (first | rw [c21b0] | (simp only [i64_w, i32_w]; rw [c21b0]) | skip)
              have H' := Aside0.mk H
              clear H
              go_wp2
              go_meet
              case rel => exact ⟨_, (false), (by first | rfl | (simp; done) | (simp [*]; done)), H', ⟨by have := HJ7.out; first | omega | exact Nat.le_refl _⟩, ⟨by repeat (first | (with_reducible first | exact HB.out | apply below_alloc | apply pw_below_drewN | apply below_drew1) | exact HB.out)⟩⟩
            · rw [if_neg c21] at H
              have c21b0 : ((wrap64 (Int.tmod a1 32)) == (wrap64 (Int.tmod a2 32))) = false := beq_eq_false_iff_ne.mpr c21
              have c21b1 : ((wrap64 (Int.tmod a1 32)) != (wrap64 (Int.tmod a2 32))) = true := bne_iff_ne.mpr c21
              (first | rw [c21b0] | (simp only [i64_w, i32_w]; rw [c21b0]) | skip)
              replace H := Option.bind_eq_some_iff.mp H
              obtain ⟨t183, A220, H⟩ := H
              replace H : ((word_Used.f a0 (wrap64 (Int.tmod a2 32))).bind fun t184 => (if (t183 != t184) = true then (lodgerlaw07_WordClaims.j1 kj7 a0 (wrap64 (Int.tmod a1 32)) t175 t176 true) else ((word_Used.f t176 (wrap64 (Int.tmod a2 32))).bind fun t185 => ((word_Used.f a0 (wrap64 (Int.tmod a2 32))).bind fun t186 => (lodgerlaw07_WordClaims.j1 kj7 a0 (wrap64 (Int.tmod a1 32)) t175 t176 (t185 != t186)))))) = some r := H
              have A22 := Aside0.mk A220
              clear A220
              replace H := Option.bind_eq_some_iff.mp H
              obtain ⟨t184, A230, H⟩ := H
              replace H : (if (t183 != t184) = true then (lodgerlaw07_WordClaims.j1 kj7 a0 (wrap64 (Int.tmod a1 32)) t175 t176 true) else ((word_Used.f t176 (wrap64 (Int.tmod a2 32))).bind fun t185 => ((word_Used.f a0 (wrap64 (Int.tmod a2 32))).bind fun t186 => (lodgerlaw07_WordClaims.j1 kj7 a0 (wrap64 (Int.tmod a1 32)) t175 t176 (t185 != t186))))) = some r := H
              have A23 := Aside0.mk A230
              clear A230
              by_cases c24 : (t183 != t184) = true
              · rw [if_pos c24] at H
                have c24b0 : (t183 != t184) = true := c24
                (try (have c24b1 : decide (t183 = t184) = false := by simpa using c24))
                (try (have c24b2 : (t183 == t184) = false := by simpa using c24))
                (try (have c24b3 : ¬ (t183 = t184) := by simpa using c24))
                clear c24
                have H' := Aside0.mk H
                clear H
                go_wp2_with (first | (go_at_call 11; (with_reducible refine (word_Used.calls t175 (wrap64 (Int.tmod a2 32)) t183 _ A22.out).mono ?_); rintro e w' ⟨rfl, ⟨nd, rfl⟩⟩) | (go_at_call 11; (with_reducible refine (word_Used.calls a0 (wrap64 (Int.tmod a2 32)) t184 _ A23.out).mono ?_); rintro e w' ⟨rfl, ⟨nd, rfl⟩⟩))
                go_meet
                case rel => exact ⟨_, (true), (by first | rfl | (simp; done) | (simp [*]; done)), H', ⟨by have := HJ7.out; first | omega | exact Nat.le_refl _⟩, ⟨by repeat (first | (with_reducible first | exact HB.out | apply below_alloc | apply pw_below_drewN | apply below_drew1) | exact HB.out)⟩⟩
              · rw [if_neg c24] at H
                have c24b0 : (t183 != t184) = false := by simpa using c24
                (try (have c24b1 : decide (t183 = t184) = true := by simpa using c24))
                (try (have c24b2 : (t183 == t184) = true := by simpa using c24))
                clear c24
                replace H := Option.bind_eq_some_iff.mp H
                obtain ⟨t185, A250, H⟩ := H
                replace H : ((word_Used.f a0 (wrap64 (Int.tmod a2 32))).bind fun t186 => (lodgerlaw07_WordClaims.j1 kj7 a0 (wrap64 (Int.tmod a1 32)) t175 t176 (t185 != t186))) = some r := H
                have A25 := Aside0.mk A250
                clear A250
                replace H := Option.bind_eq_some_iff.mp H
                obtain ⟨t186, A260, H⟩ := H
                replace H : (lodgerlaw07_WordClaims.j1 kj7 a0 (wrap64 (Int.tmod a1 32)) t175 t176 (t185 != t186)) = some r := H
                have A26 := Aside0.mk A260
                clear A260
                have E_ := A23.out.symm.trans A26.out
                replace E_ := Option.some.inj E_
                subst E_
                have H' := Aside0.mk H
                clear H
                go_wp2_with (first | (go_at_call 11; (with_reducible refine (word_Used.calls t175 (wrap64 (Int.tmod a2 32)) t183 _ A22.out).mono ?_); rintro e w' ⟨rfl, ⟨nd, rfl⟩⟩) | (go_at_call 11; (with_reducible refine (word_Used.calls a0 (wrap64 (Int.tmod a2 32)) t184 _ A23.out).mono ?_); rintro e w' ⟨rfl, ⟨nd, rfl⟩⟩) | (go_at_call 11; (with_reducible refine (word_Used.calls t176 (wrap64 (Int.tmod a2 32)) t185 _ A25.out).mono ?_); rintro e w' ⟨rfl, ⟨nd, rfl⟩⟩) | (go_at_call 11; (with_reducible refine (word_Used.calls a0 (wrap64 (Int.tmod a2 32)) t184 _ A26.out).mono ?_); rintro e w' ⟨rfl, ⟨nd, rfl⟩⟩))
                go_meet
                case rel => exact ⟨_, ((t185 != t184)), (by first | rfl | (simp; done) | (simp [*]; done)), H', ⟨by have := HJ7.out; first | omega | exact Nat.le_refl _⟩, ⟨by repeat (first | (with_reducible first | exact HB.out | apply below_alloc | apply pw_below_drewN | apply below_drew1) | exact HB.out)⟩⟩
          case rest =>
            clear HC20
            try clear c1
            try clear c2
            try clear p2
            try clear c5
            try clear p6
            try clear c8
            try clear c11
            try clear c13
            try clear c14
            try clear c16
            try clear c16b0
            try clear c16b1
            try clear c19
            try clear c21
            try clear c21b0
            try clear c21b1
            try clear c24
            try clear c24b0
            try clear c24b1
            try clear c24b2
            try clear p2
            try clear p6
            obtain ⟨kq, x70_19, rfl, HA, HJ19, HB⟩ := hcut
            cases kq with
            | zero => exact absurd HA.out (by simp [lodgerlaw07_WordClaims.j1])
            | succ kj19 =>
              have H := HA.out
              clear HA
              simp only [lodgerlaw07_WordClaims.j1] at H
              by_cases c27 : x70_19 = true
              · subst c27
                have H1 : (some false) = some r := by rw [if_pos rfl] at H; exact H
                rw [hr_.out] at H1
                exact absurd (Option.some.inj H1) (by decide)
              · replace c27 := Bool.eq_false_iff.mpr c27
                subst c27
                have H1 : (if t175 = a0 then (some false) else (if t176 = a0 then (some false) else (if t175 = t176 then (some false) else ((word_Claim.f t175 (wrap64 (Int.tmod a1 32))).bind fun t187 => (if t187 = t175 then (some false) else ((word_Full.f kj19 t175).bind fun t188 => (if t188 = true then (some true) else ((word_Full.f kj19 a0).bind fun t189 => (some (!t189)))))))))) = some r := by rw [if_neg (show ¬ (false = true) by decide)] at H; exact H
                clear H
                have H := H1
                clear H1
                by_cases c28 : t175 = a0
                · rw [if_pos c28] at H
                  rw [hr_.out] at H
                  exact absurd (Option.some.inj H) (by decide)
                · rw [if_neg c28] at H
                  have c28b0 : (t175 == a0) = false := beq_eq_false_iff_ne.mpr c28
                  have c28b1 : (t175 != a0) = true := bne_iff_ne.mpr c28
                  by_cases c29 : t176 = a0
                  · rw [if_pos c29] at H
                    rw [hr_.out] at H
                    exact absurd (Option.some.inj H) (by decide)
                  · rw [if_neg c29] at H
                    have c29b0 : (t176 == a0) = false := beq_eq_false_iff_ne.mpr c29
                    have c29b1 : (t176 != a0) = true := bne_iff_ne.mpr c29
                    by_cases c30 : t175 = t176
                    · rw [if_pos c30] at H
                      rw [hr_.out] at H
                      exact absurd (Option.some.inj H) (by decide)
                    · rw [if_neg c30] at H
                      have c30b0 : (t175 == t176) = false := beq_eq_false_iff_ne.mpr c30
                      have c30b1 : (t175 != t176) = true := bne_iff_ne.mpr c30
                      replace H := Option.bind_eq_some_iff.mp H
                      obtain ⟨t187, A310, H⟩ := H
                      replace H : (if t187 = t175 then (some false) else ((word_Full.f kj19 t175).bind fun t188 => (if t188 = true then (some true) else ((word_Full.f kj19 a0).bind fun t189 => (some (!t189)))))) = some r := H
                      have A31 := Aside0.mk A310
                      clear A310
                      by_cases c32 : t187 = t175
                      · rw [if_pos c32] at H
                        rw [hr_.out] at H
                        exact absurd (Option.some.inj H) (by decide)
                      · rw [if_neg c32] at H
                        have c32b0 : (t187 == t175) = false := beq_eq_false_iff_ne.mpr c32
                        have c32b1 : (t187 != t175) = true := bne_iff_ne.mpr c32
                        replace H := Option.bind_eq_some_iff.mp H
                        obtain ⟨t188, A330, H⟩ := H
                        replace H : (if t188 = true then (some true) else ((word_Full.f kj19 a0).bind fun t189 => (some (!t189)))) = some r := H
                        have A33 := Aside0.mk A330
                        clear A330
                        by_cases c34 : t188 = true
                        · subst c34
                          have H1 : (some true) = some r := by rw [if_pos rfl] at H; exact H
                          clear H
                          have H := H1
                          clear H1
                          first | (exfalso; rw [hr_.out] at H; exact absurd (Option.some.inj H) (by decide)) | (try clear hr_)
                          all_goals
                            obtain rfl := Option.some.inj H
                            go_wp2_with (first | (go_at_call 14; (with_reducible refine (word_Claim.calls t175 (wrap64 (Int.tmod a1 32)) t187 _ A31.out).mono ?_); rintro e w' ⟨rfl, ⟨nd, rfl⟩⟩) | (go_at_call 18; (with_reducible refine (word_Full.calls kj19 t175 true _ A33.out).mono ?_); rintro e w' ⟨rfl, ⟨nd, rfl⟩⟩))
                            go_ret
                            exact ⟨by first | rfl | (simp [errW_none, errW_some] <;> rfl) | (simp [*, errW_none, errW_some] <;> rfl), by repeat (first | (with_reducible first | exact HB.out | apply below_alloc | apply pw_below_drewN | apply below_drew1) | exact HB.out)⟩
                        · replace c34 := Bool.eq_false_iff.mpr c34
                          subst c34
                          have H1 : ((word_Full.f kj19 a0).bind fun t189 => (some (!t189))) = some r := by rw [if_neg (show ¬ (false = true) by decide)] at H; exact H
                          clear H
                          have H := H1
                          clear H1
                          replace H := Option.bind_eq_some_iff.mp H
                          obtain ⟨t189, A350, H⟩ := H
                          replace H : (some (!t189)) = some r := H
                          have A35 := Aside0.mk A350
                          clear A350
                          first | (exfalso; rw [hr_.out] at H; exact absurd (Option.some.inj H) (by decide)) | (try clear hr_)
                          all_goals
                            obtain rfl := Option.some.inj H
                            go_wp2_with (first | (go_at_call 14; (with_reducible refine (word_Claim.calls t175 (wrap64 (Int.tmod a1 32)) t187 _ A31.out).mono ?_); rintro e w' ⟨rfl, ⟨nd, rfl⟩⟩) | (go_at_call 18; (with_reducible refine (word_Full.calls kj19 t175 false _ A33.out).mono ?_); rintro e w' ⟨rfl, ⟨nd, rfl⟩⟩) | (go_at_call 18; (with_reducible refine (word_Full.calls kj19 a0 t189 _ A35.out).mono ?_); rintro e w' ⟨rfl, ⟨nd, rfl⟩⟩))
                            go_ret
                            exact ⟨by first | rfl | (simp [errW_none, errW_some] <;> rfl) | (simp [*, errW_none, errW_some] <;> rfl), by repeat (first | (with_reducible first | exact HB.out | apply below_alloc | apply pw_below_drewN | apply below_drew1) | exact HB.out)⟩
  · replace c5 := Bool.eq_false_iff.mpr c5
    subst c5
    have H1 : (some false) = some r := by rw [if_neg (show ¬ (false = true) by decide)] at H; exact H
    rw [hr_.out] at H1
    exact absurd (Option.some.inj H1) (by decide)

/-- THE ONE PURE STATEMENT of lodgerlaw07_WordClaims: yours. -/
def lodgerlaw07_WordClaims.Pure : Prop := ∀ (a0 : Int) (a1 : Int) (a2 : Int), (Lit.int .u64 a0).wf = true → (Lit.int .u8 a1).wf = true → (Lit.int .u8 a2).wf = true → ∃ k, lodgerlaw07_WordClaims.f k a0 a1 a2 = some true
theorem lodgerlaw07_WordClaims.walk (P : lodgerlaw07_WordClaims.Pure) (a0 : Int) (a1 : Int) (a2 : Int) (w : World) (w0 : (Lit.int .u64 a0).wf = true) (w1 : (Lit.int .u8 a1).wf = true) (w2 : (Lit.int .u8 a2).wf = true) :
    Calls Try.prog 5 #[.int .u64 a0, .int .u8 a1, .int .u8 a2] w fun e w' => e = .returned (.bool true) ∧ Below w.heap.size w w' := by
  obtain ⟨k, h⟩ := P a0 a1 a2 w0 w1 w2
  refine (lodgerlaw07_WordClaims.calls k a0 a1 a2 true w rfl h).mono ?_
  rintro e w' ⟨rfl, hd⟩
  exact ⟨rfl, hd⟩

end Go.Proofs.Ytdbpdpdpabhfbaa.PWordClaims
