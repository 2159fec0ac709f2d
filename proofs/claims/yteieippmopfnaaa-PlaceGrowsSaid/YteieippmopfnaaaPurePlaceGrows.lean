/- PlaceGrows answers true at every input: with an address more there is no leaf, top or cell less; no condition. -/
import Derived.Test.YteieippmopfnaaaQPlaceGrowsx1
namespace Go.Proofs.Yteieippmopfnaaa.Pure
open Go.RowKit Go.Proofs.Yteieippmopfnaaa.PPlaceGrows Go.Proofs.YteieippmopfnaaaW.PrintWords Go.Proofs.YteieippmopfnaaaW.PrintLast Go.Proofs.YteieippmopfnaaaW.PrintMore
set_option linter.unusedVariables false
set_option linter.unusedSimpArgs false

theorem w64 {x : Int} (h1 : -9223372036854775808 ≤ x) (h2 : x ≤ 9223372036854775807) : wrap64 x = x := by unfold wrap64; omega
theorem td {a b : Int} (h : 0 ≤ a) : Int.tdiv a b = a / b := Int.tdiv_eq_ediv_of_nonneg h
theorem tm {a b : Int} (h : 0 ≤ a) : Int.tmod a b = a % b := Int.tmod_eq_emod_of_nonneg h
theorem more {k N : Nat} (h : N + 1 ≤ k) : ∃ m, k = m + 1 ∧ N ≤ m := ⟨k - 1, by omega, by omega⟩
theorem wf_u16 {a : Int} (h : (Lit.int .u16 a).wf = true) : 0 ≤ a ∧ a ≤ 65535 := by
  simp [Lit.wf, IntKind.min, IntKind.max, IntKind.signed, IntKind.bits] at h
  omega
theorem wf_u8 {a : Int} (h : (Lit.int .u8 a).wf = true) : 0 ≤ a ∧ a ≤ 255 := by
  simp [Lit.wf, IntKind.min, IntKind.max, IntKind.signed, IntKind.bits] at h
  omega
theorem wf_u32 {a : Int} (h : (Lit.int .u32 a).wf = true) : 0 ≤ a ∧ a ≤ 4294967295 := by
  simp [Lit.wf, IntKind.min, IntKind.max, IntKind.signed, IntKind.bits] at h
  omega
theorem wf_u64 {a : Int} (h : (Lit.int .u64 a).wf = true) : 0 ≤ a ∧ a ≤ 18446744073709551615 := by
  simp [Lit.wf, IntKind.min, IntKind.max, IntKind.signed, IntKind.bits] at h
  omega
theorem wf_i64 {a : Int} (h : (Lit.int .i64 a).wf = true) : -9223372036854775808 ≤ a ∧ a ≤ 9223372036854775807 := by
  simp [Lit.wf, IntKind.min, IntKind.max, IntKind.signed, IntKind.bits] at h
  omega

theorem Leaf_eq {o : Int} (h0 : 0 ≤ o) (h1 : o ≤ 1000000000000) : place_Leaf.f o = some (o / 32, o % 32) := by
  unfold place_Leaf.f; rw [td h0, tm h0, w64 (by omega) (by omega)]
theorem up32 {n : Int} (h0 : 0 ≤ n) (h1 : n ≤ 1000000000000) : place_up_int.f n 32 = some ((n + 31) / 32) := by
  unfold place_up_int.f
  rw [if_neg (by omega), w64 (x := n + 32) (by omega) (by omega), w64 (x := n + 32 - 1) (by omega) (by omega), td (by omega), w64 (by omega) (by omega)]
  congr 1; omega
theorem up64 {n : Int} (h0 : 0 ≤ n) (h1 : n ≤ 1000000000000) : place_up_int.f n 64 = some ((n + 63) / 64) := by
  unfold place_up_int.f
  rw [if_neg (by omega), w64 (x := n + 64) (by omega) (by omega), w64 (x := n + 64 - 1) (by omega) (by omega), td (by omega), w64 (by omega) (by omega)]
  congr 1; omega
theorem Leaves_eq {n : Int} (h0 : 0 ≤ n) (h1 : n ≤ 1000000000000) : place_Leaves.f n = some ((n + 31) / 32) := by
  unfold place_Leaves.f; rw [up32 h0 h1]; rfl
theorem Tops_eq {n : Int} (h0 : 0 ≤ n) (h1 : n ≤ 1000000000000) : place_Tops.f n = some (((n + 31) / 32 + 63) / 64) := by
  unfold place_Tops.f; rw [Leaves_eq h0 h1, Option.bind_some, up64 (by omega) (by omega)]; rfl
theorem Cells_eq {n : Int} (h0 : 0 ≤ n) (h1 : n ≤ 1000000000000) : place_Cells.f n = some ((n + 31) / 32 + ((n + 31) / 32 + 63) / 64 + 1) := by
  unfold place_Cells.f; rw [Leaves_eq h0 h1, Option.bind_some, Tops_eq h0 h1, Option.bind_some, w64 (x := (n + 31) / 32 + ((n + 31) / 32 + 63) / 64) (by omega) (by omega), w64 (by omega) (by omega)]
theorem Top_eq {n l : Int} (h0 : 0 ≤ n) (h1 : n ≤ 1000000000000) (h2 : 0 ≤ l) (h3 : l ≤ 1000000000000) : place_Top.f n l = some ((n + 31) / 32 + l / 64, l % 64) := by
  unfold place_Top.f; rw [Leaves_eq h0 h1, Option.bind_some, td h2, tm h2, w64 (x := l / 64) (by omega) (by omega), w64 (by omega) (by omega)]
theorem Root_eq {n l : Int} (h0 : 0 ≤ n) (h1 : n ≤ 1000000000000) (h2 : 0 ≤ l) (h3 : l ≤ 1000000000000) : place_Root.f n l = some ((n + 31) / 32 + ((n + 31) / 32 + 63) / 64, l / 64) := by
  unfold place_Root.f; rw [Cells_eq h0 h1, Option.bind_some, td h2, w64 (x := l / 64) (by omega) (by omega), w64 (by omega) (by omega)]
  congr 2; omega
theorem Offset_eq {l b : Int} (h0 : 0 ≤ l) (h1 : l ≤ 1000000000000) (h2 : 0 ≤ b) (h3 : b ≤ 1000000000000) : place_Offset.f l b = some (l * 32 + b) := by
  unfold place_Offset.f; rw [w64 (x := l * 32) (by omega) (by omega), w64 (by omega) (by omega)]
theorem Width_eq {n l : Int} (h0 : 0 ≤ n) (h1 : n ≤ 1000000000000) (h2 : 0 ≤ l) (h3 : l ≤ 1000000000000) : place_Width.f n l = some (mn 32 (n - l * 32)) := by
  unfold place_Width.f; rw [w64 (x := l * 32) (by omega) (by omega), w64 (by omega) (by omega)]

theorem awake_true : lodgerlaw06_awake.f = some true := by decide +kernel
theorem PlaceGrows : lodgerlaw06_PlaceGrows.Pure := by
  intro a0 w0
  have b0 := wf_u16 w0
  refine ⟨6000, ?_⟩
  generalize hK : 6000 = k
  have hk : 6000 ≤ k := by omega
  clear hK
  obtain ⟨m, rfl, hm⟩ := more (N := 5999) hk
  unfold lodgerlaw06_PlaceGrows.f
  rw [awake_true, Option.bind_some, if_pos rfl]
  simp only [lodgerlaw06_PlaceGrows.j0]
  by_cases hc : a0 = 65535
  · rw [if_pos (by simp [hc]), awake_true]; rfl
  rw [if_neg (by simp [hc])]
  have e0 : wrap64 (wrap64 a0 + 1) = a0 + 1 := by rw [w64 (x := a0) (by omega) (by omega), w64 (by omega) (by omega)]
  have e1 : wrap64 (a0 + 1 + 1) = a0 + 1 + 1 := w64 (by omega) (by omega)
  rw [e0, e1]
  generalize hn : a0 + 1 = n at *
  rw [Leaves_eq (n := n) (by omega) (by omega), Leaves_eq (by omega) (by omega), Tops_eq (n := n) (by omega) (by omega), Tops_eq (by omega) (by omega), Cells_eq (n := n) (by omega) (by omega), Cells_eq (by omega) (by omega)]
  simp only [Option.bind_some, ↓reduceIte]
  rw [w64 (x := (n + 31) / 32 - 1) (by omega) (by omega), Width_eq (by omega) (by omega) (by omega) (by omega), Option.bind_some, w64 (x := (n + 1 + 31) / 32 - (n + 31) / 32) (by omega) (by omega),
    w64 (x := ((n + 31) / 32 + 63) / 64 + 1) (by omega) (by omega)]
  have hw : (mn 32 (n - ((n + 31) / 32 - 1) * 32) == 32) = decide (n % 32 = 0) := by
    rw [Bool.eq_iff_iff]; simp only [beq_iff_eq, decide_eq_true_eq]; unfold mn; split <;> omega
  have h1 : ((n + 1 + 31) / 32 - (n + 31) / 32 == 1) = decide (n % 32 = 0) := by
    rw [Bool.eq_iff_iff]; simp only [beq_iff_eq, decide_eq_true_eq]; omega
  have h2 : ((n + 1 + 31) / 32 - (n + 31) / 32 == 0) = !decide (n % 32 = 0) := by
    rw [Bool.eq_iff_iff]; simp only [beq_iff_eq, Bool.not_eq_true', decide_eq_false_iff_not]; omega
  rw [hw, h1, h2, if_pos (by simp), if_pos (by simp), if_pos (by omega), if_pos (by omega)]
  simp only [Option.some.injEq, decide_eq_true_eq]; omega

end Go.Proofs.Yteieippmopfnaaa.Pure
