/- PlaceSums answers true at every input: where leaves and tops are summed; no condition. -/
import Derived.Test.YteieippmopfnaaaQPlaceSumsx1
namespace Go.Proofs.Yteieippmopfnaaa.Pure
open Go.RowKit Go.Proofs.Yteieippmopfnaaa.PPlaceSums Go.Proofs.YteieippmopfnaaaW.PrintWords Go.Proofs.YteieippmopfnaaaW.PrintLast Go.Proofs.YteieippmopfnaaaW.PrintMore
set_option linter.unusedVariables false
set_option linter.unusedSimpArgs false

theorem w64 {x : Int} (h1 : -9223372036854775808 ≤ x) (h2 : x ≤ 9223372036854775807) : wrap64 x = x := by unfold wrap64; omega
theorem td {a b : Int} (h : 0 ≤ a) : Int.tdiv a b = a / b := Int.tdiv_eq_ediv_of_nonneg h
theorem tm {a b : Int} (h : 0 ≤ a) : Int.tmod a b = a % b := Int.tmod_eq_emod_of_nonneg h
theorem more {k N : Nat} (h : N + 1 ≤ k) : ∃ m, k = m + 1 ∧ N ≤ m := ⟨k - 1, by omega, by omega⟩
theorem wf_u16 {a : Int} (h : (Lit.int .u16 a).wf = true) : 0 ≤ a ∧ a ≤ 65535 := by
  simp [Lit.wf, IntKind.min, IntKind.max, IntKind.signed, IntKind.bits] at h
  omega
theorem wf_u8 {a : Int} (h : (Lit.int .u8 a).wf = true) : 0 ≤ a ∧ a ≤ 255 := by
  simp [Lit.wf, IntKind.min, IntKind.max, IntKind.signed, IntKind.bits] at h
  omega
theorem wf_u32 {a : Int} (h : (Lit.int .u32 a).wf = true) : 0 ≤ a ∧ a ≤ 4294967295 := by
  simp [Lit.wf, IntKind.min, IntKind.max, IntKind.signed, IntKind.bits] at h
  omega
theorem wf_u64 {a : Int} (h : (Lit.int .u64 a).wf = true) : 0 ≤ a ∧ a ≤ 18446744073709551615 := by
  simp [Lit.wf, IntKind.min, IntKind.max, IntKind.signed, IntKind.bits] at h
  omega
theorem wf_i64 {a : Int} (h : (Lit.int .i64 a).wf = true) : -9223372036854775808 ≤ a ∧ a ≤ 9223372036854775807 := by
  simp [Lit.wf, IntKind.min, IntKind.max, IntKind.signed, IntKind.bits] at h
  omega

theorem Leaf_eq {o : Int} (h0 : 0 ≤ o) (h1 : o ≤ 1000000000000) : place_Leaf.f o = some (o / 32, o % 32) := by
  unfold place_Leaf.f; rw [td h0, tm h0, w64 (by omega) (by omega)]
theorem up32 {n : Int} (h0 : 0 ≤ n) (h1 : n ≤ 1000000000000) : place_up_int.f n 32 = some ((n + 31) / 32) := by
  unfold place_up_int.f
  rw [if_neg (by omega), w64 (x := n + 32) (by omega) (by omega), w64 (x := n + 32 - 1) (by omega) (by omega), td (by omega), w64 (by omega) (by omega)]
  congr 1; omega
theorem up64 {n : Int} (h0 : 0 ≤ n) (h1 : n ≤ 1000000000000) : place_up_int.f n 64 = some ((n + 63) / 64) := by
  unfold place_up_int.f
  rw [if_neg (by omega), w64 (x := n + 64) (by omega) (by omega), w64 (x := n + 64 - 1) (by omega) (by omega), td (by omega), w64 (by omega) (by omega)]
  congr 1; omega
theorem Leaves_eq {n : Int} (h0 : 0 ≤ n) (h1 : n ≤ 1000000000000) : place_Leaves.f n = some ((n + 31) / 32) := by
  unfold place_Leaves.f; rw [up32 h0 h1]; rfl
theorem Tops_eq {n : Int} (h0 : 0 ≤ n) (h1 : n ≤ 1000000000000) : place_Tops.f n = some (((n + 31) / 32 + 63) / 64) := by
  unfold place_Tops.f; rw [Leaves_eq h0 h1, Option.bind_some, up64 (by omega) (by omega)]; rfl
theorem Cells_eq {n : Int} (h0 : 0 ≤ n) (h1 : n ≤ 1000000000000) : place_Cells.f n = some ((n + 31) / 32 + ((n + 31) / 32 + 63) / 64 + 1) := by
  unfold place_Cells.f; rw [Leaves_eq h0 h1, Option.bind_some, Tops_eq h0 h1, Option.bind_some, w64 (x := (n + 31) / 32 + ((n + 31) / 32 + 63) / 64) (by omega) (by omega), w64 (by omega) (by omega)]
theorem Top_eq {n l : Int} (h0 : 0 ≤ n) (h1 : n ≤ 1000000000000) (h2 : 0 ≤ l) (h3 : l ≤ 1000000000000) : place_Top.f n l = some ((n + 31) / 32 + l / 64, l % 64) := by
  unfold place_Top.f; rw [Leaves_eq h0 h1, Option.bind_some, td h2, tm h2, w64 (x := l / 64) (by omega) (by omega), w64 (by omega) (by omega)]
theorem Root_eq {n l : Int} (h0 : 0 ≤ n) (h1 : n ≤ 1000000000000) (h2 : 0 ≤ l) (h3 : l ≤ 1000000000000) : place_Root.f n l = some ((n + 31) / 32 + ((n + 31) / 32 + 63) / 64, l / 64) := by
  unfold place_Root.f; rw [Cells_eq h0 h1, Option.bind_some, td h2, w64 (x := l / 64) (by omega) (by omega), w64 (by omega) (by omega)]
  congr 2; omega
theorem Offset_eq {l b : Int} (h0 : 0 ≤ l) (h1 : l ≤ 1000000000000) (h2 : 0 ≤ b) (h3 : b ≤ 1000000000000) : place_Offset.f l b = some (l * 32 + b) := by
  unfold place_Offset.f; rw [w64 (x := l * 32) (by omega) (by omega), w64 (by omega) (by omega)]
theorem Width_eq {n l : Int} (h0 : 0 ≤ n) (h1 : n ≤ 1000000000000) (h2 : 0 ≤ l) (h3 : l ≤ 1000000000000) : place_Width.f n l = some (mn 32 (n - l * 32)) := by
  unfold place_Width.f; rw [w64 (x := l * 32) (by omega) (by omega), w64 (by omega) (by omega)]

theorem awake_true : lodgerlaw06_awake.f = some true := by decide +kernel
theorem PlaceSums : lodgerlaw06_PlaceSums.Pure := by
  intro a0 a1 a2 w0 w1 w2
  have b0 := wf_u16 w0
  have b1 := wf_u16 w1
  have b2 := wf_u16 w2
  refine ⟨6000, ?_⟩
  generalize hK : 6000 = k
  have hk : 6000 ≤ k := by omega
  clear hK
  have e0 : wrap64 (wrap64 a0 + 1) = a0 + 1 := by rw [w64 (x := a0) (by omega) (by omega), w64 (by omega) (by omega)]
  have e1 : wrap64 a1 = a1 := w64 (by omega) (by omega)
  have e1' : wrap64 a2 = a2 := w64 (by omega) (by omega)
  unfold lodgerlaw06_PlaceSums.f
  rw [awake_true, Option.bind_some, if_pos rfl, e0, e1, e1']
  generalize hn : a0 + 1 = n at *
  rw [Leaves_eq (by omega) (by omega)]
  simp only [Option.bind_some, ↓reduceIte]
  rw [if_neg (by omega), if_neg (by omega)]
  have e2 : Int.tmod a1 ((n + 31) / 32) = a1 % ((n + 31) / 32) := tm (by omega)
  have e2' : Int.tmod a2 ((n + 31) / 32) = a2 % ((n + 31) / 32) := tm (by omega)
  have o0 := Int.emod_nonneg a1 (show (n + 31) / 32 ≠ 0 by omega)
  have o1 := Int.emod_lt_of_pos a1 (show 0 < (n + 31) / 32 by omega)
  have p0 := Int.emod_nonneg a2 (show (n + 31) / 32 ≠ 0 by omega)
  have p1 := Int.emod_lt_of_pos a2 (show 0 < (n + 31) / 32 by omega)
  rw [e2, e2']
  generalize a1 % ((n + 31) / 32) = o at o0 o1
  generalize a2 % ((n + 31) / 32) = p at p0 p1
  rw [Top_eq (by omega) (by omega) (by omega) (by omega), Top_eq (by omega) (by omega) (by omega) (by omega), Root_eq (by omega) (by omega) (by omega) (by omega), Root_eq (by omega) (by omega) (by omega) (by omega), Cells_eq (by omega) (by omega)]
  simp only [Option.bind_some, ↓reduceIte]
  have hj : ∀ b, b = false → lodgerlaw06_PlaceSums.j0 k n ((n + 31) / 32 + o / 64) ((n + 31) / 32 + p / 64) ((n + 31) / 32 + ((n + 31) / 32 + 63) / 64) (o / 64) ((n + 31) / 32 + ((n + 31) / 32 + 63) / 64) (p / 64) b = some true := by
    rintro b rfl
    obtain ⟨m, rfl, hm⟩ := more (N := 5999) hk
    simp only [lodgerlaw06_PlaceSums.j0]
    rw [if_neg (by simp), Cells_eq (by omega) (by omega), Option.bind_some, w64 (x := (n + 31) / 32 + ((n + 31) / 32 + 63) / 64 + 1 - 1) (by omega) (by omega), if_pos (by omega), if_pos trivial, if_pos, if_pos (by omega),
      Tops_eq (by omega) (by omega), Option.bind_some, if_pos (by omega), Option.bind_some, Leaves_eq (by omega) (by omega), Option.bind_some, Option.bind_some, w64 (x := (n + 31) / 32 + ((n + 31) / 32 + 63) / 64) (by omega) (by omega), w64 (by omega) (by omega)]
    · simp
    · rw [beq_iff_eq, Bool.eq_iff_iff]; simp only [beq_iff_eq]; omega
  rw [if_neg (by omega), w64 (by omega) (by omega), if_neg (by omega), if_neg (by omega), if_neg (by omega)]
  by_cases hc : (n + 31) / 32 + o / 64 = (n + 31) / 32 + p / 64
  · rw [if_pos hc, hj]
    have : (o % 64 == p % 64) = (o == p) := by rw [Bool.eq_iff_iff]; simp only [beq_iff_eq]; omega
    rw [this]; simp
  · rw [if_neg hc, hj]
    have : (o == p) = false := by simp only [beq_eq_false_iff_ne, ne_eq]; omega
    rw [this]; simp

end Go.Proofs.Yteieippmopfnaaa.Pure
