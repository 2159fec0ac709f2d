/- PlaceTells answers true at every input: the places that package place tells are those that are counted; no condition. -/
import Derived.Test.YteieippmopfnaaaQPlaceTellsx2
namespace Go.Proofs.Yteieippmopfnaaa.Pure
open Go.RowKit Go.Proofs.Yteieippmopfnaaa.PPlaceTells Go.Proofs.YteieippmopfnaaaW.PrintWords Go.Proofs.YteieippmopfnaaaW.PrintLast Go.Proofs.YteieippmopfnaaaW.PrintMore
set_option linter.unusedVariables false
set_option linter.unusedSimpArgs false

theorem w64 {x : Int} (h1 : -9223372036854775808 ≤ x) (h2 : x ≤ 9223372036854775807) : wrap64 x = x := by unfold wrap64; omega
theorem td {a b : Int} (h : 0 ≤ a) : Int.tdiv a b = a / b := Int.tdiv_eq_ediv_of_nonneg h
theorem tm {a b : Int} (h : 0 ≤ a) : Int.tmod a b = a % b := Int.tmod_eq_emod_of_nonneg h
theorem more {k N : Nat} (h : N + 1 ≤ k) : ∃ m, k = m + 1 ∧ N ≤ m := ⟨k - 1, by omega, by omega⟩
theorem wf_u16 {a : Int} (h : (Lit.int .u16 a).wf = true) : 0 ≤ a ∧ a ≤ 65535 := by
  simp [Lit.wf, IntKind.min, IntKind.max, IntKind.signed, IntKind.bits] at h
  omega
theorem wf_u8 {a : Int} (h : (Lit.int .u8 a).wf = true) : 0 ≤ a ∧ a ≤ 255 := by
  simp [Lit.wf, IntKind.min, IntKind.max, IntKind.signed, IntKind.bits] at h
  omega
theorem wf_u32 {a : Int} (h : (Lit.int .u32 a).wf = true) : 0 ≤ a ∧ a ≤ 4294967295 := by
  simp [Lit.wf, IntKind.min, IntKind.max, IntKind.signed, IntKind.bits] at h
  omega
theorem wf_u64 {a : Int} (h : (Lit.int .u64 a).wf = true) : 0 ≤ a ∧ a ≤ 18446744073709551615 := by
  simp [Lit.wf, IntKind.min, IntKind.max, IntKind.signed, IntKind.bits] at h
  omega
theorem wf_i64 {a : Int} (h : (Lit.int .i64 a).wf = true) : -9223372036854775808 ≤ a ∧ a ≤ 9223372036854775807 := by
  simp [Lit.wf, IntKind.min, IntKind.max, IntKind.signed, IntKind.bits] at h
  omega

theorem Leaf_eq {o : Int} (h0 : 0 ≤ o) (h1 : o ≤ 1000000000000) : place_Leaf.f o = some (o / 32, o % 32) := by
  unfold place_Leaf.f; rw [td h0, tm h0, w64 (by omega) (by omega)]
theorem up32 {n : Int} (h0 : 0 ≤ n) (h1 : n ≤ 1000000000000) : place_up_int.f n 32 = some ((n + 31) / 32) := by
  unfold place_up_int.f
  rw [if_neg (by omega), w64 (x := n + 32) (by omega) (by omega), w64 (x := n + 32 - 1) (by omega) (by omega), td (by omega), w64 (by omega) (by omega)]
  congr 1; omega
theorem up64 {n : Int} (h0 : 0 ≤ n) (h1 : n ≤ 1000000000000) : place_up_int.f n 64 = some ((n + 63) / 64) := by
  unfold place_up_int.f
  rw [if_neg (by omega), w64 (x := n + 64) (by omega) (by omega), w64 (x := n + 64 - 1) (by omega) (by omega), td (by omega), w64 (by omega) (by omega)]
  congr 1; omega
theorem Leaves_eq {n : Int} (h0 : 0 ≤ n) (h1 : n ≤ 1000000000000) : place_Leaves.f n = some ((n + 31) / 32) := by
  unfold place_Leaves.f; rw [up32 h0 h1]; rfl
theorem Tops_eq {n : Int} (h0 : 0 ≤ n) (h1 : n ≤ 1000000000000) : place_Tops.f n = some (((n + 31) / 32 + 63) / 64) := by
  unfold place_Tops.f; rw [Leaves_eq h0 h1, Option.bind_some, up64 (by omega) (by omega)]; rfl
theorem Cells_eq {n : Int} (h0 : 0 ≤ n) (h1 : n ≤ 1000000000000) : place_Cells.f n = some ((n + 31) / 32 + ((n + 31) / 32 + 63) / 64 + 1) := by
  unfold place_Cells.f; rw [Leaves_eq h0 h1, Option.bind_some, Tops_eq h0 h1, Option.bind_some, w64 (x := (n + 31) / 32 + ((n + 31) / 32 + 63) / 64) (by omega) (by omega), w64 (by omega) (by omega)]
theorem Top_eq {n l : Int} (h0 : 0 ≤ n) (h1 : n ≤ 1000000000000) (h2 : 0 ≤ l) (h3 : l ≤ 1000000000000) : place_Top.f n l = some ((n + 31) / 32 + l / 64, l % 64) := by
  unfold place_Top.f; rw [Leaves_eq h0 h1, Option.bind_some, td h2, tm h2, w64 (x := l / 64) (by omega) (by omega), w64 (by omega) (by omega)]
theorem Root_eq {n l : Int} (h0 : 0 ≤ n) (h1 : n ≤ 1000000000000) (h2 : 0 ≤ l) (h3 : l ≤ 1000000000000) : place_Root.f n l = some ((n + 31) / 32 + ((n + 31) / 32 + 63) / 64, l / 64) := by
  unfold place_Root.f; rw [Cells_eq h0 h1, Option.bind_some, td h2, w64 (x := l / 64) (by omega) (by omega), w64 (by omega) (by omega)]
  congr 2; omega
theorem Offset_eq {l b : Int} (h0 : 0 ≤ l) (h1 : l ≤ 1000000000000) (h2 : 0 ≤ b) (h3 : b ≤ 1000000000000) : place_Offset.f l b = some (l * 32 + b) := by
  unfold place_Offset.f; rw [w64 (x := l * 32) (by omega) (by omega), w64 (by omega) (by omega)]
theorem Width_eq {n l : Int} (h0 : 0 ≤ n) (h1 : n ≤ 1000000000000) (h2 : 0 ≤ l) (h3 : l ≤ 1000000000000) : place_Width.f n l = some (mn 32 (n - l * 32)) := by
  unfold place_Width.f; rw [w64 (x := l * 32) (by omega) (by omega), w64 (by omega) (by omega)]

theorem refLeaves_l0 {n : Int} (h0 : 0 ≤ n) (h1 : n ≤ 100000) (d : Nat) : ∀ (k : Nat) (i : Int), 0 ≤ i → i ≤ (n + 31) / 32 → (n + 31) / 32 - i = d → d < k → lodgerref06_Leaves.l0 k n i = some ((n + 31) / 32) := by
  induction d with
  | zero =>
    intro k i hi0 hi1 hd hk
    obtain ⟨k, rfl⟩ : ∃ m, k = m + 1 := ⟨k - 1, by omega⟩
    simp only [lodgerref06_Leaves.l0]; rw [w64 (x := 32 * i) (by omega) (by omega), if_neg (by omega)]; congr 1; omega
  | succ d ih =>
    intro k i hi0 hi1 hd hk
    obtain ⟨k, rfl⟩ : ∃ m, k = m + 1 := ⟨k - 1, by omega⟩
    simp only [lodgerref06_Leaves.l0]; rw [w64 (x := 32 * i) (by omega) (by omega), if_pos (by omega), w64 (by omega) (by omega)]
    exact ih k (i + 1) (by omega) (by omega) (by omega) (by omega)
theorem refLeaves {n : Int} (h0 : 0 ≤ n) (h1 : n ≤ 100000) {k : Nat} (hk : 4000 ≤ k) : lodgerref06_Leaves.f k n = some ((n + 31) / 32) := by
  unfold lodgerref06_Leaves.f
  exact refLeaves_l0 h0 h1 ((n + 31) / 32).toNat k 0 (by omega) (by omega) (by omega) (by omega)

theorem refTops_l0 {n : Int} (h0 : 0 ≤ n) (h1 : n ≤ 100000) (d : Nat) : ∀ (k : Nat) (i : Int), 0 ≤ i → i ≤ ((n + 31) / 32 + 63) / 64 → ((n + 31) / 32 + 63) / 64 - i = d → d + 4000 < k → lodgerref06_Tops.l0 k n i = some (((n + 31) / 32 + 63) / 64) := by
  induction d with
  | zero =>
    intro k i hi0 hi1 hd hk
    obtain ⟨k, rfl⟩ : ∃ m, k = m + 1 := ⟨k - 1, by omega⟩
    simp only [lodgerref06_Tops.l0]; rw [refLeaves h0 h1 (by omega), Option.bind_some, w64 (x := 64 * i) (by omega) (by omega), if_neg (by omega)]; congr 1; omega
  | succ d ih =>
    intro k i hi0 hi1 hd hk
    obtain ⟨k, rfl⟩ : ∃ m, k = m + 1 := ⟨k - 1, by omega⟩
    simp only [lodgerref06_Tops.l0]; rw [refLeaves h0 h1 (by omega), Option.bind_some, w64 (x := 64 * i) (by omega) (by omega), if_pos (by omega), w64 (by omega) (by omega)]
    exact ih k (i + 1) (by omega) (by omega) (by omega) (by omega)
theorem refTops {n : Int} (h0 : 0 ≤ n) (h1 : n ≤ 100000) {k : Nat} (hk : 5000 ≤ k) : lodgerref06_Tops.f k n = some (((n + 31) / 32 + 63) / 64) := by
  unfold lodgerref06_Tops.f
  exact refTops_l0 h0 h1 (((n + 31) / 32 + 63) / 64).toNat k 0 (by omega) (by omega) (by omega) (by omega)

theorem refTop {n l : Int} (h0 : 0 ≤ n) (h1 : n ≤ 100000) (h2 : 0 ≤ l) (h3 : l ≤ 100000) {k : Nat} (hk : 5000 ≤ k) : lodgerref06_Top.f k n l = some ((n + 31) / 32 + l / 64, l % 64) := by
  unfold lodgerref06_Top.f; rw [refLeaves h0 h1 (by omega), Option.bind_some, td h2, w64 (x := l / 64) (by omega) (by omega), w64 (x := 64 * (l / 64)) (by omega) (by omega), w64 (x := l - 64 * (l / 64)) (by omega) (by omega), w64 (by omega) (by omega)]
  congr 2; omega
theorem refRoot {n l : Int} (h0 : 0 ≤ n) (h1 : n ≤ 100000) (h2 : 0 ≤ l) (h3 : l ≤ 100000) {k : Nat} (hk : 5000 ≤ k) : lodgerref06_Root.f k n l = some ((n + 31) / 32 + ((n + 31) / 32 + 63) / 64, l / 64) := by
  unfold lodgerref06_Root.f; rw [refLeaves h0 h1 (by omega), Option.bind_some, refTops h0 h1 hk, Option.bind_some, td h2, w64 (x := l / 64) (by omega) (by omega), w64 (by omega) (by omega)]

theorem refCells {n : Int} (h0 : 0 ≤ n) (h1 : n ≤ 100000) {k : Nat} (hk : 5000 ≤ k) : lodgerref06_Cells.f k n = some ((n + 31) / 32 + ((n + 31) / 32 + 63) / 64 + 1) := by
  unfold lodgerref06_Cells.f; rw [refLeaves h0 h1 (by omega), Option.bind_some, refTops h0 h1 hk, Option.bind_some, w64 (x := (n + 31) / 32 + ((n + 31) / 32 + 63) / 64) (by omega) (by omega), w64 (by omega) (by omega)]

theorem refWidth_l0 {n l : Int} (h0 : 0 ≤ n) (h1 : n ≤ 100000) (h2 : 0 ≤ l) (h3 : l * 32 ≤ n) (d : Nat) : ∀ (k : Nat) (b : Int), 0 ≤ b → b ≤ 32 → 32 - b = d → d < k → lodgerref06_Width.l0 k n l (mn b (n - l * 32)) b = some (mn 32 (n - l * 32)) := by
  induction d with
  | zero =>
    intro k b hb0 hb1 hd hk
    obtain ⟨k, rfl⟩ : ∃ m, k = m + 1 := ⟨k - 1, by omega⟩
    obtain rfl : b = 32 := by omega
    simp only [lodgerref06_Width.l0]; rw [if_neg (by omega)]
  | succ d ih =>
    intro k b hb0 hb1 hd hk
    obtain ⟨k, rfl⟩ : ∃ m, k = m + 1 := ⟨k - 1, by omega⟩
    have hm : 0 ≤ mn b (n - l * 32) ∧ mn b (n - l * 32) ≤ b := by unfold mn; split <;> omega
    simp only [lodgerref06_Width.l0]; rw [if_pos (by omega), w64 (x := 32 * l) (by omega) (by omega), w64 (x := 32 * l + b) (by omega) (by omega), w64 (x := b + 1) (by omega) (by omega), w64 (by omega) (by omega)]
    have := ih k (b + 1) (by omega) (by omega) (by omega) (by omega)
    by_cases hc : 32 * l + b < n
    · rw [if_pos hc]
      rw [show mn b (n - l * 32) + 1 = mn (b + 1) (n - l * 32) by unfold mn; split <;> split <;> omega]; exact this
    · rw [if_neg hc]
      rw [show mn b (n - l * 32) = mn (b + 1) (n - l * 32) by unfold mn; split <;> split <;> omega]; exact this
theorem refWidth {n l : Int} (h0 : 0 ≤ n) (h1 : n ≤ 100000) (h2 : 0 ≤ l) (h3 : l * 32 ≤ n) {k : Nat} (hk : 40 ≤ k) : lodgerref06_Width.f k n l = some (mn 32 (n - l * 32)) := by
  unfold lodgerref06_Width.f
  have := refWidth_l0 h0 h1 h2 h3 32 k 0 (by omega) (by omega) (by omega) (by omega)
  rwa [show mn 0 (n - l * 32) = 0 by unfold mn; split <;> omega] at this

theorem awake_true : lodgerlaw06_awake.f = some true := by decide +kernel
theorem PlaceTells : lodgerlaw06_PlaceTells.Pure := by
  intro a0 a1 w0 w1
  have b0 := wf_u16 w0
  have b1 := wf_u16 w1
  refine ⟨6000, ?_⟩
  generalize hK : 6000 = k
  have hk : 6000 ≤ k := by omega
  clear hK
  have e0 : wrap64 (wrap64 a0 + 1) = a0 + 1 := by rw [w64 (x := a0) (by omega) (by omega), w64 (by omega) (by omega)]
  have e1 : wrap64 a1 = a1 := w64 (by omega) (by omega)
  have e2 : Int.tmod a1 (a0 + 1) = a1 % (a0 + 1) := tm (by omega)
  have o0 := Int.emod_nonneg a1 (show a0 + 1 ≠ 0 by omega)
  have o1 := Int.emod_lt_of_pos a1 (show 0 < a0 + 1 by omega)
  unfold lodgerlaw06_PlaceTells.f
  rw [awake_true, Option.bind_some, if_pos rfl, e0, e1, e2]
  generalize a1 % (a0 + 1) = o at o0 o1
  generalize hn : a0 + 1 = n at *
  have e3 : Int.tdiv o 32 = o / 32 := td (by omega)
  have e4 : wrap64 (o / 32) = o / 32 := w64 (by omega) (by omega)
  have e5 : Int.tmod o 32 = o % 32 := tm (by omega)
  rw [if_neg (by omega), Leaf_eq (by omega) (by omega), e3, e4, e5]
  simp only [Option.bind_some, ↓reduceIte]
  rw [Top_eq (by omega) (by omega) (by omega) (by omega), refTop (by omega) (by omega) (by omega) (by omega) (by omega), Root_eq (by omega) (by omega) (by omega) (by omega), refRoot (by omega) (by omega) (by omega) (by omega) (by omega),
    Leaves_eq (by omega) (by omega), refLeaves (by omega) (by omega) (by omega)]
  simp only [Option.bind_some, ↓reduceIte]
  rw [Tops_eq (by omega) (by omega), refTops (by omega) (by omega) (by omega)]
  simp only [Option.bind_some, ↓reduceIte]
  rw [Cells_eq (by omega) (by omega), refCells (by omega) (by omega) (by omega)]
  simp only [Option.bind_some, ↓reduceIte]
  rw [Offset_eq (by omega) (by omega) (by omega) (by omega)]
  simp only [Option.bind_some, ↓reduceIte]
  rw [if_pos (by omega), Width_eq (by omega) (by omega) (by omega) (by omega), refWidth (by omega) (by omega) (by omega) (by omega) (by omega)]
  simp

end Go.Proofs.Yteieippmopfnaaa.Pure
