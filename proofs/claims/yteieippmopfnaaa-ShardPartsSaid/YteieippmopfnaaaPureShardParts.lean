/- ShardParts answers true at every input: as many shards as leaves have one leaf each, one shard has all, and shards beyond the leaves have none; no condition. -/
import Derived.Test.YteieippmopfnaaaQShardPartsx2
namespace Go.Proofs.Yteieippmopfnaaa.Pure
open Go.RowKit Go.Proofs.Yteieippmopfnaaa.PShardParts Go.Proofs.YteieippmopfnaaaW.PrintWords Go.Proofs.YteieippmopfnaaaW.PrintLast Go.Proofs.YteieippmopfnaaaW.PrintMore
set_option linter.unusedVariables false
set_option linter.unusedSimpArgs false

theorem w64 {x : Int} (h1 : -9223372036854775808 ≤ x) (h2 : x ≤ 9223372036854775807) : wrap64 x = x := by unfold wrap64; omega
theorem td {a b : Int} (h : 0 ≤ a) : Int.tdiv a b = a / b := Int.tdiv_eq_ediv_of_nonneg h
theorem tm {a b : Int} (h : 0 ≤ a) : Int.tmod a b = a % b := Int.tmod_eq_emod_of_nonneg h
theorem more {k N : Nat} (h : N + 1 ≤ k) : ∃ m, k = m + 1 ∧ N ≤ m := ⟨k - 1, by omega, by omega⟩
theorem wf_u16 {a : Int} (h : (Lit.int .u16 a).wf = true) : 0 ≤ a ∧ a ≤ 65535 := by
  simp [Lit.wf, IntKind.min, IntKind.max, IntKind.signed, IntKind.bits] at h
  omega
theorem wf_u8 {a : Int} (h : (Lit.int .u8 a).wf = true) : 0 ≤ a ∧ a ≤ 255 := by
  simp [Lit.wf, IntKind.min, IntKind.max, IntKind.signed, IntKind.bits] at h
  omega
theorem wf_u32 {a : Int} (h : (Lit.int .u32 a).wf = true) : 0 ≤ a ∧ a ≤ 4294967295 := by
  simp [Lit.wf, IntKind.min, IntKind.max, IntKind.signed, IntKind.bits] at h
  omega
theorem wf_u64 {a : Int} (h : (Lit.int .u64 a).wf = true) : 0 ≤ a ∧ a ≤ 18446744073709551615 := by
  simp [Lit.wf, IntKind.min, IntKind.max, IntKind.signed, IntKind.bits] at h
  omega
theorem wf_i64 {a : Int} (h : (Lit.int .i64 a).wf = true) : -9223372036854775808 ≤ a ∧ a ≤ 9223372036854775807 := by
  simp [Lit.wf, IntKind.min, IntKind.max, IntKind.signed, IntKind.bits] at h
  omega

theorem refLeaves_l0 {n : Int} (h0 : 0 ≤ n) (h1 : n ≤ 100000) (d : Nat) : ∀ (k : Nat) (i : Int), 0 ≤ i → i ≤ (n + 31) / 32 → (n + 31) / 32 - i = d → d < k → lodgerref06_Leaves.l0 k n i = some ((n + 31) / 32) := by
  induction d with
  | zero =>
    intro k i hi0 hi1 hd hk
    obtain ⟨k, rfl⟩ : ∃ m, k = m + 1 := ⟨k - 1, by omega⟩
    simp only [lodgerref06_Leaves.l0]; rw [w64 (x := 32 * i) (by omega) (by omega), if_neg (by omega)]; congr 1; omega
  | succ d ih =>
    intro k i hi0 hi1 hd hk
    obtain ⟨k, rfl⟩ : ∃ m, k = m + 1 := ⟨k - 1, by omega⟩
    simp only [lodgerref06_Leaves.l0]; rw [w64 (x := 32 * i) (by omega) (by omega), if_pos (by omega), w64 (by omega) (by omega)]
    exact ih k (i + 1) (by omega) (by omega) (by omega) (by omega)
theorem refLeaves {n : Int} (h0 : 0 ≤ n) (h1 : n ≤ 100000) {k : Nat} (hk : 4000 ≤ k) : lodgerref06_Leaves.f k n = some ((n + 31) / 32) := by
  unfold lodgerref06_Leaves.f
  exact refLeaves_l0 h0 h1 ((n + 31) / 32).toNat k 0 (by omega) (by omega) (by omega) (by omega)

theorem Home_eq {p w : Int} (h : 1 ≤ p) (h0 : 0 ≤ w) : shard_Home.f p w = some (w % p) := by
  unfold shard_Home.f; rw [if_neg (by omega), tm h0]
theorem From_eq {p a b : Int} (h : 1 ≤ p) (h0 : 0 ≤ a) (h1 : 0 ≤ b) (h2 : a ≤ 1000000000000) (h3 : b ≤ 1000000000000) : shard_From.f p a b = some ((a + b) % p) := by
  unfold shard_From.f; rw [if_neg (by omega), w64 (by omega) (by omega), tm (by omega)]
theorem divb {x p : Int} (h0 : 0 ≤ x) (h1 : 1 ≤ p) : 0 ≤ x / p ∧ x / p ≤ x := ⟨Int.ediv_nonneg h0 (by omega), Int.ediv_le_self _ h0⟩

theorem up32 {n : Int} (h0 : 0 ≤ n) (h1 : n ≤ 1000000000000) : place_up_int.f n 32 = some ((n + 31) / 32) := by
  unfold place_up_int.f
  rw [if_neg (by omega), w64 (x := n + 32) (by omega) (by omega), w64 (x := n + 32 - 1) (by omega) (by omega), td (by omega), w64 (by omega) (by omega)]
  congr 1; omega
theorem Leaves_eq {n : Int} (h0 : 0 ≤ n) (h1 : n ≤ 1000000000000) : place_Leaves.f n = some ((n + 31) / 32) := by
  unfold place_Leaves.f; rw [up32 h0 h1]; rfl
theorem Range_eq {n p s : Int} (h0 : 0 ≤ n) (h1 : n ≤ 65536) (h2 : 1 ≤ p) (h3 : 0 ≤ s) (h4 : s ≤ 1000000) : shard_Range.f n p s = some (s * ((n + 31) / 32) / p, (s + 1) * ((n + 31) / 32) / p) := by
  unfold shard_Range.f
  rw [Leaves_eq h0 (by omega), Option.bind_some, if_neg (by omega)]
  have l0 : 0 ≤ (n + 31) / 32 := by omega
  have l1 : (n + 31) / 32 ≤ 10000 := by omega
  generalize (n + 31) / 32 = L at *
  have a0 : 0 ≤ s * L := Int.mul_nonneg h3 l0
  have a1 : s * L ≤ 1000000 * 10000 := Int.mul_le_mul h4 l1 l0 (by omega)
  have b0 : 0 ≤ (s + 1) * L := Int.mul_nonneg (by omega) l0
  have b1 : (s + 1) * L ≤ 1000001 * 10000 := Int.mul_le_mul (by omega) l1 l0 (by omega)
  have c := divb a0 h2
  have d := divb b0 h2
  rw [w64 (x := s * L) (by omega) (by omega), w64 (x := s + 1) (by omega) (by omega), w64 (x := (s + 1) * L) (by omega) (by omega), td a0, td b0, w64 (by omega) (by omega), w64 (by omega) (by omega)]
theorem has_eq {a b x : Int} : shard_span_int_has.f a b x = some (decide (a ≤ x) && decide (x < b)) := by
  unfold shard_span_int_has.f
  by_cases h : a ≤ x
  · rw [if_pos h]; simp [h]
  · rw [if_neg h]; simp [h]

theorem awake_true {k : Nat} (hk : 70 ≤ k) : lodgerlaw12_awake.f k = some true := at_rounds lodgerlaw12_awake.mono hk (by decide +kernel)
theorem RangeOne {n s : Int} (h0 : 1 ≤ n) (h1 : n ≤ 65536) (h3 : 0 ≤ s) (h4 : s ≤ 1000000) : shard_Range.f n ((n + 31) / 32) s = some (s, s + 1) := by
  rw [Range_eq (by omega) h1 (by omega) h3 h4, Int.mul_ediv_cancel _ (by omega), Int.mul_ediv_cancel _ (by omega)]
theorem Of_l0 {n s : Int} (h0 : 1 ≤ n) (h1 : n ≤ 65536) (h2 : s < (n + 31) / 32) (d : Nat) : ∀ (k : Nat) (i : Int), 0 ≤ i → i ≤ s → s - i = d → d < k → shard_Of.l0 k n ((n + 31) / 32) s 0 ((n + 31) / 32) i = some s := by
  induction d with
  | zero =>
    intro k i hi0 hi1 hd hk
    obtain ⟨k, rfl⟩ : ∃ m, k = m + 1 := ⟨k - 1, by omega⟩
    simp only [shard_Of.l0]; rw [if_pos (by omega), RangeOne h0 h1 hi0 (by omega), Option.bind_some, has_eq, Option.bind_some, if_pos (by simp; omega)]; congr 1; omega
  | succ d ih =>
    intro k i hi0 hi1 hd hk
    obtain ⟨k, rfl⟩ : ∃ m, k = m + 1 := ⟨k - 1, by omega⟩
    simp only [shard_Of.l0]; rw [if_pos (by omega), RangeOne h0 h1 hi0 (by omega), Option.bind_some, has_eq, Option.bind_some, if_neg (by simp; omega), w64 (by omega) (by omega)]
    exact ih k (i + 1) (by omega) (by omega) (by omega) (by omega)
theorem step {L p q : Int} (h1 : 1 ≤ p) (h2 : 1 ≤ L) : (p ≤ L → q / p + 1 ≤ (q + L) / p) ∧ (L < p → q / p ≤ (q + L) / p ∧ (q + L) / p ≤ q / p + 1) := by
  have e : (q + p) / p = q / p + 1 := Int.add_ediv_of_dvd_right (Int.dvd_refl p) |>.trans (by rw [Int.ediv_self (by omega)])
  refine ⟨fun h => ?_, fun h => ⟨?_, ?_⟩⟩
  · rw [← e]; exact Int.ediv_le_ediv (by omega) (by omega)
  · exact Int.ediv_le_ediv (by omega) (by omega)
  · rw [← e]; exact Int.ediv_le_ediv (by omega) (by omega)
/-- how many of the first i shards have no leaf -/
def none' (L p i : Int) : Int := if p ≤ L then 0 else i - i * L / p
theorem l1_at {n p : Int} (h0 : 1 ≤ n) (h1 : n ≤ 65536) (p0 : 1 ≤ p) (p1 : p ≤ 64) (d : Nat) : ∀ (k : Nat) (i : Int), 0 ≤ i → i ≤ p → p - i = d → d < k →
    lodgerlaw12_ShardParts.l1 k n ((n + 31) / 32) p (none' ((n + 31) / 32) p i) i = some true := by
  have L0 : 1 ≤ (n + 31) / 32 := by omega
  have L1 : (n + 31) / 32 ≤ 2048 := by omega
  induction d with
  | zero =>
    intro k i hi0 hi1 hd hk
    obtain ⟨k, rfl⟩ : ∃ m, k = m + 1 := ⟨k - 1, by omega⟩
    simp only [lodgerlaw12_ShardParts.l1]
    rw [if_neg (by omega)]
    generalize (n + 31) / 32 = L at *
    obtain rfl : i = p := by omega
    rw [w64 (x := i - L) (by omega) (by omega)]
    unfold none' mx
    rw [Int.mul_ediv_cancel_left _ (by omega)]
    congr 1
    rw [beq_iff_eq]
    repeat' split
    all_goals omega
  | succ d ih =>
    intro k i hi0 hi1 hd hk
    obtain ⟨k, rfl⟩ : ∃ m, k = m + 1 := ⟨k - 1, by omega⟩
    simp only [lodgerlaw12_ShardParts.l1]
    rw [if_pos (by omega), Range_eq (by omega) h1 p0 hi0 (by omega), Option.bind_some]
    have ih' := ih k (i + 1) (by omega) (by omega) (by omega) (by omega)
    have w : wrap64 (i + 1) = i + 1 := w64 (by omega) (by omega)
    have e : (i + 1) * ((n + 31) / 32) = i * ((n + 31) / 32) + (n + 31) / 32 := by rw [Int.add_mul, Int.one_mul]
    have st := step (q := i * ((n + 31) / 32)) p0 L0
    have nn : 0 ≤ i * ((n + 31) / 32) := Int.mul_nonneg hi0 (by omega)
    have nb := divb nn p0
    have nm : i * ((n + 31) / 32) ≤ 64 * 2048 := Int.mul_le_mul (by omega) L1 (by omega) (by omega)
    rw [w]
    simp only [e]
    unfold none' at ih' ⊢
    rw [e] at ih'
    by_cases hp : p ≤ (n + 31) / 32
    · have s1 := st.1 hp
      rw [if_pos hp] at ih' ⊢
      rw [if_neg (by omega)]
      exact ih'
    · have s1 := st.2 (by omega)
      rw [if_neg hp] at ih' ⊢
      by_cases hq : i * ((n + 31) / 32) / p = (i * ((n + 31) / 32) + (n + 31) / 32) / p
      · rw [if_pos hq, w64 (by omega) (by omega), show i - i * ((n + 31) / 32) / p + 1 = i + 1 - (i * ((n + 31) / 32) + (n + 31) / 32) / p by omega]
        exact ih'
      · rw [if_neg hq, show i - i * ((n + 31) / 32) / p = i + 1 - (i * ((n + 31) / 32) + (n + 31) / 32) / p by omega]
        exact ih'
theorem j2_at {n a : Int} (h0 : 1 ≤ n) (h1 : n ≤ 65536) (b0 : 0 ≤ a) (b1 : a ≤ 255) {k : Nat} (hk : 70 ≤ k) : lodgerlaw12_ShardParts.j2 k a n ((n + 31) / 32) = some true := by
  obtain ⟨k, rfl⟩ : ∃ m, k = m + 1 := ⟨k - 1, by omega⟩
  simp only [lodgerlaw12_ShardParts.j2]
  rw [tm b0, w64 (x := a % 64) (by omega) (by omega), w64 (by omega) (by omega)]
  have := l1_at h0 h1 (p := 1 + a % 64) (by omega) (by omega) (1 + a % 64).toNat k 0 (by omega) (by omega) (by omega) (by omega)
  rw [show none' ((n + 31) / 32) (1 + a % 64) 0 = 0 by unfold none'; rw [Int.zero_mul, Int.zero_ediv]; split <;> omega] at this
  exact this
theorem l0_at {n a : Int} (h0 : 1 ≤ n) (h1 : n ≤ 65536) (b0 : 0 ≤ a) (b1 : a ≤ 255) (hl : (n + 31) / 32 ≤ 64) (d : Nat) : ∀ (k : Nat) (i : Int), 0 ≤ i → i ≤ (n + 31) / 32 → (n + 31) / 32 - i = d → d + 100 < k →
    lodgerlaw12_ShardParts.l0 k a n ((n + 31) / 32) i = some true := by
  induction d with
  | zero =>
    intro k i hi0 hi1 hd hk
    obtain ⟨k, rfl⟩ : ∃ m, k = m + 1 := ⟨k - 1, by omega⟩
    simp only [lodgerlaw12_ShardParts.l0]
    rw [if_neg (by omega)]
    exact j2_at h0 h1 b0 b1 (by omega)
  | succ d ih =>
    intro k i hi0 hi1 hd hk
    obtain ⟨k, rfl⟩ : ∃ m, k = m + 1 := ⟨k - 1, by omega⟩
    simp only [lodgerlaw12_ShardParts.l0]
    have w : wrap64 (i + 1) = i + 1 := w64 (by omega) (by omega)
    rw [if_pos (by omega), RangeOne h0 h1 hi0 (by omega), Option.bind_some, w, if_pos rfl, if_pos rfl]
    unfold shard_Of.f
    rw [Of_l0 h0 h1 (by omega) i.toNat k 0 (by omega) (by omega) (by omega) (by omega), Option.bind_some, if_pos rfl]
    exact ih k (i + 1) (by omega) (by omega) (by omega) (by omega)
theorem ShardParts : lodgerlaw12_ShardParts.Pure := by
  intro a0 a1 w0 w1
  have b0 := wf_u16 w0
  have b1 := wf_u8 w1
  refine ⟨5000, ?_⟩
  generalize hK : 5000 = k
  have hk : 5000 ≤ k := by omega
  clear hK
  have e0 : wrap64 (1 + Int.tmod (wrap64 a0) 2048) = 1 + a0 % 2048 := by rw [w64 (x := a0) (by omega) (by omega), tm (by omega), w64 (by omega) (by omega)]
  unfold lodgerlaw12_ShardParts.f
  rw [awake_true (by omega), Option.bind_some, if_pos rfl, e0]
  have n0 : 1 ≤ 1 + a0 % 2048 := by omega
  have n1 : 1 + a0 % 2048 ≤ 2048 := by omega
  generalize 1 + a0 % 2048 = n at *
  rw [refLeaves (by omega) (by omega) (by omega), Option.bind_some, Range_eq (by omega) (by omega) (by omega) (by omega) (by omega), Option.bind_some]
  rw [if_pos (by simp)]
  have : ((0 + 1) * ((n + 31) / 32) / 1 != (n + 31) / 32) = false := by simp
  rw [this]
  obtain ⟨k, rfl⟩ : ∃ m, k = m + 1 := ⟨k - 1, by omega⟩
  simp only [lodgerlaw12_ShardParts.j0]
  rw [if_neg (by simp), if_pos (by omega)]
  exact l0_at (by omega) (by omega) (by omega) (by omega) (by omega) ((n + 31) / 32).toNat k 0 (by omega) (by omega) (by omega) (by omega)

end Go.Proofs.Yteieippmopfnaaa.Pure
