/- ShardTurns answers true at every input: as many workers in a row as there are shards have each a home of their own; no condition. -/
import Derived.Test.YteieippmopfnaaaQShardTurnsx1
namespace Go.Proofs.Yteieippmopfnaaa.Pure
open Go.RowKit Go.Proofs.Yteieippmopfnaaa.PShardTurns Go.Proofs.YteieippmopfnaaaW.PrintWords Go.Proofs.YteieippmopfnaaaW.PrintLast Go.Proofs.YteieippmopfnaaaW.PrintMore
set_option linter.unusedVariables false
set_option linter.unusedSimpArgs false

theorem w64 {x : Int} (h1 : -9223372036854775808 ≤ x) (h2 : x ≤ 9223372036854775807) : wrap64 x = x := by unfold wrap64; omega
theorem td {a b : Int} (h : 0 ≤ a) : Int.tdiv a b = a / b := Int.tdiv_eq_ediv_of_nonneg h
theorem tm {a b : Int} (h : 0 ≤ a) : Int.tmod a b = a % b := Int.tmod_eq_emod_of_nonneg h
theorem more {k N : Nat} (h : N + 1 ≤ k) : ∃ m, k = m + 1 ∧ N ≤ m := ⟨k - 1, by omega, by omega⟩
theorem wf_u16 {a : Int} (h : (Lit.int .u16 a).wf = true) : 0 ≤ a ∧ a ≤ 65535 := by
  simp [Lit.wf, IntKind.min, IntKind.max, IntKind.signed, IntKind.bits] at h
  omega
theorem wf_u8 {a : Int} (h : (Lit.int .u8 a).wf = true) : 0 ≤ a ∧ a ≤ 255 := by
  simp [Lit.wf, IntKind.min, IntKind.max, IntKind.signed, IntKind.bits] at h
  omega
theorem wf_u32 {a : Int} (h : (Lit.int .u32 a).wf = true) : 0 ≤ a ∧ a ≤ 4294967295 := by
  simp [Lit.wf, IntKind.min, IntKind.max, IntKind.signed, IntKind.bits] at h
  omega
theorem wf_u64 {a : Int} (h : (Lit.int .u64 a).wf = true) : 0 ≤ a ∧ a ≤ 18446744073709551615 := by
  simp [Lit.wf, IntKind.min, IntKind.max, IntKind.signed, IntKind.bits] at h
  omega
theorem wf_i64 {a : Int} (h : (Lit.int .i64 a).wf = true) : -9223372036854775808 ≤ a ∧ a ≤ 9223372036854775807 := by
  simp [Lit.wf, IntKind.min, IntKind.max, IntKind.signed, IntKind.bits] at h
  omega

theorem Home_eq {p w : Int} (h : 1 ≤ p) (h0 : 0 ≤ w) : shard_Home.f p w = some (w % p) := by
  unfold shard_Home.f; rw [if_neg (by omega), tm h0]
theorem From_eq {p a b : Int} (h : 1 ≤ p) (h0 : 0 ≤ a) (h1 : 0 ≤ b) (h2 : a ≤ 1000000000000) (h3 : b ≤ 1000000000000) : shard_From.f p a b = some ((a + b) % p) := by
  unfold shard_From.f; rw [if_neg (by omega), w64 (by omega) (by omega), tm (by omega)]
theorem divb {x p : Int} (h0 : 0 ≤ x) (h1 : 1 ≤ p) : 0 ≤ x / p ∧ x / p ≤ x := ⟨Int.ediv_nonneg h0 (by omega), Int.ediv_le_self _ h0⟩

theorem awake_true {k : Nat} (hk : 70 ≤ k) : lodgerlaw12_awake.f k = some true := at_rounds lodgerlaw12_awake.mono hk (by decide +kernel)
theorem ShardTurns : lodgerlaw12_ShardTurns.Pure := by
  intro a0 a1 a2 a3 w0 w1 w2 w3
  have b0 := wf_u8 w0
  have b1 := wf_u16 w1
  have b2 := wf_u16 w2
  have b3 := wf_u16 w3
  refine ⟨100, ?_⟩
  generalize hK : 100 = k
  have hk : 100 ≤ k := by omega
  clear hK
  have e0 : wrap64 (1 + wrap64 (Int.tmod a0 64)) = 1 + a0 % 64 := by rw [tm (by omega), w64 (x := a0 % 64) (by omega) (by omega), w64 (by omega) (by omega)]
  have e1 : wrap64 a1 = a1 := w64 (by omega) (by omega)
  have e2 : wrap64 a2 = a2 := w64 (by omega) (by omega)
  have e3 : wrap64 a3 = a3 := w64 (by omega) (by omega)
  unfold lodgerlaw12_ShardTurns.f
  rw [awake_true (by omega), Option.bind_some, if_pos rfl, e0, e1]
  have p0 : 1 ≤ 1 + a0 % 64 := by omega
  have p1 : 1 + a0 % 64 ≤ 64 := by omega
  generalize 1 + a0 % 64 = p at *
  have h0 := Int.emod_nonneg a1 (show p ≠ 0 by omega)
  have h1 := Int.emod_lt_of_pos a1 (show 0 < p by omega)
  have hj : lodgerlaw12_ShardTurns.j0 k a2 a3 p (a1 % p) false = some true := by
    obtain ⟨m, rfl, hm⟩ := more (N := 99) hk
    have c0 := Int.emod_nonneg (a1 % p + a2) (show p ≠ 0 by omega)
    have c1 := Int.emod_lt_of_pos (a1 % p + a2) (show 0 < p by omega)
    simp only [lodgerlaw12_ShardTurns.j0, e2, e3]
    rw [if_neg (by simp), From_eq p0 h0 (by omega) (by omega) (by omega), Option.bind_some, From_eq p0 c0 (by omega) (by omega) (by omega), Option.bind_some, w64 (x := a2 + a3) (by omega) (by omega),
      From_eq p0 h0 (by omega) (by omega) (by omega), Option.bind_some, Int.emod_add_emod, if_pos (by rw [Int.add_assoc]), From_eq p0 h0 (by omega) (by omega) (by omega), Option.bind_some, Int.add_emod_right,
      Int.emod_eq_of_lt h0 h1]
    simp
  rw [Home_eq p0 (by omega), Option.bind_some, if_neg (by omega), if_neg (by omega), w64 (x := a1 + p) (by omega) (by omega), Home_eq p0 (by omega), Option.bind_some, Int.add_emod_right, if_pos rfl]
  by_cases hp : p > 1
  · rw [if_pos hp, w64 (x := a1 + 1) (by omega) (by omega), Home_eq p0 (by omega), Option.bind_some]
    have : ((a1 + 1) % p == a1 % p) = false := by
      rw [beq_eq_false_iff_ne, ← Int.emod_add_emod]
      generalize a1 % p = h at *
      by_cases g : h + 1 < p
      · rw [Int.emod_eq_of_lt (by omega) g]; omega
      · rw [show h + 1 = p by omega, Int.emod_self]; omega
    rw [this, hj]
  · rw [if_neg hp, hj]

end Go.Proofs.Yteieippmopfnaaa.Pure
