/- BlockParts answers true at every input: a block is its two halves; no condition. -/
import Derived.Test.YtibfbbeippamaaaQBlockPartsx4
namespace Go.Proofs.Ytibfbbeippamaaa.Pure
open Go.RowKit Go.Proofs.Ytibfbbeippamaaa.PBlockParts Go.Proofs.YtibfbbeippamaaaW.PrintWords Go.Proofs.YtibfbbeippamaaaW.PrintLast Go.Proofs.YtibfbbeippamaaaW.PrintMore
set_option linter.unusedVariables false
set_option linter.unusedSimpArgs false

theorem w64 {x : Int} (h1 : -9223372036854775808 ≤ x) (h2 : x ≤ 9223372036854775807) : wrap64 x = x := by unfold wrap64; omega
theorem td {a b : Int} (h : 0 ≤ a) : Int.tdiv a b = a / b := Int.tdiv_eq_ediv_of_nonneg h
theorem tm {a b : Int} (h : 0 ≤ a) : Int.tmod a b = a % b := Int.tmod_eq_emod_of_nonneg h
theorem more {k N : Nat} (h : N + 1 ≤ k) : ∃ m, k = m + 1 ∧ N ≤ m := ⟨k - 1, by omega, by omega⟩
theorem wf_u16 {a : Int} (h : (Lit.int .u16 a).wf = true) : 0 ≤ a ∧ a ≤ 65535 := by
  simp [Lit.wf, IntKind.min, IntKind.max, IntKind.signed, IntKind.bits] at h
  omega
theorem wf_u8 {a : Int} (h : (Lit.int .u8 a).wf = true) : 0 ≤ a ∧ a ≤ 255 := by
  simp [Lit.wf, IntKind.min, IntKind.max, IntKind.signed, IntKind.bits] at h
  omega
theorem wf_u32 {a : Int} (h : (Lit.int .u32 a).wf = true) : 0 ≤ a ∧ a ≤ 4294967295 := by
  simp [Lit.wf, IntKind.min, IntKind.max, IntKind.signed, IntKind.bits] at h
  omega
theorem wf_u64 {a : Int} (h : (Lit.int .u64 a).wf = true) : 0 ≤ a ∧ a ≤ 18446744073709551615 := by
  simp [Lit.wf, IntKind.min, IntKind.max, IntKind.signed, IntKind.bits] at h
  omega
theorem wf_i64 {a : Int} (h : (Lit.int .i64 a).wf = true) : -9223372036854775808 ≤ a ∧ a ≤ 9223372036854775807 := by
  simp [Lit.wf, IntKind.min, IntKind.max, IntKind.signed, IntKind.bits] at h
  omega

/-- A word, as the machine's number. -/
def U (x : BitVec 64) : Int := (x.toNat : Int)
theorem U_lt (x : BitVec 64) : 0 ≤ U x ∧ U x < 18446744073709551616 := by have := x.isLt; unfold U; omega
theorem U_of {a : Int} (h0 : 0 ≤ a) (h1 : a ≤ 18446744073709551615) : ∃ x : BitVec 64, a = U x := by
  refine ⟨BitVec.ofNat 64 a.toNat, ?_⟩
  unfold U
  rw [BitVec.toNat_ofNat, Nat.mod_eq_of_lt (by omega)]
  omega
theorem U_inj {x y : BitVec 64} (h : U x = U y) : x = y := by unfold U at h; exact BitVec.eq_of_toNat_eq (by omega)
theorem U_eq {x y : BitVec 64} : (U x == U y) = (x == y) := by
  rw [Bool.eq_iff_iff, beq_iff_eq, beq_iff_eq]; exact ⟨U_inj, fun h => by rw [h]⟩
theorem wrapu (n : Int) : IntKind.u64.wrap n = n % 18446744073709551616 := by simp [IntKind.wrap, IntKind.bits, IntKind.signed]
theorem wrapu_small {n : Int} (h0 : 0 ≤ n) (h1 : n < 18446744073709551616) : IntKind.u64.wrap n = n := by rw [wrapu]; omega
theorem wrapu_U (x : BitVec 64) : IntKind.u64.wrap ((x.toNat : Nat) : Int) = U x := by have := x.isLt; unfold U; rw [wrapu]; omega
theorem ofInt_U (x : BitVec 64) : BitVec.ofInt 64 (U x) = x := by unfold U; rw [BitVec.ofInt_natCast]; simp
theorem bits_or_U (x y : BitVec 64) : Go.bits .or .u64 (U x) (U y) = U (x ||| y) := by
  show IntKind.u64.wrap ((BitVec.ofInt 64 (U x) ||| BitVec.ofInt 64 (U y)).toNat : Nat) = _
  rw [ofInt_U, ofInt_U, wrapu_U]
theorem bits_and_U (x y : BitVec 64) : Go.bits .and .u64 (U x) (U y) = U (x &&& y) := by
  show IntKind.u64.wrap ((BitVec.ofInt 64 (U x) &&& BitVec.ofInt 64 (U y)).toNat : Nat) = _
  rw [ofInt_U, ofInt_U, wrapu_U]
theorem bits_xor_U (x y : BitVec 64) : Go.bits .xor .u64 (U x) (U y) = U (x ^^^ y) := by
  show IntKind.u64.wrap ((BitVec.ofInt 64 (U x) ^^^ BitVec.ofInt 64 (U y)).toNat : Nat) = _
  rw [ofInt_U, ofInt_U, wrapu_U]
theorem bits_andNot_U (x y : BitVec 64) : Go.bits .andNot .u64 (U x) (U y) = U (x &&& ~~~y) := by
  show IntKind.u64.wrap ((BitVec.ofInt 64 (U x) &&& ~~~BitVec.ofInt 64 (U y)).toNat : Nat) = _
  rw [ofInt_U, ofInt_U, wrapu_U]
theorem shl_U {i : Int} (h0 : 0 ≤ i) (h1 : i < 64) : shl .u64 1 i = U (BitVec.twoPow 64 i.toNat) := by
  unfold shl U
  rw [Nat.min_eq_left (by simp [IntKind.bits]; omega), BitVec.toNat_twoPow, wrapu, Int.one_mul]
  simp
theorem shr_U (x : BitVec 64) {i : Int} (h0 : 0 ≤ i) (h1 : i < 64) : shr .u64 (U x) i = U (x >>> i.toNat) := by
  unfold shr U
  rw [Nat.min_eq_left (by simp [IntKind.bits]; omega), BitVec.toNat_ushiftRight, Nat.shiftRight_eq_div_pow]
  simp
theorem one_U : (1 : Int) = U 1#64 := rfl
theorem bit_U (x : BitVec 64) (i : Nat) : (Go.bits .and .u64 (U (x >>> i)) 1 == 1) = x.getLsbD i := by
  rw [one_U, bits_and_U, U_eq, Bool.eq_iff_iff, beq_iff_eq]
  constructor
  · intro h
    have := congrArg (fun z => z.getLsbD 0) h
    simpa using this
  · intro h
    apply BitVec.eq_of_getLsbD_eq
    intro j hj
    rw [BitVec.getLsbD_and, BitVec.getLsbD_one, BitVec.getLsbD_ushiftRight]
    by_cases hz : j = 0
    · subst hz; simp [h]
    · simp [hz]
theorem bitn_U (x : BitVec 64) (i : Nat) : Go.bits .and .u64 (U (x >>> i)) 1 = (if x.getLsbD i = true then 1 else 0) := by
  have h := bit_U x i
  have hb : Go.bits .and .u64 (U (x >>> i)) 1 = 0 ∨ Go.bits .and .u64 (U (x >>> i)) 1 = 1 := by
    rw [one_U, bits_and_U]
    unfold U
    rw [BitVec.toNat_and]
    have : (x >>> i).toNat &&& (1#64).toNat ≤ 1 := Nat.and_le_right
    simp at this ⊢
    omega
  split
  · rename_i hg; rw [hg] at h; exact eq_of_beq h
  · rename_i hg
    rcases hb with hb | hb
    · exact hb
    · rw [hb] at h; exact absurd h.symm hg
/-- The word of the lowest bits. -/
def mask (n : Nat) : BitVec 64 := BitVec.ofNat 64 (2 ^ n - 1)
theorem mask_bit (n j : Nat) (hj : j < 64) : (mask n).getLsbD j = decide (j < n) := by
  unfold mask
  rw [BitVec.getLsbD_ofNat, Nat.testBit_two_pow_sub_one]
  simp [hj]
/-- How many of the first n bits are set. -/
def cnt (x : BitVec 64) : Nat → Nat
  | 0 => 0
  | n + 1 => cnt x n + (if x.getLsbD n = true then 1 else 0)
theorem cnt_le (x : BitVec 64) (n : Nat) : cnt x n ≤ n := by
  induction n with
  | zero => simp [cnt]
  | succ n ih => simp only [cnt]; split <;> omega
theorem cnt_mono (x : BitVec 64) {n m : Nat} (h : n ≤ m) : cnt x n ≤ cnt x m := by
  induction h with
  | refl => omega
  | step _ ih => simp only [cnt]; omega
theorem cnt_all (x : BitVec 64) (n : Nat) (h : ∀ j, j < n → x.getLsbD j = true) : cnt x n = n := by
  induction n with
  | zero => simp [cnt]
  | succ n ih => simp only [cnt]; rw [ih (fun j hj => h j (by omega)), if_pos (h n (by omega))]
theorem cnt_lt (x : BitVec 64) (n i : Nat) (hi : i < n) (h : x.getLsbD i = false) : cnt x n < n := by
  induction n with
  | zero => omega
  | succ n ih =>
    simp only [cnt]
    by_cases he : i = n
    · subst he; rw [h]; have := cnt_le x i; simp; omega
    · have := ih (by omega); split <;> omega
theorem cnt_congr (x y : BitVec 64) (n : Nat) (h : ∀ j, j < n → x.getLsbD j = y.getLsbD j) : cnt x n = cnt y n := by
  induction n with
  | zero => simp [cnt]
  | succ n ih => simp only [cnt]; rw [ih (fun j hj => h j (by omega)), h n (by omega)]
theorem cnt_set (x : BitVec 64) (n i : Nat) (hi : i < n) (hn : n ≤ 64) (h : x.getLsbD i = false) : cnt (x ||| BitVec.twoPow 64 i) n = cnt x n + 1 := by
  induction n with
  | zero => omega
  | succ n ih =>
    simp only [cnt, BitVec.getLsbD_or, BitVec.getLsbD_twoPow]
    by_cases he : i = n
    · subst he
      rw [cnt_congr (x ||| BitVec.twoPow 64 i) x i (fun j hj => by simp [BitVec.getLsbD_or, BitVec.getLsbD_twoPow]; omega), h]
      simp; omega
    · rw [ih (by omega) (by omega)]
      simp [he]; omega

/-- How many addresses a block of this prefix has. -/
def M (p : Int) : Int := 2 ^ (32 - p).toNat
theorem p_cases {p : Int} (h1 : 16 ≤ p) (h2 : p ≤ 32) : p = 16 ∨ p = 17 ∨ p = 18 ∨ p = 19 ∨ p = 20 ∨ p = 21 ∨ p = 22 ∨ p = 23 ∨ p = 24 ∨ p = 25 ∨ p = 26 ∨ p = 27 ∨ p = 28 ∨ p = 29 ∨ p = 30 ∨ p = 31 ∨ p = 32 := by omega
theorem M_bounds {p : Int} (h1 : 16 ≤ p) (h2 : p ≤ 32) : 1 ≤ M p ∧ M p ≤ 65536 := by
  rcases p_cases h1 h2 with rfl | rfl | rfl | rfl | rfl | rfl | rfl | rfl | rfl | rfl | rfl | rfl | rfl | rfl | rfl | rfl | rfl <;> decide
theorem M_fits {p B : Int} (h1 : 16 ≤ p) (h2 : p ≤ 32) (hB0 : 0 ≤ B) (hB1 : B ≤ 4294967295) (hm : B % M p = 0) : B + M p ≤ 4294967296 := by
  rcases p_cases h1 h2 with rfl | rfl | rfl | rfl | rfl | rfl | rfl | rfl | rfl | rfl | rfl | rfl | rfl | rfl | rfl | rfl | rfl
  · rw [show M 16 = 65536 by decide] at *; omega
  · rw [show M 17 = 32768 by decide] at *; omega
  · rw [show M 18 = 16384 by decide] at *; omega
  · rw [show M 19 = 8192 by decide] at *; omega
  · rw [show M 20 = 4096 by decide] at *; omega
  · rw [show M 21 = 2048 by decide] at *; omega
  · rw [show M 22 = 1024 by decide] at *; omega
  · rw [show M 23 = 512 by decide] at *; omega
  · rw [show M 24 = 256 by decide] at *; omega
  · rw [show M 25 = 128 by decide] at *; omega
  · rw [show M 26 = 64 by decide] at *; omega
  · rw [show M 27 = 32 by decide] at *; omega
  · rw [show M 28 = 16 by decide] at *; omega
  · rw [show M 29 = 8 by decide] at *; omega
  · rw [show M 30 = 4 by decide] at *; omega
  · rw [show M 31 = 2 by decide] at *; omega
  · rw [show M 32 = 1 by decide] at *; omega
theorem wraps_u64 (n : Int) (h0 : 0 ≤ n) (h1 : n < 2 ^ 64) : IntKind.u64.wrap n = n := by rw [wrapu]; omega
theorem Many_eq (B : Int) {p : Int} (h1 : 16 ≤ p) (h2 : p ≤ 32) : block_Many.f B p = some (M p) := by
  have hb := M_bounds h1 h2
  unfold block_Many.f
  rw [w64 (x := 32 - p) (by omega) (by omega), wrapu_small (by omega) (by omega), if_pos (by omega)]
  unfold M at hb
  unfold shl M
  rw [Nat.min_eq_left (by simp [IntKind.bits]; omega), Int.one_mul, IntKind.wrap_i64]
  generalize (2 : Int) ^ (32 - p).toNat = q at *
  congr 1; omega
/-- May such a block be? -/
def bmay (B p : Int) : Bool := decide (16 ≤ p ∧ p ≤ 32 ∧ B % M p = 0)

theorem ref04Many_eq {p : Int} (h1 : 16 ≤ p) (h2 : p ≤ 32) {k : Nat} (hk : 20 ≤ k) : lodgerref04_Many.f k p = some (M p) := by
  rcases p_cases h1 h2 with rfl | rfl | rfl | rfl | rfl | rfl | rfl | rfl | rfl | rfl | rfl | rfl | rfl | rfl | rfl | rfl | rfl <;> exact at_rounds (fun k => lodgerref04_Many.mono _ k) hk (by decide +kernel)
theorem ref04May_eq {B p : Int} (hB0 : 0 ≤ B) (hB1 : B ≤ 4294967295) {k : Nat} (hk : 20 ≤ k) : lodgerref04_May.f k B p = some (bmay B p) := by
  unfold lodgerref04_May.f bmay
  by_cases c1 : p ≥ 16
  · rw [if_pos c1]
    by_cases c2 : p ≤ 32
    · have hb := M_bounds (p := p) (by omega) (by omega)
      rw [if_pos c2, ref04Many_eq (by omega) (by omega) hk, Option.bind_some, if_neg (by omega), w64 (by omega) (by omega), tm hB0]
      congr 1
      rw [Bool.eq_iff_iff, beq_iff_eq, decide_eq_true_eq]
      omega
    · rw [if_neg c2, decide_eq_false (by omega)]
  · rw [if_neg c1, decide_eq_false (by omega)]

theorem Offset_block {B p : Int} (hB0 : 0 ≤ B) (hB1 : B ≤ 4294967295) (h1 : 16 ≤ p) (h2 : p ≤ 32) {a : Int} (ha0 : 0 ≤ a) (ha1 : a ≤ 4294967295) : block_Offset.f B p a = some (if B ≤ a ∧ a < B + M p then (a - B, 0) else (0, 3)) := by
  unfold block_Offset.f
  have hb := M_bounds h1 h2
  rw [w64 (x := a) (by omega) (by omega), w64 (x := B) (by omega) (by omega), w64 (x := a - B) (by omega) (by omega), Many_eq B h1 h2, Option.bind_some]
  by_cases c1 : a - B ≥ 0
  · rw [if_pos c1]
    by_cases c2 : a - B < M p
    · rw [if_pos c2, if_pos (by omega)]
    · rw [if_neg c2, if_neg (by omega)]
  · rw [if_neg c1, if_neg (by omega)]

theorem awake_true {k : Nat} (hk : 500 ≤ k) : lodgerlaw05_awake.f k = some true := at_rounds lodgerlaw05_awake.mono hk (by decide +kernel)
theorem M_half {p : Int} (h1 : 16 ≤ p) (h2 : p < 32) : M p = 2 * M (p + 1) := by
  rcases p_cases h1 (by omega) with rfl | rfl | rfl | rfl | rfl | rfl | rfl | rfl | rfl | rfl | rfl | rfl | rfl | rfl | rfl | rfl | rfl
  all_goals first | decide | omega
theorem BlockParts : lodgerlaw05_BlockParts.Pure := by
  intro B p a w0 w1 w7
  have b0 := wf_u32 w0
  have b7 := wf_u32 w7
  refine ⟨1000, ?_⟩
  generalize hK : 1000 = k
  obtain ⟨m, rfl, hm⟩ := more (k := k) (N := 999) (by omega)
  have hj : lodgerlaw05_BlockParts.j0 (m + 1) a true B p = some true := by
    simp only [lodgerlaw05_BlockParts.j0, ↓reduceIte]; rw [awake_true (by omega)]; rfl
  unfold lodgerlaw05_BlockParts.f
  rw [awake_true (by omega), Option.bind_some, if_pos rfl, ref04May_eq b0.1 b0.2 (by omega), Option.bind_some]
  cases hc : bmay B p with
  | false => rw [if_neg (by simp), hj]
  | true =>
    rw [if_pos rfl]
    by_cases hp : p = 32
    · rw [show (p == 32) = true by simp [hp], hj]
    rw [show (p == 32) = false by simp [hp]]
    unfold bmay at hc
    rw [decide_eq_true_eq] at hc
    obtain ⟨h1, h2, h3⟩ := hc
    have hb := M_bounds h1 h2
    have hh := M_half h1 (show p < 32 by omega)
    have hf := M_fits h1 h2 b0.1 b0.2 h3
    have hd : wrap64 (Int.tdiv (M p) 2) = M (p + 1) := by rw [td (by omega), w64 (by omega) (by omega)]; omega
    have he : M (p + 1) % 4294967296 = M (p + 1) := by omega
    have hg : (B + M (p + 1)) % 4294967296 = B + M (p + 1) := by omega
    simp only [lodgerlaw05_BlockParts.j0]
    rw [if_neg (by simp), Many_eq B h1 h2, Option.bind_some, hd, hg, w64 (x := p + 1) (by omega) (by omega), Offset_block b0.1 b0.2 h1 h2 b7.1 b7.2, Option.bind_some, Offset_block b0.1 b0.2 (by omega) (by omega) b7.1 b7.2, Option.bind_some,
      Offset_block (by omega) (by omega) (by omega) (by omega) b7.1 b7.2, Option.bind_some, Many_eq B (by omega) (by omega), Many_eq _ (by omega) (by omega)]
    simp only [Option.bind_some]
    rw [he, w64 (x := M (p + 1) + M (p + 1)) (by omega) (by omega)]
    by_cases c1 : B ≤ a ∧ a < B + M (p + 1)
    · rw [if_pos c1, if_pos (show B ≤ a ∧ a < B + M p by omega), if_neg (show ¬ (B + M (p + 1) ≤ a ∧ a < B + M (p + 1) + M (p + 1)) by omega)]
      simp; omega
    · rw [if_neg c1]
      by_cases c2 : B + M (p + 1) ≤ a ∧ a < B + M (p + 1) + M (p + 1)
      · rw [if_pos c2, if_pos (show B ≤ a ∧ a < B + M p by omega), w64 (x := a - B - M (p + 1)) (by omega) (by omega)]
        have : a - (B + M (p + 1)) = a - B - M (p + 1) := by omega
        simp [this]; omega
      · rw [if_neg c2, if_neg (show ¬ (B ≤ a ∧ a < B + M p) by omega)]
        simp

end Go.Proofs.Ytibfbbeippamaaa.Pure
