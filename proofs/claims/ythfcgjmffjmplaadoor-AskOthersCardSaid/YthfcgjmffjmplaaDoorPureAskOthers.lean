/- AskOthers answers true at every input: what a request's kind hasn't says nothing, and a right batch's beginning is right, but for nothing; no condition. -/
import Derived.Test.YthfcgjmffjmplaaDoorQAskOthersx6
namespace Go.Proofs.YthfcgjmffjmplaaDoor.Pure
open Go.RowKit Go.Proofs.YthfcgjmffjmplaaDoor.PAskOthers Go.Proofs.YthfcgjmffjmplaaDoorW.PrintWords Go.Proofs.YthfcgjmffjmplaaDoorW.PrintLast Go.Proofs.YthfcgjmffjmplaaDoorW.PrintMore
set_option linter.unusedVariables false
set_option linter.unusedSimpArgs false

theorem w64 {x : Int} (h1 : -9223372036854775808 ≤ x) (h2 : x ≤ 9223372036854775807) : wrap64 x = x := by unfold wrap64; omega
theorem td {a b : Int} (h : 0 ≤ a) : Int.tdiv a b = a / b := Int.tdiv_eq_ediv_of_nonneg h
theorem tm {a b : Int} (h : 0 ≤ a) : Int.tmod a b = a % b := Int.tmod_eq_emod_of_nonneg h
theorem more {k N : Nat} (h : N + 1 ≤ k) : ∃ m, k = m + 1 ∧ N ≤ m := ⟨k - 1, by omega, by omega⟩
theorem wf_u16 {a : Int} (h : (Lit.int .u16 a).wf = true) : 0 ≤ a ∧ a ≤ 65535 := by
 simp [Lit.wf, IntKind.min, IntKind.max, IntKind.signed, IntKind.bits] at h
 omega
theorem wf_u8 {a : Int} (h : (Lit.int .u8 a).wf = true) : 0 ≤ a ∧ a ≤ 255 := by
 simp [Lit.wf, IntKind.min, IntKind.max, IntKind.signed, IntKind.bits] at h
 omega
theorem wf_u32 {a : Int} (h : (Lit.int .u32 a).wf = true) : 0 ≤ a ∧ a ≤ 4294967295 := by
 simp [Lit.wf, IntKind.min, IntKind.max, IntKind.signed, IntKind.bits] at h
 omega
theorem wf_u64 {a : Int} (h : (Lit.int .u64 a).wf = true) : 0 ≤ a ∧ a ≤ 18446744073709551615 := by
 simp [Lit.wf, IntKind.min, IntKind.max, IntKind.signed, IntKind.bits] at h
 omega
theorem wf_i64 {a : Int} (h : (Lit.int .i64 a).wf = true) : -9223372036854775808 ≤ a ∧ a ≤ 9223372036854775807 := by
 simp [Lit.wf, IntKind.min, IntKind.max, IntKind.signed, IntKind.bits] at h
 omega

/-- A word, as the machine's number. -/
def U (x : BitVec 64) : Int := (x.toNat : Int)
theorem U_lt (x : BitVec 64) : 0 ≤ U x ∧ U x < 18446744073709551616 := by have := x.isLt; unfold U; omega
theorem U_of {a : Int} (h0 : 0 ≤ a) (h1 : a ≤ 18446744073709551615) : ∃ x : BitVec 64, a = U x := by
 refine ⟨BitVec.ofNat 64 a.toNat, ?_⟩
 unfold U
 rw [BitVec.toNat_ofNat, Nat.mod_eq_of_lt (by omega)]
 omega
theorem U_inj {x y : BitVec 64} (h : U x = U y) : x = y := by unfold U at h; exact BitVec.eq_of_toNat_eq (by omega)
theorem U_eq {x y : BitVec 64} : (U x == U y) = (x == y) := by
 rw [Bool.eq_iff_iff, beq_iff_eq, beq_iff_eq]; exact ⟨U_inj, fun h => by rw [h]⟩
theorem wrapu (n : Int) : IntKind.u64.wrap n = n % 18446744073709551616 := by simp [IntKind.wrap, IntKind.bits, IntKind.signed]
theorem wrapu_small {n : Int} (h0 : 0 ≤ n) (h1 : n < 18446744073709551616) : IntKind.u64.wrap n = n := by rw [wrapu]; omega
theorem wrapu_U (x : BitVec 64) : IntKind.u64.wrap ((x.toNat : Nat) : Int) = U x := by have := x.isLt; unfold U; rw [wrapu]; omega
theorem ofInt_U (x : BitVec 64) : BitVec.ofInt 64 (U x) = x := by unfold U; rw [BitVec.ofInt_natCast]; simp
theorem bits_or_U (x y : BitVec 64) : Go.bits .or .u64 (U x) (U y) = U (x ||| y) := by
 show IntKind.u64.wrap ((BitVec.ofInt 64 (U x) ||| BitVec.ofInt 64 (U y)).toNat : Nat) = _
 rw [ofInt_U, ofInt_U, wrapu_U]
theorem bits_and_U (x y : BitVec 64) : Go.bits .and .u64 (U x) (U y) = U (x &&& y) := by
 show IntKind.u64.wrap ((BitVec.ofInt 64 (U x) &&& BitVec.ofInt 64 (U y)).toNat : Nat) = _
 rw [ofInt_U, ofInt_U, wrapu_U]
theorem bits_xor_U (x y : BitVec 64) : Go.bits .xor .u64 (U x) (U y) = U (x ^^^ y) := by
 show IntKind.u64.wrap ((BitVec.ofInt 64 (U x) ^^^ BitVec.ofInt 64 (U y)).toNat : Nat) = _
 rw [ofInt_U, ofInt_U, wrapu_U]
theorem bits_andNot_U (x y : BitVec 64) : Go.bits .andNot .u64 (U x) (U y) = U (x &&& ~~~y) := by
 show IntKind.u64.wrap ((BitVec.ofInt 64 (U x) &&& ~~~BitVec.ofInt 64 (U y)).toNat : Nat) = _
 rw [ofInt_U, ofInt_U, wrapu_U]
theorem shl_U {i : Int} (h0 : 0 ≤ i) (h1 : i < 64) : shl .u64 1 i = U (BitVec.twoPow 64 i.toNat) := by
 unfold shl U
 rw [Nat.min_eq_left (by simp [IntKind.bits]; omega), BitVec.toNat_twoPow, wrapu, Int.one_mul]
 simp
theorem shr_U (x : BitVec 64) {i : Int} (h0 : 0 ≤ i) (h1 : i < 64) : shr .u64 (U x) i = U (x >>> i.toNat) := by
 unfold shr U
 rw [Nat.min_eq_left (by simp [IntKind.bits]; omega), BitVec.toNat_ushiftRight, Nat.shiftRight_eq_div_pow]
 simp
theorem one_U : (1 : Int) = U 1#64 := rfl
theorem bit_U (x : BitVec 64) (i : Nat) : (Go.bits .and .u64 (U (x >>> i)) 1 == 1) = x.getLsbD i := by
 rw [one_U, bits_and_U, U_eq, Bool.eq_iff_iff, beq_iff_eq]
 constructor
 ·intro h
  have := congrArg (fun z => z.getLsbD 0) h
  simpa using this
 ·intro h
  apply BitVec.eq_of_getLsbD_eq
  intro j hj
  rw [BitVec.getLsbD_and, BitVec.getLsbD_one, BitVec.getLsbD_ushiftRight]
  by_cases hz : j = 0
  ·subst hz; simp [h]
  ·simp [hz]
theorem bitn_U (x : BitVec 64) (i : Nat) : Go.bits .and .u64 (U (x >>> i)) 1 = (if x.getLsbD i = true then 1 else 0) := by
 have h := bit_U x i
 have hb : Go.bits .and .u64 (U (x >>> i)) 1 = 0 ∨ Go.bits .and .u64 (U (x >>> i)) 1 = 1 := by
  rw [one_U, bits_and_U]
  unfold U
  rw [BitVec.toNat_and]
  have : (x >>> i).toNat &&& (1#64).toNat ≤ 1 := Nat.and_le_right
  simp at this ⊢
  omega
 split
 ·rename_i hg; rw [hg] at h; exact eq_of_beq h
 ·rename_i hg
  rcases hb with hb | hb
  ·exact hb
  ·rw [hb] at h; exact absurd h.symm hg
/-- The word of the lowest bits. -/
def mask (n : Nat) : BitVec 64 := BitVec.ofNat 64 (2 ^ n - 1)
theorem mask_bit (n j : Nat) (hj : j < 64) : (mask n).getLsbD j = decide (j < n) := by
 unfold mask
 rw [BitVec.getLsbD_ofNat, Nat.testBit_two_pow_sub_one]
 simp [hj]
/-- How many of the first n bits are set. -/
def cnt (x : BitVec 64) : Nat → Nat
 | 0 => 0
 | n + 1 => cnt x n + (if x.getLsbD n = true then 1 else 0)
theorem cnt_le (x : BitVec 64) (n : Nat) : cnt x n ≤ n := by
 induction n with
 | zero => simp [cnt]
 | succ n ih => simp only [cnt]; split <;> omega
theorem cnt_mono (x : BitVec 64) {n m : Nat} (h : n ≤ m) : cnt x n ≤ cnt x m := by
 induction h with
 | refl => omega
 | step _ ih => simp only [cnt]; omega
theorem cnt_all (x : BitVec 64) (n : Nat) (h : ∀ j, j < n → x.getLsbD j = true) : cnt x n = n := by
 induction n with
 | zero => simp [cnt]
 | succ n ih => simp only [cnt]; rw [ih (fun j hj => h j (by omega)), if_pos (h n (by omega))]
theorem cnt_lt (x : BitVec 64) (n i : Nat) (hi : i < n) (h : x.getLsbD i = false) : cnt x n < n := by
 induction n with
 | zero => omega
 | succ n ih =>
  simp only [cnt]
  by_cases he : i = n
  ·subst he; rw [h]; have := cnt_le x i; simp; omega
  ·have := ih (by omega); split <;> omega
theorem cnt_congr (x y : BitVec 64) (n : Nat) (h : ∀ j, j < n → x.getLsbD j = y.getLsbD j) : cnt x n = cnt y n := by
 induction n with
 | zero => simp [cnt]
 | succ n ih => simp only [cnt]; rw [ih (fun j hj => h j (by omega)), h n (by omega)]
theorem cnt_set (x : BitVec 64) (n i : Nat) (hi : i < n) (hn : n ≤ 64) (h : x.getLsbD i = false) : cnt (x ||| BitVec.twoPow 64 i) n = cnt x n + 1 := by
 induction n with
 | zero => omega
 | succ n ih =>
  simp only [cnt, BitVec.getLsbD_or, BitVec.getLsbD_twoPow]
  by_cases he : i = n
  ·subst he
   rw [cnt_congr (x ||| BitVec.twoPow 64 i) x i (fun j hj => by simp [BitVec.getLsbD_or, BitVec.getLsbD_twoPow]; omega), h]
   simp; omega
  ·rw [ih (by omega) (by omega)]
   simp [he]; omega

/-- How many addresses a block of this prefix has. -/
def M (p : Int) : Int := 2 ^ (32 - p).toNat
theorem p_cases {p : Int} (h1 : 16 ≤ p) (h2 : p ≤ 32) : p = 16 ∨ p = 17 ∨ p = 18 ∨ p = 19 ∨ p = 20 ∨ p = 21 ∨ p = 22 ∨ p = 23 ∨ p = 24 ∨ p = 25 ∨ p = 26 ∨ p = 27 ∨ p = 28 ∨ p = 29 ∨ p = 30 ∨ p = 31 ∨ p = 32 := by omega
theorem M_bounds {p : Int} (h1 : 16 ≤ p) (h2 : p ≤ 32) : 1 ≤ M p ∧ M p ≤ 65536 := by
 rcases p_cases h1 h2 with rfl | rfl | rfl | rfl | rfl | rfl | rfl | rfl | rfl | rfl | rfl | rfl | rfl | rfl | rfl | rfl | rfl <;> decide
theorem M_fits {p B : Int} (h1 : 16 ≤ p) (h2 : p ≤ 32) (hB0 : 0 ≤ B) (hB1 : B ≤ 4294967295) (hm : B % M p = 0) : B + M p ≤ 4294967296 := by
 rcases p_cases h1 h2 with rfl | rfl | rfl | rfl | rfl | rfl | rfl | rfl | rfl | rfl | rfl | rfl | rfl | rfl | rfl | rfl | rfl
 ·rw [show M 16 = 65536 by decide] at *; omega
 ·rw [show M 17 = 32768 by decide] at *; omega
 ·rw [show M 18 = 16384 by decide] at *; omega
 ·rw [show M 19 = 8192 by decide] at *; omega
 ·rw [show M 20 = 4096 by decide] at *; omega
 ·rw [show M 21 = 2048 by decide] at *; omega
 ·rw [show M 22 = 1024 by decide] at *; omega
 ·rw [show M 23 = 512 by decide] at *; omega
 ·rw [show M 24 = 256 by decide] at *; omega
 ·rw [show M 25 = 128 by decide] at *; omega
 ·rw [show M 26 = 64 by decide] at *; omega
 ·rw [show M 27 = 32 by decide] at *; omega
 ·rw [show M 28 = 16 by decide] at *; omega
 ·rw [show M 29 = 8 by decide] at *; omega
 ·rw [show M 30 = 4 by decide] at *; omega
 ·rw [show M 31 = 2 by decide] at *; omega
 ·rw [show M 32 = 1 by decide] at *; omega
theorem wraps_u64 (n : Int) (h0 : 0 ≤ n) (h1 : n < 2 ^ 64) : IntKind.u64.wrap n = n := by rw [wrapu]; omega
theorem Many_eq (B : Int) {p : Int} (h1 : 16 ≤ p) (h2 : p ≤ 32) : block_Many.f B p = some (M p) := by
 have hb := M_bounds h1 h2
 unfold block_Many.f
 rw [w64 (x := 32 - p) (by omega) (by omega), wrapu_small (by omega) (by omega), if_pos (by omega)]
 unfold M at hb
 unfold shl M
 rw [Nat.min_eq_left (by simp [IntKind.bits]; omega), Int.one_mul, IntKind.wrap_i64]
 generalize (2 : Int) ^ (32 - p).toNat = q at *
 congr 1; omega
/-- May such a block be? -/
def bmay (B p : Int) : Bool := decide (16 ≤ p ∧ p ≤ 32 ∧ B % M p = 0)

theorem ref04Many_eq {p : Int} (h1 : 16 ≤ p) (h2 : p ≤ 32) {k : Nat} (hk : 20 ≤ k) : lodgerref04_Many.f k p = some (M p) := by
 rcases p_cases h1 h2 with rfl | rfl | rfl | rfl | rfl | rfl | rfl | rfl | rfl | rfl | rfl | rfl | rfl | rfl | rfl | rfl | rfl <;> exact at_rounds (fun k => lodgerref04_Many.mono _ k) hk (by decide +kernel)
theorem ref04May_eq {B p : Int} (hB0 : 0 ≤ B) (hB1 : B ≤ 4294967295) {k : Nat} (hk : 20 ≤ k) : lodgerref04_May.f k B p = some (bmay B p) := by
 unfold lodgerref04_May.f bmay
 by_cases c1 : p ≥ 16
 ·rw [if_pos c1]
  by_cases c2 : p ≤ 32
  ·have hb := M_bounds (p := p) (by omega) (by omega)
   rw [if_pos c2, ref04Many_eq (by omega) (by omega) hk, Option.bind_some, if_neg (by omega), w64 (by omega) (by omega), tm hB0]
   congr 1
   rw [Bool.eq_iff_iff, beq_iff_eq, decide_eq_true_eq]
   omega
  ·rw [if_neg c2, decide_eq_false (by omega)]
 ·rw [if_neg c1, decide_eq_false (by omega)]

theorem rd_mid (pre xs : List Int) (x : Int) : rd (pre ++ x :: xs) (pre.length : Int) = x := by simp [rd]

/-- Does a list rise, from behind a number on, below a bound? -/
def rises (last m : Int) : List Int → Bool
 | [] => true
 | x :: xs => decide (last < x) && decide (x < m) && rises x m xs
/-- What a configuration's numbers must be. -/
def chead (B p : Int) (l : List Int) (s w q t : Int) : Bool := decide (16 ≤ p ∧ p ≤ 32 ∧ B % M p = 0 ∧ (l.length : Int) ≤ 64 ∧ 1 ≤ s ∧ s ≤ 64 ∧ 1 ≤ w ∧ w ≤ 64 ∧ 1 ≤ q ∧ q ≤ 64 ∧ 1 ≤ t ∧ t ≤ 8)
/-- May such a configuration be? -/
def cmay (B p : Int) (l : List Int) (s w q t : Int) : Bool := chead B p l s w q t && rises (-1) (M p) l
theorem cmay_head {B p : Int} {l : List Int} {s w q t : Int} (h : cmay B p l s w q t = true) : 16 ≤ p ∧ p ≤ 32 ∧ B % M p = 0 ∧ (l.length : Int) ≤ 64 ∧ 1 ≤ s ∧ s ≤ 64 ∧ 1 ≤ w ∧ w ≤ 64 ∧ 1 ≤ q ∧ q ≤ 64 ∧ 1 ≤ t ∧ t ≤ 8 := by
 unfold cmay chead at h
 rw [Bool.and_eq_true, decide_eq_true_eq] at h
 exact h.1
theorem cmay_rises {B p : Int} {l : List Int} {s w q t : Int} (h : cmay B p l s w q t = true) : rises (-1) (M p) l = true := by
 unfold cmay at h
 rw [Bool.and_eq_true] at h
 exact h.2

theorem Index_l0 (l : List Int) (hl : l.length ≤ maxLen) (a : Int) : ∀ (xs pre : List Int) (k : Nat), l = pre ++ xs → xs.length < k →
  ∃ r, slices_Index_int_int.l0 k l a (l.length : Int) (pre.length : Int) = some r ∧ (0 ≤ r ↔ a ∈ xs) := by
 unfold maxLen at hl
 intro xs
 induction xs with
 | nil =>
  intro pre k hp hk
  obtain ⟨k, rfl⟩ : ∃ m, k = m + 1 := ⟨k - 1, by omega⟩
  refine ⟨-1, ?_, by simp⟩
  simp only [slices_Index_int_int.l0]; rw [if_neg (by rw [hp]; simp)]
 | cons x xs ih =>
  intro pre k hp hk
  simp only [List.length_cons] at hk
  obtain ⟨k, rfl⟩ : ∃ m, k = m + 1 := ⟨k - 1, by omega⟩
  have hlt : pre.length < l.length := by rw [hp]; simp
  simp only [slices_Index_int_int.l0]
  rw [if_pos (by omega), if_pos (by omega), if_pos (by omega)]
  have hx : rd l (pre.length : Int) = x := by rw [hp]; exact rd_mid ..
  rw [hx]
  by_cases e : a = x
  ·rw [if_pos e]; exact ⟨_, rfl, by simp [e]⟩
  ·rw [if_neg e, w64 (by omega) (by omega)]
   obtain ⟨r, h1, h2⟩ := ih (pre ++ [x]) k (by rw [hp]; simp) (by omega)
   simp only [List.length_append, List.length_cons, List.length_nil, Nat.zero_add, Int.natCast_add, Int.natCast_one] at h1
   exact ⟨r, h1, by rw [h2]; simp [e]⟩
theorem Contains_eq (l : List Int) (hl : l.length ≤ maxLen) (a : Int) {k : Nat} (hk : l.length < k) : slices_Contains_int_int.f k l a = some (decide (a ∈ l)) := by
 unfold slices_Contains_int_int.f slices_Index_int_int.f
 obtain ⟨r, h1, h2⟩ := Index_l0 l hl a l [] k rfl hk
 replace h1 : slices_Index_int_int.l0 k l a (l.length : Int) 0 = some r := h1
 rw [h1, Option.bind_some]
 congr 1
 rw [Bool.eq_iff_iff, decide_eq_true_eq, decide_eq_true_eq]
 exact h2

theorem Held_eq (B p : Int) (l : List Int) (s w q t : Int) (hl : l.length ≤ maxLen) (a : Int) {k : Nat} (hk : l.length < k) : block_Held.f k B p l s w q t a = some (decide (a ∈ l)) := by
 unfold block_Held.f; rw [Contains_eq l hl a hk]; rfl

theorem ref05Many_eq (B : Int) {p : Int} (h1 : 16 ≤ p) (h2 : p ≤ 32) {k : Nat} (hk : 20 ≤ k) : lodgerref05_Many.f k B p = some (M p) := by
 unfold lodgerref05_Many.f; rw [ref04Many_eq h1 h2 hk]; rfl

theorem refMay_l0 (B p : Int) (l : List Int) (s w q t : Int) (hl : l.length ≤ maxLen) (h1 : 16 ≤ p) (h2 : p ≤ 32) : ∀ (xs pre : List Int) (last : Int) (k : Nat), l = pre ++ xs → (pre = [] ∧ last = -1 ∨ (∃ pr, pre = pr ++ [last]) ∧ 0 ≤ last) → xs.length + 30 < k →
  lodgerref05_May.l0 k (pre.length : Int) B p l s w q t = some (rises last (M p) xs) := by
 unfold maxLen at hl
 intro xs
 induction xs with
 | nil =>
  intro pre last k hp hpre hk
  obtain ⟨k, rfl⟩ : ∃ m, k = m + 1 := ⟨k - 1, by omega⟩
  simp only [lodgerref05_May.l0]; rw [if_neg (by rw [hp]; simp)]; rfl
 | cons x xs ih =>
  intro pre last k hp hpre hk
  simp only [List.length_cons] at hk
  obtain ⟨k, rfl⟩ : ∃ m, k = m + 1 := ⟨k - 1, by omega⟩
  have hlt : pre.length < l.length := by rw [hp]; simp
  simp only [lodgerref05_May.l0, rises]
  have hx : rd l (pre.length : Int) = x := by rw [hp]; exact rd_mid ..
  rw [if_pos (by omega), if_pos (by omega), hx]
  by_cases c1 : x < 0
  ·rw [if_pos c1, decide_eq_false (p := last < x) (by rcases hpre with ⟨_, h⟩ | ⟨_, h⟩ <;> omega)]; rfl
  rw [if_neg c1, ref05Many_eq B h1 h2 (by omega), Option.bind_some]
  by_cases c2 : x ≥ M p
  ·rw [if_pos c2, decide_eq_false (p := x < M p) (by omega)]; simp
  have h := ih (pre ++ [x]) x k (by rw [hp]; simp) (.inr ⟨⟨pre, rfl⟩, by omega⟩) (by omega)
  simp only [List.length_append, List.length_cons, List.length_nil, Nat.zero_add, Int.natCast_add, Int.natCast_one] at h
  rw [if_neg c2, decide_eq_true (p := x < M p) (by omega), w64 (x := (pre.length : Int) + 1) (by omega) (by omega), h]
  rcases hpre with ⟨rfl, rfl⟩ | ⟨⟨pr, rfl⟩, h0⟩
  ·rw [if_neg (by simp), decide_eq_true (p := -1 < x) (by omega)]; rfl
  ·have hy : rd l (((pr ++ [last]).length : Int) - 1) = last := by
    rw [hp]; simp [rd]
   have hl1 : (pr ++ [last]).length = pr.length + 1 := by simp
   rw [if_pos (by omega), w64 (by omega) (by omega), if_pos (by omega), if_pos (by omega), hy]
   by_cases c3 : x ≤ last
   ·rw [if_pos c3, decide_eq_false (p := last < x) (by omega)]; rfl
   ·rw [if_neg c3, decide_eq_true (p := last < x) (by omega)]; rfl
theorem ref05May_eq {B p : Int} (l : List Int) (s w q t : Int) (hl : l.length ≤ maxLen) (hB0 : 0 ≤ B) (hB1 : B ≤ 4294967295) {k : Nat} (hk : l.length + 40 < k) : lodgerref05_May.f k B p l s w q t = some (cmay B p l s w q t) := by
 obtain ⟨k, rfl⟩ : ∃ m, k = m + 1 := ⟨k - 1, by omega⟩
 have hj : lodgerref05_May.j0 (k + 1) true B p l s w q t = some false := by simp only [lodgerref05_May.j0, ↓reduceIte]
 unfold lodgerref05_May.f cmay
 rw [ref04May_eq hB0 hB1 (by omega), Option.bind_some]
 by_cases h : chead B p l s w q t = true
 ·have h' := h
  unfold chead at h'
  rw [decide_eq_true_eq] at h'
  have hb : bmay B p = true := by unfold bmay; rw [decide_eq_true_eq]; omega
  rw [h, hb, if_pos rfl, if_neg (by omega), if_neg (by omega), if_neg (by omega), if_neg (by omega), if_neg (by omega), if_neg (by omega), if_neg (by omega), if_neg (by omega), decide_eq_false (p := t > 8) (by omega)]
  simp only [lodgerref05_May.j0]
  rw [if_neg (by simp)]
  have := refMay_l0 B p l s w q t hl (by omega) (by omega) l [] (-1) k rfl (.inl ⟨rfl, rfl⟩) (by omega)
  rw [show (([] : List Int).length : Int) = 0 from rfl] at this
  rw [this]; rfl
 ·rw [Bool.not_eq_true] at h
  rw [h, hj]
  by_cases hb : bmay B p = true
  ·rw [hb, if_pos rfl]
   have hb' := hb
   unfold bmay at hb'
   rw [decide_eq_true_eq] at hb'
   unfold chead at h
   rw [decide_eq_false_iff_not] at h
   by_cases c1 : (l.length : Int) > 64
   ·rw [if_pos c1]; rfl
   rw [if_neg c1]
   by_cases c2 : s < 1
   ·rw [if_pos c2]; rfl
   rw [if_neg c2]
   by_cases c3 : s > 64
   ·rw [if_pos c3]; rfl
   rw [if_neg c3]
   by_cases c4 : w < 1
   ·rw [if_pos c4]; rfl
   rw [if_neg c4]
   by_cases c5 : w > 64
   ·rw [if_pos c5]; rfl
   rw [if_neg c5]
   by_cases c6 : q < 1
   ·rw [if_pos c6]; rfl
   rw [if_neg c6]
   by_cases c7 : q > 64
   ·rw [if_pos c7]; rfl
   rw [if_neg c7]
   by_cases c8 : t < 1
   ·rw [if_pos c8]; rfl
   rw [if_neg c8, decide_eq_true (p := t > 8) (by omega), hj]; rfl
  ·rw [if_neg hb]; rfl

theorem Offset_block {B p : Int} (hB0 : 0 ≤ B) (hB1 : B ≤ 4294967295) (h1 : 16 ≤ p) (h2 : p ≤ 32) {a : Int} (ha0 : 0 ≤ a) (ha1 : a ≤ 4294967295) : block_Offset.f B p a = some (if B ≤ a ∧ a < B + M p then (a - B, 0) else (0, 3)) := by
 unfold block_Offset.f
 have hb := M_bounds h1 h2
 rw [w64 (x := a) (by omega) (by omega), w64 (x := B) (by omega) (by omega), w64 (x := a - B) (by omega) (by omega), Many_eq B h1 h2, Option.bind_some]
 by_cases c1 : a - B ≥ 0
 ·rw [if_pos c1]
  by_cases c2 : a - B < M p
  ·rw [if_pos c2, if_pos (by omega)]
  ·rw [if_neg c2, if_neg (by omega)]
 ·rw [if_neg c1, if_neg (by omega)]

/-- What finding an address answers. -/
def find (B p : Int) (l : List Int) (a : Int) : Int × Int := if B ≤ a ∧ a < B + M p then (if a - B ∈ l then (0, 4) else (a - B, 0)) else (0, 3)
theorem Find_eq {B p : Int} (l : List Int) (s w q t : Int) (hl : l.length ≤ maxLen) (hB0 : 0 ≤ B) (hB1 : B ≤ 4294967295) (h1 : 16 ≤ p) (h2 : p ≤ 32) {a : Int} (ha0 : 0 ≤ a) (ha1 : a ≤ 4294967295) {k : Nat} (hk : l.length < k) : block_Find.f k B p l s w q t a = some (find B p l a) := by
 unfold block_Find.f find
 rw [Offset_block hB0 hB1 h1 h2 ha0 ha1, Option.bind_some]
 by_cases c : B ≤ a ∧ a < B + M p
 ·rw [if_pos c, if_pos rfl, Held_eq B p l s w q t hl _ hk, Option.bind_some, if_pos c]
  by_cases e : a - B ∈ l
  ·simp [e]
  ·simp [e]
 ·rw [if_neg c, if_neg (by decide), if_neg c]

/-- The addresses that a request names. -/
def names (K A : Int) (l : List Int) : List Int := if K = 4 then l else if K = 2 ∨ K = 3 ∨ K = 5 then [A] else []
theorem Names_eq {K A : Int} {l : List Int} (hl : l.length ≤ 1000000) : ask_Names.f K A l = some (names K A l) := by
 unfold ask_Names.f slices_Clone_uint32_uint32.f names sgl
 by_cases c4 : K = 4
 ·rw [if_pos c4, if_pos c4, Option.bind_some, if_pos (by simp; omega), Option.bind_some]; simp
 rw [if_neg c4, if_neg c4]
 by_cases c0 : K ≥ 0
 ·rw [if_pos c0]
  by_cases c6 : K < 6
  ·rw [if_pos c6, if_pos (show 0 ≤ K from c0)]
   by_cases c : K = 2 ∨ K = 3 ∨ K = 5
   ·rw [if_pos c, decide_eq_true c, if_pos rfl]
   ·rw [if_neg c, decide_eq_false c, if_neg (by simp)]
  ·rw [if_neg c6, if_neg (by omega)]
 ·rw [if_neg c0, if_neg (by omega)]
theorem names_len {K A : Int} {l : List Int} : (names K A l).length ≤ l.length + 1 := by
 unfold names; split <;> (try split) <;> simp
theorem names_wf {K A : Int} {l : List Int} (hA : 0 ≤ A ∧ A ≤ 4294967295) (hw : ∀ x ∈ l, 0 ≤ x ∧ x ≤ 4294967295) : ∀ x ∈ names K A l, 0 ≤ x ∧ x ≤ 4294967295 := by
 unfold names
 intro x hx
 split at hx
 ·exact hw x hx
 ·split at hx
  ·simp at hx; subst hx; exact hA
  ·simp at hx

/-- What is wrong with a list of addresses: the first that is. -/
def scan (F : Int → Int) : List Int → List Int → Int
 | [], _ => 0
 | x :: xs, met => if F x = 0 then (if x ∈ met then 8 else scan F xs (met ++ [x])) else F x
theorem scan_snoc (F : Int → Int) (y : Int) : ∀ (xs met : List Int), scan F (xs ++ [y]) met = if scan F xs met = 0 then (if F y = 0 then (if y ∈ met ++ xs then 8 else 0) else F y) else scan F xs met
 | [], met => by
  simp only [List.nil_append, List.append_nil, scan]
  by_cases c : F y = 0
  ·simp [c]
  ·simp [c]
 | x :: xs, met => by
  by_cases c : F x = 0
  ·by_cases d : x ∈ met
   ·rw [show scan F (x :: xs) met = 8 by simp [scan, c, d], show scan F (x :: xs ++ [y]) met = 8 by simp [scan, c, d], if_neg (by decide)]
   ·rw [show scan F (x :: xs) met = scan F xs (met ++ [x]) by simp [scan, c, d], show scan F (x :: xs ++ [y]) met = scan F (xs ++ [y]) (met ++ [x]) by simp [scan, c, d], scan_snoc F y xs (met ++ [x])]
    simp
  ·rw [show scan F (x :: xs) met = F x by simp [scan, c], show scan F (x :: xs ++ [y]) met = F x by simp [scan, c], if_neg c]
theorem scan_zero {F : Int → Int} : ∀ {xs met : List Int} {a : Int} {pre suf : List Int}, scan F xs met = 0 → xs = pre ++ a :: suf → F a = 0 ∧ a ∉ met ∧ a ∉ pre
 | [], met, a, pre, suf, _, h => by simp at h
 | x :: xs, met, a, pre, suf, hs, h => by
  simp only [scan] at hs
  by_cases c : F x = 0
  ·rw [if_pos c] at hs
   by_cases d : x ∈ met
   ·rw [if_pos d] at hs; omega
   ·rw [if_neg d] at hs
    cases pre with
    | nil => simp at h; obtain ⟨rfl, rfl⟩ := h; exact ⟨c, d, by simp⟩
    | cons z pre =>
     simp at h
     obtain ⟨rfl, rfl⟩ := h
     obtain ⟨h1, h2, h3⟩ := scan_zero hs rfl
     simp only [List.mem_append, List.mem_singleton, not_or] at h2
     exact ⟨h1, h2.1, by simp [h2.2, h3]⟩
  ·rw [if_neg c] at hs; exact absurd hs c

theorem wfmk_u32 {x : Int} (h : 0 ≤ x ∧ x ≤ 4294967295) : (Lit.int .u32 x).wf = true := by
 simp [Lit.wf, IntKind.min, IntKind.max, IntKind.signed, IntKind.bits]
 omega
/-- What is wrong with a request. -/
def chk (B p : Int) (H : List Int) (K A : Int) (l : List Int) : Int := if K < 1 ∨ K > 7 then 1 else if K = 4 ∧ l.length = 0 then 7 else if K = 4 ∧ 64 < l.length then 1 else scan (fun x => (find B p H x).2) (names K A l) []
theorem Check_l0 {B p : Int} (H : List Int) (s w q t : Int) (hH : H.length ≤ maxLen) (hB0 : 0 ≤ B) (hB1 : B ≤ 4294967295) (h1 : 16 ≤ p) (h2 : p ≤ 32) {l : List Int} (hl : l.length ≤ 1000001) (hw : ∀ x ∈ l, 0 ≤ x ∧ x ≤ 4294967295) : ∀ (xs pre met : List Int) (k : Nat), l = pre ++ xs → met.length ≤ pre.length → xs.length + H.length + 1 < k →
  ask_Check.l0 k l (l.length : Int) (pre.length : Int) B p H s w q t met = some (scan (fun x => (find B p H x).2) xs met) := by
 intro xs
 induction xs with
 | nil =>
  intro pre met k hp hm hk
  obtain ⟨k, rfl⟩ : ∃ m, k = m + 1 := ⟨k - 1, by omega⟩
  simp only [ask_Check.l0]; rw [if_neg (by rw [hp]; simp)]; rfl
 | cons x xs ih =>
  intro pre met k hp hm hk
  simp only [List.length_cons] at hk
  have hl1 : l.length = pre.length + (xs.length + 1) := by rw [hp]; simp
  obtain ⟨k, rfl⟩ : ∃ m, k = m + 1 := ⟨k - 1, by omega⟩
  have hx : rd l (pre.length : Int) = x := by rw [hp]; exact rd_mid ..
  have hxw := hw x (by rw [hp]; simp)
  have h := ih (pre ++ [x]) (met ++ [x]) k (by rw [hp]; simp) (by simp; omega) (by omega)
  rw [show ((pre ++ [x]).length : Int) = (pre.length : Int) + 1 by simp] at h
  simp only [ask_Check.l0, scan]
  rw [if_pos (by omega), if_pos (by omega), if_pos (by omega), hx, Find_eq H s w q t hH hB0 hB1 h1 h2 hxw.1 hxw.2 (by omega), Option.bind_some]
  by_cases c : (find B p H x).2 = 0
  ·rw [if_pos c, if_pos c, if_pos (wfmk_u32 hxw)]
   by_cases d : x ∈ met
   ·rw [if_pos d, if_pos d]
   ·rw [if_neg d, if_neg d, if_pos (by omega), w64 (by omega) (by omega), h]
  ·rw [if_neg c, if_neg c]
theorem size_eq {K A : Int} {l : List Int} : ask_size.f K A l = some (if K = 4 ∧ l.length = 0 then 7 else if K = 4 ∧ 64 < l.length then 1 else 0) := by
 unfold ask_size.f
 by_cases c : K = 4
 ·subst c
  by_cases d : l.length = 0
  ·simp [d]
  ·rw [if_pos rfl, if_neg (show ¬ (l.length : Int) = 0 by omega), if_neg (show ¬ ((4 : Int) = 4 ∧ l.length = 0) from fun h => d h.2)]
   by_cases e : 64 < l.length
   ·rw [if_pos (show (l.length : Int) > 64 by omega), if_pos (show (4 : Int) = 4 ∧ 64 < l.length from ⟨rfl, e⟩)]
   ·rw [if_neg (show ¬ (l.length : Int) > 64 by omega), if_neg (show ¬ ((4 : Int) = 4 ∧ 64 < l.length) from fun h => e h.2)]
 ·rw [if_neg c, if_neg (show ¬ (K = 4 ∧ l.length = 0) from fun h => c h.1), if_neg (show ¬ (K = 4 ∧ 64 < l.length) from fun h => c h.1)]
theorem Check_eq {B p : Int} (H : List Int) (s w q t : Int) (hH : H.length ≤ maxLen) (hB0 : 0 ≤ B) (hB1 : B ≤ 4294967295) (h1 : 16 ≤ p) (h2 : p ≤ 32) {K A : Int} {l : List Int} (hl : l.length ≤ 1000000) (hA : 0 ≤ A ∧ A ≤ 4294967295) (hw : ∀ x ∈ l, 0 ≤ x ∧ x ≤ 4294967295) {k : Nat} (hk : l.length + H.length + 10 < k) :
  ask_Check.f k B p H s w q t K A l = some (chk B p H K A l) := by
 obtain ⟨k, rfl⟩ : ∃ m, k = m + 1 := ⟨k - 1, by omega⟩
 unfold ask_Check.f chk
 have hn := names_len (K := K) (A := A) (l := l)
 by_cases c1 : K < 1
 ·rw [if_pos c1, if_pos (by omega)]; simp only [ask_Check.j0, ↓reduceIte]
 rw [if_neg c1]
 by_cases c7 : K > 7
 ·rw [decide_eq_true c7, if_pos (by omega)]; simp only [ask_Check.j0, ↓reduceIte]
 rw [decide_eq_false c7, if_neg (by omega)]
 simp only [ask_Check.j0]
 rw [if_neg (by simp), size_eq, Option.bind_some]
 by_cases d : K = 4 ∧ l.length = 0
 ·rw [if_pos d, if_neg (by omega)]; simp [d]
 rw [if_neg d, if_neg d]
 by_cases e : K = 4 ∧ 64 < l.length
 ·rw [if_pos e, if_neg (by omega)]; simp [e]
 rw [if_neg e, if_neg e, if_pos rfl, Names_eq hl, Option.bind_some]
 exact Check_l0 H s w q t hH hB0 hB1 h1 h2 (by omega) (names_wf hA hw) _ [] [] k rfl (by simp) (by omega)

theorem awake_true {k : Nat} (hk : 500 ≤ k) : lodgerlaw10_awake.f k = some true := at_rounds lodgerlaw10_awake.mono hk (by decide +kernel)
theorem scan_pre {F : Int → Int} {ys : List Int} : ∀ {xs met : List Int}, scan F (xs ++ ys) met = 0 → scan F xs met = 0
 | [], _, _ => rfl
 | x :: xs, met, h => by
  simp only [List.cons_append, scan] at h ⊢
  by_cases c : F x = 0
  ·rw [if_pos c] at h ⊢
   by_cases d : x ∈ met
   ·rw [if_pos d] at h; omega
   ·rw [if_neg d] at h ⊢
    exact scan_pre h
  ·rw [if_neg c] at h; exact absurd h c
theorem chk_others {B p : Int} {H : List Int} {K A o : Int} {l : List Int} : chk B p H K (if K = 1 ∨ K = 4 ∨ K = 6 ∨ K = 7 then o else A) (if K = 4 then l else [o, o]) = chk B p H K A l := by
 unfold chk
 by_cases c0 : K < 1 ∨ K > 7
 ·rw [if_pos c0, if_pos c0]
 rw [if_neg c0, if_neg c0]
 by_cases c4 : K = 4
 ·rw [if_pos c4]
  have hn : ∀ a, names K a l = l := fun a => by unfold names; rw [if_pos c4]
  rw [hn, hn]
 ·have hn : ∀ a m, names K a m = if K = 2 ∨ K = 3 ∨ K = 5 then [a] else [] := fun a m => by unfold names; rw [if_neg c4]
  have z1 : ∀ m : List Int, ¬ (K = 4 ∧ m.length = 0) := fun _ h => c4 h.1
  have z2 : ∀ m : List Int, ¬ (K = 4 ∧ 64 < m.length) := fun _ h => c4 h.1
  rw [if_neg (z1 _), if_neg (z2 _), if_neg (z1 _), if_neg (z2 _), hn, hn]
  by_cases c2 : K = 2 ∨ K = 3 ∨ K = 5
  ·rw [if_neg (show ¬ (K = 1 ∨ K = 4 ∨ K = 6 ∨ K = 7) by omega)]
  ·rw [if_neg c2, if_neg c2]
theorem AskOthers : lodgerlaw10_AskOthers.Pure := by
 intro B p H s w q t K A l o ct w0 w1 hH w2 w3 w4 w5 w6 w7 w8 hl w9 w10 w11
 have b0 := wf_u32 w0
 have b8 := wf_u32 w8
 have b10 := wf_u32 w10
 have b11 := wf_u8 w11
 have b9 : ∀ x ∈ l, 0 ≤ x ∧ x ≤ 4294967295 := fun x hx => wf_u32 (w9 x hx)
 refine ⟨H.length + 2000, ?_⟩
 generalize hK : H.length + 2000 = k
 obtain ⟨m, rfl, hm⟩ := more (k := k) (N := H.length + 1999) (by omega)
 have hj : lodgerlaw10_AskOthers.j0 (m + 1) o ct true B p H s w q t K A l = some true := by
  simp only [lodgerlaw10_AskOthers.j0, ↓reduceIte]; rw [awake_true (by omega)]; rfl
 unfold lodgerlaw10_AskOthers.f lodgerref10_Few.f
 rw [awake_true (by omega), Option.bind_some, if_pos rfl, ref05May_eq H s w q t hH b0.1 b0.2 (by omega), Option.bind_some]
 cases hc : cmay B p H s w q t with
 | false => rw [if_neg (by simp), hj]
 | true =>
  obtain ⟨h1, h2, h3, h4, _⟩ := cmay_head hc
  rw [if_pos rfl, Option.bind_some]
  by_cases hf : (l.length : Int) ≤ 100
  ·rw [decide_eq_true hf]
   have hj4 : ∀ k, H.length + 1000 ≤ k → lodgerlaw10_AskOthers.j4 k ct true B p H s w q t K A l = some true := by
    intro k hk
    obtain ⟨k, rfl⟩ : ∃ z, k = z + 1 := ⟨k - 1, by omega⟩
    simp only [lodgerlaw10_AskOthers.j4, ↓reduceIte]
   have hj3 : ∀ k, H.length + 1500 ≤ k → ∀ A' l', A' = (if K = 1 ∨ K = 4 ∨ K = 6 ∨ K = 7 then o else A) → l' = (if K = 4 then l else [o, o]) → lodgerlaw10_AskOthers.j3 k ct B p H s w q t K A l K A' l' = some true := by
    intro k hk A' l' hA hl'
    obtain ⟨k, rfl⟩ : ∃ z, k = z + 1 := ⟨k - 1, by omega⟩
    have a1 : 0 ≤ A' ∧ A' ≤ 4294967295 := by rw [hA]; split <;> assumption
    have a2 : l'.length ≤ 101 := by
     rw [hl']
     split
     ·omega
     ·simp
    have a3 : ∀ x ∈ l', 0 ≤ x ∧ x ≤ 4294967295 := by
     rw [hl']
     split
     ·exact b9
     ·simp; exact b10
    simp only [lodgerlaw10_AskOthers.j3]
    rw [Check_eq H s w q t hH b0.1 b0.2 h1 h2 (by omega) b8 b9 (by omega), Option.bind_some, Check_eq H s w q t hH b0.1 b0.2 h1 h2 (by omega) a1 a3 (by omega), Option.bind_some, hA, hl', chk_others, if_pos rfl]
    by_cases c4 : K = 4
    ·rw [if_pos c4, Option.bind_some]
     by_cases hz : chk B p H K A l = 0
     ·rw [show (chk B p H K A l != 0) = false by simp [hz]]
      obtain ⟨k, rfl⟩ : ∃ z, k = z + 1 := ⟨k - 1, by omega⟩
      unfold chk at hz
      rw [if_neg (by omega)] at hz
      by_cases d2 : K = 4 ∧ l.length = 0
      ·rw [if_pos d2] at hz; omega
      rw [if_neg d2] at hz
      by_cases d3 : K = 4 ∧ 64 < l.length
      ·rw [if_pos d3] at hz; omega
      rw [if_neg d3] at hz
      have hn : ∀ m, names K A m = m := fun m => by unfold names; rw [if_pos c4]
      rw [hn] at hz
      simp only [lodgerlaw10_AskOthers.j4]
      rw [if_neg (by simp), w64 (x := ct) (by omega) (by omega), w64 (x := (l.length : Int) + 1) (by omega) (by omega), tm b11.1, if_neg (by omega)]
      have i0 := Int.emod_nonneg ct (show (l.length : Int) + 1 ≠ 0 by omega)
      have i1 := Int.emod_lt_of_pos ct (show 0 < (l.length : Int) + 1 by omega)
      generalize ct % ((l.length : Int) + 1) = i at i0 i1
      have hlen : (l.take i.toNat).length = i.toNat := by rw [List.length_take]; omega
      have a4 : ∀ x ∈ l.take i.toNat, 0 ≤ x ∧ x ≤ 4294967295 := fun x hx => b9 x (List.mem_of_mem_take hx)
      have hs : scan (fun x => (find B p H x).2) (l.take i.toNat) [] = 0 := scan_pre (ys := l.drop i.toNat) (by rw [List.take_append_drop]; exact hz)
      rw [if_pos i0, if_pos (by omega), Option.bind_some, Check_eq H s w q t hH b0.1 b0.2 h1 h2 (by omega) b8 a4 (by omega), Option.bind_some]
      by_cases e : i.toNat = 0
      ·have h7 : chk B p H K A (l.take i.toNat) = 7 := by
        unfold chk
        rw [if_neg (by omega), if_pos ⟨c4, by omega⟩]
       rw [h7, if_neg (by decide), if_pos (by omega), Option.bind_some]; rfl
      ·have h0 : chk B p H K A (l.take i.toNat) = 0 := by
        unfold chk
        rw [if_neg (by omega), if_neg (fun h => e (by omega)), if_neg (fun h => d3 ⟨c4, by omega⟩), hn, hs]
       rw [h0, if_pos rfl]
     ·rw [show (chk B p H K A l != 0) = true by simp [hz]]
      exact hj4 k (by omega)
    ·rw [if_neg c4]
     exact hj4 k (by omega)
   have hj2 : ∀ k, H.length + 1600 ≤ k → ∀ A', A' = (if K = 1 ∨ K = 4 ∨ K = 6 ∨ K = 7 then o else A) → lodgerlaw10_AskOthers.j2 k o ct B p H s w q t K A l K A' l = some true := by
    intro k hk A' hA
    obtain ⟨k, rfl⟩ : ∃ z, k = z + 1 := ⟨k - 1, by omega⟩
    simp only [lodgerlaw10_AskOthers.j2]
    by_cases c4 : K = 4
    ·rw [if_pos c4]; exact hj3 k (by omega) A' l hA (by rw [if_pos c4])
    ·rw [if_neg c4]; exact hj3 k (by omega) A' _ hA (by rw [if_neg c4])
   have hj1 : ∀ k b, H.length + 1700 ≤ k → (b = true ↔ K = 1 ∨ K = 4 ∨ K = 6 ∨ K = 7) → lodgerlaw10_AskOthers.j1 k o ct b B p H s w q t K A l K A l = some true := by
    intro k b hk hb
    obtain ⟨k, rfl⟩ : ∃ z, k = z + 1 := ⟨k - 1, by omega⟩
    simp only [lodgerlaw10_AskOthers.j1]
    by_cases c : b = true
    ·rw [if_pos c]; exact hj2 k (by omega) o (by rw [if_pos (hb.1 c)])
    ·rw [if_neg c]; exact hj2 k (by omega) A (by rw [if_neg (fun h => c (hb.2 h))])
   simp only [lodgerlaw10_AskOthers.j0]
   rw [if_neg (by simp)]
   by_cases k1 : K = 1
   ·rw [if_pos k1]; exact hj1 m true (by omega) (by simp [k1])
   rw [if_neg k1]
   by_cases k4 : K = 4
   ·rw [if_pos k4]; exact hj1 m true (by omega) (by simp [k4])
   rw [if_neg k4]
   by_cases k6 : K = 6
   ·rw [if_pos k6]; exact hj1 m true (by omega) (by simp [k6])
   rw [if_neg k6]
   exact hj1 m _ (by omega) (by simp [k1, k4, k6])
  ·rw [decide_eq_false hf]; exact hj

end Go.Proofs.YthfcgjmffjmplaaDoor.Pure
