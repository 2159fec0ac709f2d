/- SeekNext answers true at every input: a seek finds the first leaf, of its shard, whose hints say nothing; leaves ahead of it in that shard are hinted to be full; a seek from a shard on goes by each shard ahead of it that is hinted to be full; no condition. -/
import Derived.Test.YtfhjeneegfmngaaQSeekNextx6
namespace Go.Proofs.Ytfhjeneegfmngaa.Pure
open Go.RowKit Go.Proofs.Ytfhjeneegfmngaa.PSeekNext Go.Proofs.YtfhjeneegfmngaaW.PrintWords Go.Proofs.YtfhjeneegfmngaaW.PrintLast Go.Proofs.YtfhjeneegfmngaaW.PrintMore
set_option linter.unusedVariables false
set_option linter.unusedSimpArgs false

theorem w64 {x : Int} (h1 : -9223372036854775808 ≤ x) (h2 : x ≤ 9223372036854775807) : wrap64 x = x := by unfold wrap64; omega
theorem td {a b : Int} (h : 0 ≤ a) : Int.tdiv a b = a / b := Int.tdiv_eq_ediv_of_nonneg h
theorem tm {a b : Int} (h : 0 ≤ a) : Int.tmod a b = a % b := Int.tmod_eq_emod_of_nonneg h
theorem more {k N : Nat} (h : N + 1 ≤ k) : ∃ m, k = m + 1 ∧ N ≤ m := ⟨k - 1, by omega, by omega⟩
theorem wf_u16 {a : Int} (h : (Lit.int .u16 a).wf = true) : 0 ≤ a ∧ a ≤ 65535 := by
 simp [Lit.wf, IntKind.min, IntKind.max, IntKind.signed, IntKind.bits] at h
 omega
theorem wf_u8 {a : Int} (h : (Lit.int .u8 a).wf = true) : 0 ≤ a ∧ a ≤ 255 := by
 simp [Lit.wf, IntKind.min, IntKind.max, IntKind.signed, IntKind.bits] at h
 omega
theorem wf_u32 {a : Int} (h : (Lit.int .u32 a).wf = true) : 0 ≤ a ∧ a ≤ 4294967295 := by
 simp [Lit.wf, IntKind.min, IntKind.max, IntKind.signed, IntKind.bits] at h
 omega
theorem wf_u64 {a : Int} (h : (Lit.int .u64 a).wf = true) : 0 ≤ a ∧ a ≤ 18446744073709551615 := by
 simp [Lit.wf, IntKind.min, IntKind.max, IntKind.signed, IntKind.bits] at h
 omega
theorem wf_i64 {a : Int} (h : (Lit.int .i64 a).wf = true) : -9223372036854775808 ≤ a ∧ a ≤ 9223372036854775807 := by
 simp [Lit.wf, IntKind.min, IntKind.max, IntKind.signed, IntKind.bits] at h
 omega

/-- A word, as the machine's number. -/
def U (x : BitVec 64) : Int := (x.toNat : Int)
theorem U_lt (x : BitVec 64) : 0 ≤ U x ∧ U x < 18446744073709551616 := by have := x.isLt; unfold U; omega
theorem U_of {a : Int} (h0 : 0 ≤ a) (h1 : a ≤ 18446744073709551615) : ∃ x : BitVec 64, a = U x := by
 refine ⟨BitVec.ofNat 64 a.toNat, ?_⟩
 unfold U
 rw [BitVec.toNat_ofNat, Nat.mod_eq_of_lt (by omega)]
 omega
theorem U_inj {x y : BitVec 64} (h : U x = U y) : x = y := by unfold U at h; exact BitVec.eq_of_toNat_eq (by omega)
theorem U_eq {x y : BitVec 64} : (U x == U y) = (x == y) := by
 rw [Bool.eq_iff_iff, beq_iff_eq, beq_iff_eq]; exact ⟨U_inj, fun h => by rw [h]⟩
theorem wrapu (n : Int) : IntKind.u64.wrap n = n % 18446744073709551616 := by simp [IntKind.wrap, IntKind.bits, IntKind.signed]
theorem wrapu_small {n : Int} (h0 : 0 ≤ n) (h1 : n < 18446744073709551616) : IntKind.u64.wrap n = n := by rw [wrapu]; omega
theorem wrapu_U (x : BitVec 64) : IntKind.u64.wrap ((x.toNat : Nat) : Int) = U x := by have := x.isLt; unfold U; rw [wrapu]; omega
theorem ofInt_U (x : BitVec 64) : BitVec.ofInt 64 (U x) = x := by unfold U; rw [BitVec.ofInt_natCast]; simp
theorem bits_or_U (x y : BitVec 64) : Go.bits .or .u64 (U x) (U y) = U (x ||| y) := by
 show IntKind.u64.wrap ((BitVec.ofInt 64 (U x) ||| BitVec.ofInt 64 (U y)).toNat : Nat) = _
 rw [ofInt_U, ofInt_U, wrapu_U]
theorem bits_and_U (x y : BitVec 64) : Go.bits .and .u64 (U x) (U y) = U (x &&& y) := by
 show IntKind.u64.wrap ((BitVec.ofInt 64 (U x) &&& BitVec.ofInt 64 (U y)).toNat : Nat) = _
 rw [ofInt_U, ofInt_U, wrapu_U]
theorem bits_xor_U (x y : BitVec 64) : Go.bits .xor .u64 (U x) (U y) = U (x ^^^ y) := by
 show IntKind.u64.wrap ((BitVec.ofInt 64 (U x) ^^^ BitVec.ofInt 64 (U y)).toNat : Nat) = _
 rw [ofInt_U, ofInt_U, wrapu_U]
theorem bits_andNot_U (x y : BitVec 64) : Go.bits .andNot .u64 (U x) (U y) = U (x &&& ~~~y) := by
 show IntKind.u64.wrap ((BitVec.ofInt 64 (U x) &&& ~~~BitVec.ofInt 64 (U y)).toNat : Nat) = _
 rw [ofInt_U, ofInt_U, wrapu_U]
theorem shl_U {i : Int} (h0 : 0 ≤ i) (h1 : i < 64) : shl .u64 1 i = U (BitVec.twoPow 64 i.toNat) := by
 unfold shl U
 rw [Nat.min_eq_left (by simp [IntKind.bits]; omega), BitVec.toNat_twoPow, wrapu, Int.one_mul]
 simp
theorem shr_U (x : BitVec 64) {i : Int} (h0 : 0 ≤ i) (h1 : i < 64) : shr .u64 (U x) i = U (x >>> i.toNat) := by
 unfold shr U
 rw [Nat.min_eq_left (by simp [IntKind.bits]; omega), BitVec.toNat_ushiftRight, Nat.shiftRight_eq_div_pow]
 simp
theorem one_U : (1 : Int) = U 1#64 := rfl
theorem bit_U (x : BitVec 64) (i : Nat) : (Go.bits .and .u64 (U (x >>> i)) 1 == 1) = x.getLsbD i := by
 rw [one_U, bits_and_U, U_eq, Bool.eq_iff_iff, beq_iff_eq]
 constructor
 ·intro h
  have := congrArg (fun z => z.getLsbD 0) h
  simpa using this
 ·intro h
  apply BitVec.eq_of_getLsbD_eq
  intro j hj
  rw [BitVec.getLsbD_and, BitVec.getLsbD_one, BitVec.getLsbD_ushiftRight]
  by_cases hz : j = 0
  ·subst hz; simp [h]
  ·simp [hz]
theorem bitn_U (x : BitVec 64) (i : Nat) : Go.bits .and .u64 (U (x >>> i)) 1 = (if x.getLsbD i = true then 1 else 0) := by
 have h := bit_U x i
 have hb : Go.bits .and .u64 (U (x >>> i)) 1 = 0 ∨ Go.bits .and .u64 (U (x >>> i)) 1 = 1 := by
  rw [one_U, bits_and_U]
  unfold U
  rw [BitVec.toNat_and]
  have : (x >>> i).toNat &&& (1#64).toNat ≤ 1 := Nat.and_le_right
  simp at this ⊢
  omega
 split
 ·rename_i hg; rw [hg] at h; exact eq_of_beq h
 ·rename_i hg
  rcases hb with hb | hb
  ·exact hb
  ·rw [hb] at h; exact absurd h.symm hg
/-- The word of the lowest bits. -/
def mask (n : Nat) : BitVec 64 := BitVec.ofNat 64 (2 ^ n - 1)
theorem mask_bit (n j : Nat) (hj : j < 64) : (mask n).getLsbD j = decide (j < n) := by
 unfold mask
 rw [BitVec.getLsbD_ofNat, Nat.testBit_two_pow_sub_one]
 simp [hj]
/-- How many of the first n bits are set. -/
def cnt (x : BitVec 64) : Nat → Nat
 | 0 => 0
 | n + 1 => cnt x n + (if x.getLsbD n = true then 1 else 0)
theorem cnt_le (x : BitVec 64) (n : Nat) : cnt x n ≤ n := by
 induction n with
 | zero => simp [cnt]
 | succ n ih => simp only [cnt]; split <;> omega
theorem cnt_mono (x : BitVec 64) {n m : Nat} (h : n ≤ m) : cnt x n ≤ cnt x m := by
 induction h with
 | refl => omega
 | step _ ih => simp only [cnt]; omega
theorem cnt_all (x : BitVec 64) (n : Nat) (h : ∀ j, j < n → x.getLsbD j = true) : cnt x n = n := by
 induction n with
 | zero => simp [cnt]
 | succ n ih => simp only [cnt]; rw [ih (fun j hj => h j (by omega)), if_pos (h n (by omega))]
theorem cnt_lt (x : BitVec 64) (n i : Nat) (hi : i < n) (h : x.getLsbD i = false) : cnt x n < n := by
 induction n with
 | zero => omega
 | succ n ih =>
  simp only [cnt]
  by_cases he : i = n
  ·subst he; rw [h]; have := cnt_le x i; simp; omega
  ·have := ih (by omega); split <;> omega
theorem cnt_congr (x y : BitVec 64) (n : Nat) (h : ∀ j, j < n → x.getLsbD j = y.getLsbD j) : cnt x n = cnt y n := by
 induction n with
 | zero => simp [cnt]
 | succ n ih => simp only [cnt]; rw [ih (fun j hj => h j (by omega)), h n (by omega)]
theorem cnt_set (x : BitVec 64) (n i : Nat) (hi : i < n) (hn : n ≤ 64) (h : x.getLsbD i = false) : cnt (x ||| BitVec.twoPow 64 i) n = cnt x n + 1 := by
 induction n with
 | zero => omega
 | succ n ih =>
  simp only [cnt, BitVec.getLsbD_or, BitVec.getLsbD_twoPow]
  by_cases he : i = n
  ·subst he
   rw [cnt_congr (x ||| BitVec.twoPow 64 i) x i (fun j hj => by simp [BitVec.getLsbD_or, BitVec.getLsbD_twoPow]; omega), h]
   simp; omega
  ·rw [ih (by omega) (by omega)]
   simp [he]; omega

/-- How many addresses a block of this prefix has. -/
def M (p : Int) : Int := 2 ^ (32 - p).toNat
theorem p_cases {p : Int} (h1 : 16 ≤ p) (h2 : p ≤ 32) : p = 16 ∨ p = 17 ∨ p = 18 ∨ p = 19 ∨ p = 20 ∨ p = 21 ∨ p = 22 ∨ p = 23 ∨ p = 24 ∨ p = 25 ∨ p = 26 ∨ p = 27 ∨ p = 28 ∨ p = 29 ∨ p = 30 ∨ p = 31 ∨ p = 32 := by omega
theorem M_bounds {p : Int} (h1 : 16 ≤ p) (h2 : p ≤ 32) : 1 ≤ M p ∧ M p ≤ 65536 := by
 rcases p_cases h1 h2 with rfl | rfl | rfl | rfl | rfl | rfl | rfl | rfl | rfl | rfl | rfl | rfl | rfl | rfl | rfl | rfl | rfl <;> decide
theorem M_fits {p B : Int} (h1 : 16 ≤ p) (h2 : p ≤ 32) (hB0 : 0 ≤ B) (hB1 : B ≤ 4294967295) (hm : B % M p = 0) : B + M p ≤ 4294967296 := by
 rcases p_cases h1 h2 with rfl | rfl | rfl | rfl | rfl | rfl | rfl | rfl | rfl | rfl | rfl | rfl | rfl | rfl | rfl | rfl | rfl
 ·rw [show M 16 = 65536 by decide] at *; omega
 ·rw [show M 17 = 32768 by decide] at *; omega
 ·rw [show M 18 = 16384 by decide] at *; omega
 ·rw [show M 19 = 8192 by decide] at *; omega
 ·rw [show M 20 = 4096 by decide] at *; omega
 ·rw [show M 21 = 2048 by decide] at *; omega
 ·rw [show M 22 = 1024 by decide] at *; omega
 ·rw [show M 23 = 512 by decide] at *; omega
 ·rw [show M 24 = 256 by decide] at *; omega
 ·rw [show M 25 = 128 by decide] at *; omega
 ·rw [show M 26 = 64 by decide] at *; omega
 ·rw [show M 27 = 32 by decide] at *; omega
 ·rw [show M 28 = 16 by decide] at *; omega
 ·rw [show M 29 = 8 by decide] at *; omega
 ·rw [show M 30 = 4 by decide] at *; omega
 ·rw [show M 31 = 2 by decide] at *; omega
 ·rw [show M 32 = 1 by decide] at *; omega
theorem wraps_u64 (n : Int) (h0 : 0 ≤ n) (h1 : n < 2 ^ 64) : IntKind.u64.wrap n = n := by rw [wrapu]; omega
theorem Many_eq (B : Int) {p : Int} (h1 : 16 ≤ p) (h2 : p ≤ 32) : block_Many.f B p = some (M p) := by
 have hb := M_bounds h1 h2
 unfold block_Many.f
 rw [w64 (x := 32 - p) (by omega) (by omega), wrapu_small (by omega) (by omega), if_pos (by omega)]
 unfold M at hb
 unfold shl M
 rw [Nat.min_eq_left (by simp [IntKind.bits]; omega), Int.one_mul, IntKind.wrap_i64]
 generalize (2 : Int) ^ (32 - p).toNat = q at *
 congr 1; omega
/-- May such a block be? -/
def bmay (B p : Int) : Bool := decide (16 ≤ p ∧ p ≤ 32 ∧ B % M p = 0)

theorem ref04Many_eq {p : Int} (h1 : 16 ≤ p) (h2 : p ≤ 32) {k : Nat} (hk : 20 ≤ k) : lodgerref04_Many.f k p = some (M p) := by
 rcases p_cases h1 h2 with rfl | rfl | rfl | rfl | rfl | rfl | rfl | rfl | rfl | rfl | rfl | rfl | rfl | rfl | rfl | rfl | rfl <;> exact at_rounds (fun k => lodgerref04_Many.mono _ k) hk (by decide +kernel)
theorem ref04May_eq {B p : Int} (hB0 : 0 ≤ B) (hB1 : B ≤ 4294967295) {k : Nat} (hk : 20 ≤ k) : lodgerref04_May.f k B p = some (bmay B p) := by
 unfold lodgerref04_May.f bmay
 by_cases c1 : p ≥ 16
 ·rw [if_pos c1]
  by_cases c2 : p ≤ 32
  ·have hb := M_bounds (p := p) (by omega) (by omega)
   rw [if_pos c2, ref04Many_eq (by omega) (by omega) hk, Option.bind_some, if_neg (by omega), w64 (by omega) (by omega), tm hB0]
   congr 1
   rw [Bool.eq_iff_iff, beq_iff_eq, decide_eq_true_eq]
   omega
  ·rw [if_neg c2, decide_eq_false (by omega)]
 ·rw [if_neg c1, decide_eq_false (by omega)]

theorem rd_mid (pre xs : List Int) (x : Int) : rd (pre ++ x :: xs) (pre.length : Int) = x := by simp [rd]

/-- Does a list rise, from behind a number on, below a bound? -/
def rises (last m : Int) : List Int → Bool
 | [] => true
 | x :: xs => decide (last < x) && decide (x < m) && rises x m xs
/-- What a configuration's numbers must be. -/
def chead (B p : Int) (l : List Int) (s w q t : Int) : Bool := decide (16 ≤ p ∧ p ≤ 32 ∧ B % M p = 0 ∧ (l.length : Int) ≤ 64 ∧ 1 ≤ s ∧ s ≤ 64 ∧ 1 ≤ w ∧ w ≤ 64 ∧ 1 ≤ q ∧ q ≤ 64 ∧ 1 ≤ t ∧ t ≤ 8)
/-- May such a configuration be? -/
def cmay (B p : Int) (l : List Int) (s w q t : Int) : Bool := chead B p l s w q t && rises (-1) (M p) l
theorem cmay_head {B p : Int} {l : List Int} {s w q t : Int} (h : cmay B p l s w q t = true) : 16 ≤ p ∧ p ≤ 32 ∧ B % M p = 0 ∧ (l.length : Int) ≤ 64 ∧ 1 ≤ s ∧ s ≤ 64 ∧ 1 ≤ w ∧ w ≤ 64 ∧ 1 ≤ q ∧ q ≤ 64 ∧ 1 ≤ t ∧ t ≤ 8 := by
 unfold cmay chead at h
 rw [Bool.and_eq_true, decide_eq_true_eq] at h
 exact h.1
theorem cmay_rises {B p : Int} {l : List Int} {s w q t : Int} (h : cmay B p l s w q t = true) : rises (-1) (M p) l = true := by
 unfold cmay at h
 rw [Bool.and_eq_true] at h
 exact h.2

theorem rises_bounds {last m : Int} {l : List Int} (h : rises last m l = true) : ∀ x ∈ l, last < x ∧ x < m := by
 induction l generalizing last with
 | nil => intro x hx; cases hx
 | cons y ys ih =>
  simp only [rises, Bool.and_eq_true, decide_eq_true_eq] at h
  intro x hx
  rcases List.mem_cons.1 hx with rfl | hx
  ·exact h.1
  ·have := ih h.2 x hx
   omega
theorem rises_drop {last m : Int} {xs ys : List Int} {y : Int} (h : rises last m (xs ++ y :: ys) = true) : rises last m (xs ++ ys) = true := by
 induction xs generalizing last with
 | nil =>
  simp only [List.nil_append, rises, Bool.and_eq_true, decide_eq_true_eq] at h ⊢
  cases ys with
  | nil => rfl
  | cons z zs =>
   simp only [rises, Bool.and_eq_true, decide_eq_true_eq] at h ⊢
   exact ⟨⟨by omega, h.2.1.2⟩, h.2.2⟩
 | cons x xs ih =>
  simp only [List.cons_append, rises, Bool.and_eq_true] at h ⊢
  exact ⟨h.1, ih h.2⟩
theorem rises_notin {last m : Int} {xs ys : List Int} {y : Int} (h : rises last m (xs ++ y :: ys) = true) : y ∉ xs ++ ys := by
 induction xs generalizing last with
 | nil =>
  simp only [List.nil_append, rises, Bool.and_eq_true, decide_eq_true_eq] at h ⊢
  intro hy
  have := rises_bounds h.2 y hy
  omega
 | cons x xs ih =>
  simp only [List.cons_append, rises, Bool.and_eq_true] at h ⊢
  have h1 := rises_bounds h.2 y (by simp)
  intro hy
  rcases List.mem_cons.1 hy with rfl | hy
  ·omega
  ·exact ih h.2 hy
/-- How many of a list lie below a number. -/
def below (l : List Int) (n : Int) : Nat := (l.filter (fun x => decide (x < n))).length
theorem below_le (l : List Int) (n : Int) : below l n ≤ l.length := List.length_filter_le _ _
theorem below_all {l : List Int} {n : Int} (h : ∀ x ∈ l, x < n) : below l n = l.length := by
 unfold below
 rw [List.filter_eq_self.2 (fun x hx => by simpa using h x hx)]
theorem below_none {l : List Int} {n : Int} (h : ∀ x ∈ l, n ≤ x) : below l n = 0 := by
 unfold below
 rw [List.filter_eq_nil_iff.2 (fun x hx => by have := h x hx; simp; omega)]; rfl
theorem below_succ {last m : Int} {l : List Int} (h : rises last m l = true) (n : Int) : below l (n + 1) = below l n + (if n ∈ l then 1 else 0) := by
 induction l generalizing last with
 | nil => simp [below]
 | cons x xs ih =>
  simp only [rises, Bool.and_eq_true, decide_eq_true_eq] at h
  have h2 := ih h.2
  have hb := rises_bounds h.2
  unfold below at h2 ⊢
  simp only [List.filter_cons]
  by_cases c1 : x < n
  ·have : ¬ n = x := by omega
   simp only [show x < n + 1 by omega, c1, decide_true, if_true, List.length_cons, List.mem_cons, this, false_or]
   omega
  ·by_cases c2 : x = n
   ·subst c2
    have hn : x ∉ xs := fun hx => by have := (hb x hx).1; omega
    simp only [show x < x + 1 by omega, show ¬ x < x by omega, decide_true, decide_false, if_true, List.length_cons, List.mem_cons, true_or, if_neg hn] at h2 ⊢
    simp; omega
   ·have : ¬ n = x := fun e => c2 e.symm
    simp only [show ¬ x < n + 1 by omega, c1, decide_false, List.mem_cons, this, false_or]
    simpa using h2

theorem ref05Many_eq (B : Int) {p : Int} (h1 : 16 ≤ p) (h2 : p ≤ 32) {k : Nat} (hk : 20 ≤ k) : lodgerref05_Many.f k B p = some (M p) := by
 unfold lodgerref05_Many.f; rw [ref04Many_eq h1 h2 hk]; rfl

theorem refMay_l0 (B p : Int) (l : List Int) (s w q t : Int) (hl : l.length ≤ maxLen) (h1 : 16 ≤ p) (h2 : p ≤ 32) : ∀ (xs pre : List Int) (last : Int) (k : Nat), l = pre ++ xs → (pre = [] ∧ last = -1 ∨ (∃ pr, pre = pr ++ [last]) ∧ 0 ≤ last) → xs.length + 30 < k →
  lodgerref05_May.l0 k (pre.length : Int) B p l s w q t = some (rises last (M p) xs) := by
 unfold maxLen at hl
 intro xs
 induction xs with
 | nil =>
  intro pre last k hp hpre hk
  obtain ⟨k, rfl⟩ : ∃ m, k = m + 1 := ⟨k - 1, by omega⟩
  simp only [lodgerref05_May.l0]; rw [if_neg (by rw [hp]; simp)]; rfl
 | cons x xs ih =>
  intro pre last k hp hpre hk
  simp only [List.length_cons] at hk
  obtain ⟨k, rfl⟩ : ∃ m, k = m + 1 := ⟨k - 1, by omega⟩
  have hlt : pre.length < l.length := by rw [hp]; simp
  simp only [lodgerref05_May.l0, rises]
  have hx : rd l (pre.length : Int) = x := by rw [hp]; exact rd_mid ..
  rw [if_pos (by omega), if_pos (by omega), hx]
  by_cases c1 : x < 0
  ·rw [if_pos c1, decide_eq_false (p := last < x) (by rcases hpre with ⟨_, h⟩ | ⟨_, h⟩ <;> omega)]; rfl
  rw [if_neg c1, ref05Many_eq B h1 h2 (by omega), Option.bind_some]
  by_cases c2 : x ≥ M p
  ·rw [if_pos c2, decide_eq_false (p := x < M p) (by omega)]; simp
  have h := ih (pre ++ [x]) x k (by rw [hp]; simp) (.inr ⟨⟨pre, rfl⟩, by omega⟩) (by omega)
  simp only [List.length_append, List.length_cons, List.length_nil, Nat.zero_add, Int.natCast_add, Int.natCast_one] at h
  rw [if_neg c2, decide_eq_true (p := x < M p) (by omega), w64 (x := (pre.length : Int) + 1) (by omega) (by omega), h]
  rcases hpre with ⟨rfl, rfl⟩ | ⟨⟨pr, rfl⟩, h0⟩
  ·rw [if_neg (by simp), decide_eq_true (p := -1 < x) (by omega)]; rfl
  ·have hy : rd l (((pr ++ [last]).length : Int) - 1) = last := by
    rw [hp]; simp [rd]
   have hl1 : (pr ++ [last]).length = pr.length + 1 := by simp
   rw [if_pos (by omega), w64 (by omega) (by omega), if_pos (by omega), if_pos (by omega), hy]
   by_cases c3 : x ≤ last
   ·rw [if_pos c3, decide_eq_false (p := last < x) (by omega)]; rfl
   ·rw [if_neg c3, decide_eq_true (p := last < x) (by omega)]; rfl
theorem ref05May_eq {B p : Int} (l : List Int) (s w q t : Int) (hl : l.length ≤ maxLen) (hB0 : 0 ≤ B) (hB1 : B ≤ 4294967295) {k : Nat} (hk : l.length + 40 < k) : lodgerref05_May.f k B p l s w q t = some (cmay B p l s w q t) := by
 obtain ⟨k, rfl⟩ : ∃ m, k = m + 1 := ⟨k - 1, by omega⟩
 have hj : lodgerref05_May.j0 (k + 1) true B p l s w q t = some false := by simp only [lodgerref05_May.j0, ↓reduceIte]
 unfold lodgerref05_May.f cmay
 rw [ref04May_eq hB0 hB1 (by omega), Option.bind_some]
 by_cases h : chead B p l s w q t = true
 ·have h' := h
  unfold chead at h'
  rw [decide_eq_true_eq] at h'
  have hb : bmay B p = true := by unfold bmay; rw [decide_eq_true_eq]; omega
  rw [h, hb, if_pos rfl, if_neg (by omega), if_neg (by omega), if_neg (by omega), if_neg (by omega), if_neg (by omega), if_neg (by omega), if_neg (by omega), if_neg (by omega), decide_eq_false (p := t > 8) (by omega)]
  simp only [lodgerref05_May.j0]
  rw [if_neg (by simp)]
  have := refMay_l0 B p l s w q t hl (by omega) (by omega) l [] (-1) k rfl (.inl ⟨rfl, rfl⟩) (by omega)
  rw [show (([] : List Int).length : Int) = 0 from rfl] at this
  rw [this]; rfl
 ·rw [Bool.not_eq_true] at h
  rw [h, hj]
  by_cases hb : bmay B p = true
  ·rw [hb, if_pos rfl]
   have hb' := hb
   unfold bmay at hb'
   rw [decide_eq_true_eq] at hb'
   unfold chead at h
   rw [decide_eq_false_iff_not] at h
   by_cases c1 : (l.length : Int) > 64
   ·rw [if_pos c1]; rfl
   rw [if_neg c1]
   by_cases c2 : s < 1
   ·rw [if_pos c2]; rfl
   rw [if_neg c2]
   by_cases c3 : s > 64
   ·rw [if_pos c3]; rfl
   rw [if_neg c3]
   by_cases c4 : w < 1
   ·rw [if_pos c4]; rfl
   rw [if_neg c4]
   by_cases c5 : w > 64
   ·rw [if_pos c5]; rfl
   rw [if_neg c5]
   by_cases c6 : q < 1
   ·rw [if_pos c6]; rfl
   rw [if_neg c6]
   by_cases c7 : q > 64
   ·rw [if_pos c7]; rfl
   rw [if_neg c7]
   by_cases c8 : t < 1
   ·rw [if_pos c8]; rfl
   rw [if_neg c8, decide_eq_true (p := t > 8) (by omega), hj]; rfl
  ·rw [if_neg hb]; rfl

theorem refLeaves_l0 {n : Int} (h0 : 0 ≤ n) (h1 : n ≤ 100000) (d : Nat) : ∀ (k : Nat) (i : Int), 0 ≤ i → i ≤ (n + 31) / 32 → (n + 31) / 32 - i = d → d < k → lodgerref06_Leaves.l0 k n i = some ((n + 31) / 32) := by
 induction d with
 | zero =>
  intro k i hi0 hi1 hd hk
  obtain ⟨k, rfl⟩ : ∃ m, k = m + 1 := ⟨k - 1, by omega⟩
  simp only [lodgerref06_Leaves.l0]; rw [w64 (x := 32 * i) (by omega) (by omega), if_neg (by omega)]; congr 1; omega
 | succ d ih =>
  intro k i hi0 hi1 hd hk
  obtain ⟨k, rfl⟩ : ∃ m, k = m + 1 := ⟨k - 1, by omega⟩
  simp only [lodgerref06_Leaves.l0]; rw [w64 (x := 32 * i) (by omega) (by omega), if_pos (by omega), w64 (by omega) (by omega)]
  exact ih k (i + 1) (by omega) (by omega) (by omega) (by omega)
theorem refLeaves {n : Int} (h0 : 0 ≤ n) (h1 : n ≤ 100000) {k : Nat} (hk : 4000 ≤ k) : lodgerref06_Leaves.f k n = some ((n + 31) / 32) := by
 unfold lodgerref06_Leaves.f
 exact refLeaves_l0 h0 h1 ((n + 31) / 32).toNat k 0 (by omega) (by omega) (by omega) (by omega)

theorem refTops_l0 {n : Int} (h0 : 0 ≤ n) (h1 : n ≤ 100000) (d : Nat) : ∀ (k : Nat) (i : Int), 0 ≤ i → i ≤ ((n + 31) / 32 + 63) / 64 → ((n + 31) / 32 + 63) / 64 - i = d → d + 4000 < k → lodgerref06_Tops.l0 k n i = some (((n + 31) / 32 + 63) / 64) := by
 induction d with
 | zero =>
  intro k i hi0 hi1 hd hk
  obtain ⟨k, rfl⟩ : ∃ m, k = m + 1 := ⟨k - 1, by omega⟩
  simp only [lodgerref06_Tops.l0]; rw [refLeaves h0 h1 (by omega), Option.bind_some, w64 (x := 64 * i) (by omega) (by omega), if_neg (by omega)]; congr 1; omega
 | succ d ih =>
  intro k i hi0 hi1 hd hk
  obtain ⟨k, rfl⟩ : ∃ m, k = m + 1 := ⟨k - 1, by omega⟩
  simp only [lodgerref06_Tops.l0]; rw [refLeaves h0 h1 (by omega), Option.bind_some, w64 (x := 64 * i) (by omega) (by omega), if_pos (by omega), w64 (by omega) (by omega)]
  exact ih k (i + 1) (by omega) (by omega) (by omega) (by omega)
theorem refTops {n : Int} (h0 : 0 ≤ n) (h1 : n ≤ 100000) {k : Nat} (hk : 5000 ≤ k) : lodgerref06_Tops.f k n = some (((n + 31) / 32 + 63) / 64) := by
 unfold lodgerref06_Tops.f
 exact refTops_l0 h0 h1 (((n + 31) / 32 + 63) / 64).toNat k 0 (by omega) (by omega) (by omega) (by omega)

theorem refTop {n l : Int} (h0 : 0 ≤ n) (h1 : n ≤ 100000) (h2 : 0 ≤ l) (h3 : l ≤ 100000) {k : Nat} (hk : 5000 ≤ k) : lodgerref06_Top.f k n l = some ((n + 31) / 32 + l / 64, l % 64) := by
 unfold lodgerref06_Top.f; rw [refLeaves h0 h1 (by omega), Option.bind_some, td h2, w64 (x := l / 64) (by omega) (by omega), w64 (x := 64 * (l / 64)) (by omega) (by omega), w64 (x := l - 64 * (l / 64)) (by omega) (by omega), w64 (by omega) (by omega)]
 congr 2; omega
theorem refRoot {n l : Int} (h0 : 0 ≤ n) (h1 : n ≤ 100000) (h2 : 0 ≤ l) (h3 : l ≤ 100000) {k : Nat} (hk : 5000 ≤ k) : lodgerref06_Root.f k n l = some ((n + 31) / 32 + ((n + 31) / 32 + 63) / 64, l / 64) := by
 unfold lodgerref06_Root.f; rw [refLeaves h0 h1 (by omega), Option.bind_some, refTops h0 h1 hk, Option.bind_some, td h2, w64 (x := l / 64) (by omega) (by omega), w64 (by omega) (by omega)]

theorem Pow_l0 {n : Int} (h1 : n < 64) (d : Nat) : ∀ (k : Nat) (i : Nat), (i : Int) ≤ n → n - i = d → d < k → lodgerref01_Pow.l0 k n ((2 ^ i : Nat) : Int) i = some ((2 ^ n.toNat : Nat) : Int) := by
 induction d with
 | zero =>
  intro k i hi hd hk
  obtain ⟨k, rfl⟩ : ∃ m, k = m + 1 := ⟨k - 1, by omega⟩
  have : i = n.toNat := by omega
  subst this
  simp only [lodgerref01_Pow.l0]; rw [if_neg (by omega)]
 | succ d ih =>
  intro k i hi hd hk
  obtain ⟨k, rfl⟩ : ∃ m, k = m + 1 := ⟨k - 1, by omega⟩
  have hp : 2 ^ (i + 1) ≤ 9223372036854775808 := Nat.pow_le_pow_right (n := 2) (j := 63) (by decide) (by omega)
  have := ih k (i + 1) (by omega) (by omega) (by omega)
  have e : 2 ^ (i + 1) = 2 ^ i * 2 := Nat.pow_succ ..
  rw [e] at this hp
  simp only [lodgerref01_Pow.l0]
  generalize 2 ^ i = P at this hp ⊢
  rw [if_pos (by omega), wrapu_small (by omega) (by omega), w64 (by omega) (by omega)]
  rw [Int.natCast_mul, Int.natCast_add] at this
  exact this
theorem Pow_eq {n : Int} (h0 : 0 ≤ n) (h1 : n < 64) {k : Nat} (hk : 70 ≤ k) : lodgerref01_Pow.f k n = some ((2 ^ n.toNat : Nat) : Int) := by
 unfold lodgerref01_Pow.f
 exact Pow_l0 h1 n.toNat k 0 (by omega) (by omega) (by omega)
theorem refHas_eq (x : BitVec 64) {i : Int} (h0 : 0 ≤ i) (h1 : i < 64) {k : Nat} (hk : 70 ≤ k) : lodgerref01_Has.f k (U x) i = some (x.getLsbD i.toNat) := by
 unfold lodgerref01_Has.f
 have hp : 0 < 2 ^ i.toNat := Nat.two_pow_pos _
 have hx := x.isLt
 rw [Pow_eq h0 h1 hk, Option.bind_some, if_neg (by omega), td (U_lt x).1]
 congr 1
 unfold U
 rw [← Int.natCast_ediv]
 have hle : x.toNat / 2 ^ i.toNat ≤ x.toNat := Nat.div_le_self _ _
 unfold BitVec.getLsbD
 rw [Nat.testBit_eq_decide_div_mod_eq]
 generalize x.toNat / 2 ^ i.toNat = q at hle ⊢
 rw [wrapu_small (by omega) (by omega), tm (by omega), Bool.eq_iff_iff, beq_iff_eq, decide_eq_true_eq]
 omega

theorem refCells {n : Int} (h0 : 0 ≤ n) (h1 : n ≤ 100000) {k : Nat} (hk : 5000 ≤ k) : lodgerref06_Cells.f k n = some ((n + 31) / 32 + ((n + 31) / 32 + 63) / 64 + 1) := by
 unfold lodgerref06_Cells.f; rw [refLeaves h0 h1 (by omega), Option.bind_some, refTops h0 h1 hk, Option.bind_some, w64 (x := (n + 31) / 32 + ((n + 31) / 32 + 63) / 64) (by omega) (by omega), w64 (by omega) (by omega)]

theorem refFits_eq {B p : Int} (H : List Int) (s w q t : Int) (hH : H.length ≤ maxLen) (hB0 : 0 ≤ B) (hB1 : B ≤ 4294967295) (l : List Int) {k : Nat} (hk : H.length + 5000 < k) :
  lodgerref08_Fits.f k B p H s w q t l = some (cmay B p H s w q t && (decide (M p ≤ 4096) && decide ((l.length : Int) = (M p + 31) / 32 + ((M p + 31) / 32 + 63) / 64 + 1))) := by
 unfold lodgerref08_Fits.f
 rw [ref05May_eq H s w q t hH hB0 hB1 (by omega), Option.bind_some]
 cases hc : cmay B p H s w q t with
 | false => rw [if_neg (by simp), Bool.false_and]
 | true =>
  obtain ⟨h1, h2, h3, h4, h5⟩ := cmay_head hc
  have hb := M_bounds h1 h2
  rw [if_pos rfl, ref05Many_eq B h1 h2 (by omega), Option.bind_some, Bool.true_and]
  by_cases c : M p ≤ 4096
  ·rw [if_pos c, Option.bind_some, refCells (by omega) (by omega) (by omega), Option.bind_some, decide_eq_true c, Bool.true_and]; rfl
  ·rw [if_neg c, decide_eq_false c, Bool.false_and]

/-- Cells of which one is another one, if it is there. -/
def st (l : List Int) (i v : Int) : List Int := if 0 ≤ i ∧ i < (l.length : Int) then l.set i.toNat v else l
/-- What a cell holds. -/
def ld (l : List Int) (i : Int) : Int := if 0 ≤ i ∧ i < (l.length : Int) then rd l i else 0
theorem st_len (l : List Int) (i v : Int) : (st l i v).length = l.length := by unfold st; split <;> simp
theorem st_in {l : List Int} {i : Int} (h0 : 0 ≤ i) (h1 : i < (l.length : Int)) (v : Int) : st l i v = l.set i.toNat v := by unfold st; rw [if_pos ⟨h0, h1⟩]
theorem st_out {l : List Int} {i : Int} (h : i < 0 ∨ (l.length : Int) ≤ i) (v : Int) : st l i v = l := by unfold st; rw [if_neg (by omega)]
theorem ld_in {l : List Int} {i : Int} (h0 : 0 ≤ i) (h1 : i < (l.length : Int)) : ld l i = rd l i := by unfold ld; rw [if_pos ⟨h0, h1⟩]
theorem ld_out {l : List Int} {i : Int} (h : i < 0 ∨ (l.length : Int) ≤ i) : ld l i = 0 := by unfold ld; rw [if_neg (by omega)]
theorem rd_get {l : List Int} {i : Int} (h0 : 0 ≤ i) (h1 : i < (l.length : Int)) : rd l i = l[i.toNat]'(by omega) := by
 have : i.toNat < l.length := by omega
 simp [rd, List.getD_eq_getElem?_getD, this]
theorem rd_set_same {l : List Int} {i : Int} (h0 : 0 ≤ i) (h1 : i < (l.length : Int)) (v : Int) : rd (l.set i.toNat v) i = v := by
 have : i.toNat < l.length := by omega
 simp [rd, List.getD_eq_getElem?_getD, this]
theorem rd_set_ne {l : List Int} {i j : Int} (h0 : 0 ≤ i) (h1 : 0 ≤ j) (h : i ≠ j) (v : Int) : rd (l.set i.toNat v) j = rd l j := by
 have : i.toNat ≠ j.toNat := by omega
 simp [rd, List.getD_eq_getElem?_getD, List.getElem?_set, this]
theorem set_back {l : List Int} {i : Int} (h0 : 0 ≤ i) (h1 : i < (l.length : Int)) (v : Int) : (l.set i.toNat v).set i.toNat (rd l i) = l := by
 rw [List.set_set, rd_get h0 h1]; simp

theorem Is_eq (l : List Int) (i : Int) : cells_is.f l i = some (decide (0 ≤ i ∧ i < (l.length : Int))) := by
 unfold cells_is.f
 by_cases h : i ≥ 0
 ·rw [if_pos h]; congr 1; rw [Bool.eq_iff_iff, decide_eq_true_eq, decide_eq_true_eq]; omega
 ·rw [if_neg h, decide_eq_false (by omega)]
theorem Load_eq (l : List Int) (i : Int) : cells_Load.f l i = some (ld l i) := by
 unfold cells_Load.f ld
 rw [Is_eq, Option.bind_some]
 by_cases h : 0 ≤ i ∧ i < (l.length : Int)
 ·rw [decide_eq_true h, if_pos rfl, if_pos h.1, if_pos h.2, if_pos h]
 ·rw [decide_eq_false h, if_neg (by simp), if_neg h]

theorem From_eq {p a b : Int} (h : 1 ≤ p) (h0 : 0 ≤ a) (h1 : 0 ≤ b) (h2 : a ≤ 1000000000000) (h3 : b ≤ 1000000000000) : shard_From.f p a b = some ((a + b) % p) := by
 unfold shard_From.f; rw [if_neg (by omega), w64 (by omega) (by omega), tm (by omega)]
theorem divb {x p : Int} (h0 : 0 ≤ x) (h1 : 1 ≤ p) : 0 ≤ x / p ∧ x / p ≤ x := ⟨Int.ediv_nonneg h0 (by omega), Int.ediv_le_self _ h0⟩
theorem up32 {n : Int} (h0 : 0 ≤ n) (h1 : n ≤ 1000000000000) : place_up_int.f n 32 = some ((n + 31) / 32) := by
 unfold place_up_int.f
 rw [if_neg (by omega), w64 (x := n + 32) (by omega) (by omega), w64 (x := n + 32 - 1) (by omega) (by omega), td (by omega), w64 (by omega) (by omega)]
 congr 1; omega
theorem Leaves_eq {n : Int} (h0 : 0 ≤ n) (h1 : n ≤ 1000000000000) : place_Leaves.f n = some ((n + 31) / 32) := by
 unfold place_Leaves.f; rw [up32 h0 h1]; rfl
theorem Range_eq {n p s : Int} (h0 : 0 ≤ n) (h1 : n ≤ 65536) (h2 : 1 ≤ p) (h3 : 0 ≤ s) (h4 : s ≤ 1000000) : shard_Range.f n p s = some (s * ((n + 31) / 32) / p, (s + 1) * ((n + 31) / 32) / p) := by
 unfold shard_Range.f
 rw [Leaves_eq h0 (by omega), Option.bind_some, if_neg (by omega)]
 have l0 : 0 ≤ (n + 31) / 32 := by omega
 have l1 : (n + 31) / 32 ≤ 10000 := by omega
 generalize (n + 31) / 32 = L at *
 have a0 : 0 ≤ s * L := Int.mul_nonneg h3 l0
 have a1 : s * L ≤ 1000000 * 10000 := Int.mul_le_mul h4 l1 l0 (by omega)
 have b0 : 0 ≤ (s + 1) * L := Int.mul_nonneg (by omega) l0
 have b1 : (s + 1) * L ≤ 1000001 * 10000 := Int.mul_le_mul (by omega) l1 l0 (by omega)
 have c := divb a0 h2
 have d := divb b0 h2
 rw [w64 (x := s * L) (by omega) (by omega), w64 (x := s + 1) (by omega) (by omega), w64 (x := (s + 1) * L) (by omega) (by omega), td a0, td b0, w64 (by omega) (by omega), w64 (by omega) (by omega)]

theorem up64 {n : Int} (h0 : 0 ≤ n) (h1 : n ≤ 1000000000000) : place_up_int.f n 64 = some ((n + 63) / 64) := by
 unfold place_up_int.f
 rw [if_neg (by omega), w64 (x := n + 64) (by omega) (by omega), w64 (x := n + 64 - 1) (by omega) (by omega), td (by omega), w64 (by omega) (by omega)]
 congr 1; omega
theorem Tops_eq {n : Int} (h0 : 0 ≤ n) (h1 : n ≤ 1000000000000) : place_Tops.f n = some (((n + 31) / 32 + 63) / 64) := by
 unfold place_Tops.f; rw [Leaves_eq h0 h1, Option.bind_some, up64 (by omega) (by omega)]; rfl
theorem Cells_eq {n : Int} (h0 : 0 ≤ n) (h1 : n ≤ 1000000000000) : place_Cells.f n = some ((n + 31) / 32 + ((n + 31) / 32 + 63) / 64 + 1) := by
 unfold place_Cells.f; rw [Leaves_eq h0 h1, Option.bind_some, Tops_eq h0 h1, Option.bind_some, w64 (x := (n + 31) / 32 + _) (by omega) (by omega), w64 (by omega) (by omega)]

/-- Is a bit set? (the word's) -/
theorem Has_b (w i : Int) : bits_Has.f w i = some (hasb_ w i) := by
 unfold bits_Has.f hasb_; rw [if_pos (by rw [wrapu]; omega)]
/-- A top that is worth a look: -/
def gt_ (wd lo hi t : Int) : Bool := decide (t * 64 < hi) && (decide (lo < hi) && !hasb_ wd t)
/-- the next one; 2: none. -/
def nt (wd lo hi t : Int) : Int := if t ≤ 0 ∧ gt_ wd lo hi 0 = true then 0 else if t ≤ 1 ∧ gt_ wd lo hi 1 = true then 1 else 2
theorem nt_step {wd lo hi t : Int} (h0 : 0 ≤ t) (h1 : t ≤ 1) : nt wd lo hi t = if gt_ wd lo hi t = true then t else nt wd lo hi (t + 1) := by
 unfold nt
 obtain rfl | rfl : t = 0 ∨ t = 1 := by omega
 ·by_cases c : gt_ wd lo hi 0 = true
  ·rw [if_pos ⟨by omega, c⟩, if_pos c]
  ·rw [if_neg (by simp [c]), if_neg c, if_neg (by omega : ¬ ((0 : Int) + 1 ≤ 0 ∧ _))]; simp
 ·by_cases c : gt_ wd lo hi 1 = true
  ·rw [if_neg (by omega), if_pos ⟨by omega, c⟩, if_pos c]
  ·rw [if_neg (by omega), if_neg (by simp [c]), if_neg c, if_neg (by omega), if_neg (by omega)]
theorem nt_stop {wd lo hi t : Int} (h0 : 0 ≤ t) (h2 : ¬ (t * 64 < hi ∧ lo < hi)) : nt wd lo hi t = 2 := by
 unfold nt gt_
 rw [if_neg (by simp only [Bool.and_eq_true, decide_eq_true_eq]; omega), if_neg (by simp only [Bool.and_eq_true, decide_eq_true_eq]; omega)]
def fin_ {α : Type} (a b c : α) (wd lo hi t s so : Int) : α := if nt wd lo hi t < 2 then a else if so + 1 ≥ s then b else c
theorem further_l0 {B p : Int} {H : List Int} {s w q tr : Int} (x0 : Int) (x1 : Int) (x2 : Int) (x3 : Int) (x4 : Int) (x5 : Bool) (x6 : Int) (x7 : Int) (x8 : Int) (x9 : Int) (x10 : Int) (x11 : Int) (x12 : Int) (x13 : Int) (x14 : Bool) (x15 : Int) (x16 : Int) (x17 : Int) (x18 : Int) (x19 : Int) (hs : s ≤ 64) (h10 : 0 ≤ x10) (h10' : x10 ≤ 1000) {lo hi : Int} (hhi : hi ≤ 128) : ∀ (d : Nat) (t : Int) (k : Nat), 0 ≤ t → 2 - t = d → 2 * d + 2 ≤ k → seek_further.l0 k t lo hi B p H s w q tr x0 x1 x2 x3 x4 x5 x6 x7 x8 x9 x10 x11 x12 x13 x14 x15 x16 x17 x18 x19 =
  some (fin_ (x0, x1, x2, x3, x4, x5, x6, x7, x8, x9, x10, x11, x12, x13, x14, x15, nt x13 lo hi t + 1, x17, x18, x19) (x0, x1, x2, x3, x4, x5, x6, x7, 6, x9, x10 + 1, x11, x12, 0, x14, 0, 0, x17, x18, x19) (x0, x1, x2, x3, x4, x5, x6, x7, x8, x9, x10 + 1, x11, x12, 0, x14, x15, 0, x17, x18, x19) x13 lo hi t s x10) := by
 intro d
 induction d with
 | zero =>
  intro t k h0 hd hk
  obtain ⟨k, rfl⟩ : ∃ m, k = m + 2 := ⟨k - 2, by omega⟩
  have hstop : nt x13 lo hi t = 2 := nt_stop h0 (by omega)
  simp only [seek_further.l0, seek_further.j1]
  rw [w64 (x := t * 64) (by omega) (by omega), if_neg (by omega), if_neg (by simp), w64 (x := x10 + 1) (by omega) (by omega)]
  unfold fin_; rw [hstop, if_neg (by omega : ¬ (2 : Int) < 2)]; split <;> rfl
 | succ d ih =>
  intro t k h0 hd hk
  obtain ⟨k, rfl⟩ : ∃ m, k = m + 2 := ⟨k - 2, by omega⟩
  simp only [seek_further.l0, seek_further.j1]
  rw [w64 (x := t * 64) (by omega) (by omega), w64 (x := t + 1) (by omega) (by omega), w64 (x := x10 + 1) (by omega) (by omega)]
  by_cases c : t * 64 < hi ∧ lo < hi
  ·rw [if_pos c.1, if_pos (decide_eq_true c.2), Has_b, Option.bind_some]
   have hn := nt_step (wd := x13) (lo := lo) (hi := hi) h0 (by omega)
   by_cases cb : hasb_ x13 t = true
   ·rw [if_pos cb, ih (t + 1) k (by omega) (by omega) (by omega)]
    unfold fin_; rw [hn, if_neg (by simp [gt_, cb] : ¬ gt_ x13 lo hi t = true)]
   ·rw [if_neg cb]; unfold fin_
    rw [if_pos (show gt_ x13 lo hi t = true by simp [gt_, cb, c.1, c.2])] at hn
    rw [hn, if_pos (by omega : t < 2)]
  ·have hstop : nt x13 lo hi t = 2 := nt_stop h0 c
   have e : seek_further.j1 (k + 1) t lo hi (decide (lo < hi)) B p H s w q tr x0 x1 x2 x3 x4 x5 x6 x7 x8 x9 x10 x11 x12 x13 x14 x15 x16 x17 x18 x19 = seek_further.j1 (k + 1) t lo hi (decide (lo < hi)) B p H s w q tr x0 x1 x2 x3 x4 x5 x6 x7 x8 x9 x10 x11 x12 x13 x14 x15 x16 x17 x18 x19 := rfl
   unfold fin_; rw [hstop, if_neg (by omega : ¬ (2 : Int) < 2)]
   by_cases c1 : t * 64 < hi
   ·rw [if_pos c1, if_neg (by simp; omega)]; split <;> rfl
   ·rw [if_neg c1, if_neg (by simp)]; split <;> rfl

theorem mul_b {i L s : Int} (h0 : 0 ≤ i) (h1 : i ≤ s) (hs : s ≤ 64) (l0 : 0 ≤ L) (l1 : L ≤ 128) : 0 ≤ i * L ∧ i * L ≤ s * L ∧ i * L ≤ 8192 := by
 have a := Int.mul_nonneg h0 l0
 have b : i * L ≤ s * L := Int.mul_le_mul_of_nonneg_right h1 l0
 have c : i * L ≤ 64 * 128 := Int.mul_le_mul (by omega) l1 l0 (by omega)
 exact ⟨a, b, by omega⟩
/-- a shard's first leaf -/
def lo_ (L s j : Int) : Int := j * L / s
theorem lo_b {L s j : Int} (h0 : 0 ≤ j) (h1 : j ≤ s) (s1 : 1 ≤ s) (s2 : s ≤ 64) (l0 : 0 ≤ L) (l1 : L ≤ 128) : 0 ≤ lo_ L s j ∧ lo_ L s j ≤ L := by
 have m := mul_b h0 h1 s2 l0 l1
 refine ⟨Int.ediv_nonneg m.1 (by omega), ?_⟩
 unfold lo_
 have : j * L / s ≤ s * L / s := Int.ediv_le_ediv (by omega) m.2.1
 rwa [Int.mul_ediv_cancel_left _ (by omega)] at this
theorem leaves_eq {B p : Int} {H : List Int} {s w q tr : Int} (x0 : Int) (x1 : Int) (x2 : Int) (x3 : Int) (x4 : Int) (x5 : Bool) (x6 : Int) (x7 : Int) (x8 : Int) (x9 : Int) (x10 : Int) (x11 : Int) (x12 : Int) (x13 : Int) (x14 : Bool) (x15 : Int) (x16 : Int) (x17 : Int) (x18 : Int) (x19 : Int) (p1 : 16 ≤ p) (p2 : p ≤ 32) (s1 : 1 ≤ s) (s2 : s ≤ 64) (a0 : 0 ≤ x9) (a1 : x9 ≤ 1000) (b0 : 0 ≤ x10) (b1 : x10 ≤ 1000) : seek_leaves.f B p H s w q tr x0 x1 x2 x3 x4 x5 x6 x7 x8 x9 x10 x11 x12 x13 x14 x15 x16 x17 x18 x19 =
  some (lo_ ((M p + 31) / 32) s ((x9 + x10) % s), lo_ ((M p + 31) / 32) s ((x9 + x10) % s + 1)) := by
 have hm := M_bounds p1 p2
 have hj := Int.emod_lt_of_pos (x9 + x10) (show 0 < s by omega)
 have hj0 := Int.emod_nonneg (x9 + x10) (show s ≠ 0 by omega)
 unfold seek_leaves.f
 rw [Many_eq B p1 p2, Option.bind_some, From_eq s1 a0 b0 (by omega) (by omega), Option.bind_some, Range_eq (by omega) hm.2 s1 hj0 (by omega), Option.bind_some]
 rfl
theorem Find_l0 (wd up : Int) (ht : up ≤ 100) : ∀ (d : Nat) (b : Int) (k : Nat), 0 ≤ b → up - b ≤ d → d < k → ∃ r ok, hint_Find.l0 k wd up b = some (r, ok) ∧
  (ok = true ∧ b ≤ r ∧ r < up ∧ hasb_ wd r = false ∧ (∀ c, b ≤ c → c < r → hasb_ wd c = true) ∨ ok = false ∧ ∀ c, b ≤ c → c < up → hasb_ wd c = true) := by
 intro d
 induction d with
 | zero =>
  intro b k h0 hd hk
  obtain ⟨k, rfl⟩ : ∃ m, k = m + 1 := ⟨k - 1, by omega⟩
  refine ⟨0, false, ?_, Or.inr ⟨rfl, fun c _ _ => by omega⟩⟩
  simp only [hint_Find.l0]; rw [if_neg (by omega)]
 | succ d ih =>
  intro b k h0 hd hk
  obtain ⟨k, rfl⟩ : ∃ m, k = m + 1 := ⟨k - 1, by omega⟩
  simp only [hint_Find.l0]
  by_cases c : b < up
  ·rw [if_pos c, Has_b, Option.bind_some]
   by_cases cb : hasb_ wd b = true
   ·rw [if_pos cb, w64 (by omega) (by omega)]
    obtain ⟨r, ok, h1, h2⟩ := ih (b + 1) k (by omega) (by omega) (by omega)
    refine ⟨r, ok, h1, ?_⟩
    rcases h2 with ⟨e, h3, h4, h5, h6⟩ | ⟨e, h3⟩
    ·refine Or.inl ⟨e, by omega, h4, h5, fun c hc1 hc2 => ?_⟩
     by_cases e : c = b
     ·rw [e]; exact cb
     ·exact h6 c (by omega) hc2
    ·refine Or.inr ⟨e, fun c hc1 hc2 => ?_⟩
     by_cases e : c = b
     ·rw [e]; exact cb
     ·exact h3 c (by omega) hc2
   ·rw [if_neg cb]
    exact ⟨b, true, rfl, Or.inl ⟨rfl, by omega, c, by simpa using cb, fun c _ _ => by omega⟩⟩
  ·rw [if_neg c]
   exact ⟨0, false, rfl, Or.inr ⟨rfl, fun c _ _ => by omega⟩⟩
theorem further_eq {B p : Int} {H : List Int} {s w q tr : Int} (x0 : Int) (x1 : Int) (x2 : Int) (x3 : Int) (x4 : Int) (x5 : Bool) (x6 : Int) (x7 : Int) (x8 : Int) (x9 : Int) (x10 : Int) (x11 : Int) (x12 : Int) (x13 : Int) (x14 : Bool) (x15 : Int) (x16 : Int) (x17 : Int) (x18 : Int) (x19 : Int) (p1 : 16 ≤ p) (p2 : p ≤ 32) (hM : M p ≤ 4096) (s1 : 1 ≤ s) (s2 : s ≤ 64) (a0 : 0 ≤ x9) (a1 : x9 ≤ 1000) (b0 : 0 ≤ x10) (b1 : x10 ≤ 1000) {t lo hi : Int} (t0 : 0 ≤ t) (t1 : t ≤ 2) (hlo : lo_ ((M p + 31) / 32) s ((x9 + x10) % s) = lo)
  (hhi : lo_ ((M p + 31) / 32) s ((x9 + x10) % s + 1) = hi) {k : Nat} (hk : 10 ≤ k) : seek_further.f k B p H s w q tr x0 x1 x2 x3 x4 x5 x6 x7 x8 x9 x10 x11 x12 x13 x14 x15 x16 x17 x18 x19 t = some (fin_ (x0, x1, x2, x3, x4, x5, x6, x7, x8, x9, x10, x11, x12, x13, x14, x15, nt x13 lo hi (mx t (lo / 64)) + 1, x17, x18, x19) (x0, x1, x2, x3, x4, x5, x6, x7, 6, x9, x10 + 1, x11, x12, 0, x14, 0, 0, x17, x18, x19) (x0, x1, x2, x3, x4, x5, x6, x7, x8, x9, x10 + 1, x11, x12, 0, x14, x15, 0, x17, x18, x19) x13 lo hi (mx t (lo / 64)) s x10) := by
 have hm := M_bounds p1 p2
 have hj := Int.emod_lt_of_pos (x9 + x10) (show 0 < s by omega)
 have hj0 := Int.emod_nonneg (x9 + x10) (show s ≠ 0 by omega)
 have c1 := lo_b (L := (M p + 31) / 32) hj0 (Int.le_of_lt hj) s1 s2 (by omega) (by omega)
 have c2 := lo_b (L := (M p + 31) / 32) (j := (x9 + x10) % s + 1) (by omega) (by omega) s1 s2 (by omega) (by omega)
 unfold seek_further.f
 rw [leaves_eq x0 x1 x2 x3 x4 x5 x6 x7 x8 x9 x10 x11 x12 x13 x14 x15 x16 x17 x18 x19 p1 p2 s1 s2 a0 a1 b0 b1, Option.bind_some]
 simp only [hlo, hhi] at *
 rw [if_pos (by omega), td (by omega), w64 (x := lo / 64) (by omega) (by omega)]
 have h1 : 0 ≤ mx t (lo / 64) ∧ mx t (lo / 64) ≤ 2 := by unfold mx; split <;> omega
 generalize mx t (lo / 64) = u at *
 exact further_l0 x0 x1 x2 x3 x4 x5 x6 x7 x8 x9 x10 x11 x12 x13 x14 x15 x16 x17 x18 x19 s2 b0 b1 (by omega) (2 - u).toNat u k h1.1 (by omega) (by omega)
theorem Step_0 {B p : Int} {H : List Int} {s w q tr : Int} (x0 : Int) (x1 : Int) (x2 : Int) (x3 : Int) (x4 : Int) (x5 : Bool) (x6 : Int) (x7 : Int) (x8 : Int) (x9 : Int) (x10 : Int) (x11 : Int) (x12 : Int) (x13 : Int) (x14 : Bool) (x15 : Int) (x16 : Int) (x17 : Int) (x18 : Int) (x19 : Int) (l : List Int) (p1 : 16 ≤ p) (p2 : p ≤ 32) (hM : M p ≤ 4096) (s1 : 1 ≤ s) (s2 : s ≤ 64) (a0 : 0 ≤ x9) (a1 : x9 ≤ 1000) (b0 : 0 ≤ x10) (b1 : x10 ≤ 1000) {lo hi wd : Int} (hlo : lo_ ((M p + 31) / 32) s ((x9 + x10) % s) = lo)
  (hhi : lo_ ((M p + 31) / 32) s ((x9 + x10) % s + 1) = hi) (hat : x16 = 0) (hwd : ld l ((M p + 31) / 32 + ((M p + 31) / 32 + 63) / 64) = wd) {k : Nat} (hk : 10 ≤ k) : seek_Step.f k B p H s w q tr l x0 x1 x2 x3 x4 x5 x6 x7 x8 x9 x10 x11 x12 x13 x14 x15 x16 x17 x18 x19 = some (fin_ (x0, x1, x2, x3, x4, x5, x6, x7, x8, x9, x10, x11, x12, wd, x14, x15, nt wd lo hi (mx 0 (lo / 64)) + 1, x17, x18, x19) (x0, x1, x2, x3, x4, x5, x6, x7, 6, x9, x10 + 1, x11, x12, 0, x14, 0, 0, x17, x18, x19) (x0, x1, x2, x3, x4, x5, x6, x7, x8, x9, x10 + 1, x11, x12, 0, x14, x15, 0, x17, x18, x19) wd lo hi (mx 0 (lo / 64)) s x10) := by
 have hm := M_bounds p1 p2
 unfold seek_Step.f
 rw [Many_eq B p1 p2, Option.bind_some, if_pos hat, Cells_eq (by omega) (by omega), Option.bind_some, w64 (by omega) (by omega), show (M p + 31) / 32 + ((M p + 31) / 32 + 63) / 64 + 1 - 1 = (M p + 31) / 32 + ((M p + 31) / 32 + 63) / 64 by omega, Load_eq, Option.bind_some, hwd,
  further_eq x0 x1 x2 x3 x4 x5 x6 x7 x8 x9 x10 x11 x12 wd x14 x15 x16 x17 x18 x19 p1 p2 hM s1 s2 a0 a1 b0 b1 (by omega) (by omega) hlo hhi hk]
 rfl
theorem Step_t {B p : Int} {H : List Int} {s w q tr : Int} (x0 : Int) (x1 : Int) (x2 : Int) (x3 : Int) (x4 : Int) (x5 : Bool) (x6 : Int) (x7 : Int) (x8 : Int) (x9 : Int) (x10 : Int) (x11 : Int) (x12 : Int) (x13 : Int) (x14 : Bool) (x15 : Int) (x16 : Int) (x17 : Int) (x18 : Int) (x19 : Int) (l : List Int) (p1 : 16 ≤ p) (p2 : p ≤ 32) (hM : M p ≤ 4096) (s1 : 1 ≤ s) (s2 : s ≤ 64) (a0 : 0 ≤ x9) (a1 : x9 ≤ 1000) (b0 : 0 ≤ x10) (b1 : x10 ≤ 1000) {lo hi t wd : Int} (hlo : lo_ ((M p + 31) / 32) s ((x9 + x10) % s) = lo)
  (hhi : lo_ ((M p + 31) / 32) s ((x9 + x10) % s + 1) = hi) (hat : x16 = t + 1) (t0 : 0 ≤ t) (t1 : t ≤ 1) (hwd : ld l ((M p + 31) / 32 + t) = wd) {k : Nat} (hk : 200 ≤ k) :
  (∃ x, lo ≤ x ∧ t * 64 ≤ x ∧ x < hi ∧ x < (t + 1) * 64 ∧ hasb_ wd (x - t * 64) = false ∧ (∀ y, lo ≤ y → t * 64 ≤ y → y < x → hasb_ wd (y - t * 64) = true) ∧ seek_Step.f k B p H s w q tr l x0 x1 x2 x3 x4 x5 x6 x7 x8 x9 x10 x11 x12 x13 x14 x15 x16 x17 x18 x19 = some (x0, x1, x2, x3, x4, x5, x6, x7, 2, x9, x10, x, x12, 0, x14, x15, 0, x17, x18, x19)) ∨
  (∀ y, lo ≤ y → t * 64 ≤ y → y < hi → y < (t + 1) * 64 → hasb_ wd (y - t * 64) = true) ∧ seek_Step.f k B p H s w q tr l x0 x1 x2 x3 x4 x5 x6 x7 x8 x9 x10 x11 x12 x13 x14 x15 x16 x17 x18 x19 = some (fin_ (x0, x1, x2, x3, x4, x5, x6, x7, x8, x9, x10, x11, x12, x13, x14, x15, nt x13 lo hi (mx (t + 1) (lo / 64)) + 1, x17, x18, x19) (x0, x1, x2, x3, x4, x5, x6, x7, 6, x9, x10 + 1, x11, x12, 0, x14, 0, 0, x17, x18, x19) (x0, x1, x2, x3, x4, x5, x6, x7, x8, x9, x10 + 1, x11, x12, 0, x14, x15, 0, x17, x18, x19) x13 lo hi (mx (t + 1) (lo / 64)) s x10) := by
 have hm := M_bounds p1 p2
 have hj := Int.emod_lt_of_pos (x9 + x10) (show 0 < s by omega)
 have hj0 := Int.emod_nonneg (x9 + x10) (show s ≠ 0 by omega)
 have c1 := lo_b (L := (M p + 31) / 32) hj0 (Int.le_of_lt hj) s1 s2 (by omega) (by omega)
 have c2 := lo_b (L := (M p + 31) / 32) (j := (x9 + x10) % s + 1) (by omega) (by omega) s1 s2 (by omega) (by omega)
 rw [hlo] at c1
 rw [hhi] at c2
 have hF : ∀ (b : Int) (ok : Bool), hint_Find.f k wd (mx lo (t * 64) - t * 64) (mn hi ((t + 1) * 64) - t * 64) = some (b, ok) → seek_Step.f k B p H s w q tr l x0 x1 x2 x3 x4 x5 x6 x7 x8 x9 x10 x11 x12 x13 x14 x15 x16 x17 x18 x19 = if ok = true then some (x0, x1, x2, x3, x4, x5, x6, x7, 2, x9, x10, wrap64 (t * 64 + b), x12, 0, x14, x15, 0, x17, x18, x19) else some (fin_ (x0, x1, x2, x3, x4, x5, x6, x7, x8, x9, x10, x11, x12, x13, x14, x15, nt x13 lo hi (mx (t + 1) (lo / 64)) + 1, x17, x18, x19) (x0, x1, x2, x3, x4, x5, x6, x7, 6, x9, x10 + 1, x11, x12, 0, x14, 0, 0, x17, x18, x19) (x0, x1, x2, x3, x4, x5, x6, x7, x8, x9, x10 + 1, x11, x12, 0, x14, x15, 0, x17, x18, x19) x13 lo hi (mx (t + 1) (lo / 64)) s x10) := by
  intro b ok hb
  unfold seek_Step.f
  rw [Many_eq B p1 p2, Option.bind_some, if_neg (by omega), leaves_eq x0 x1 x2 x3 x4 x5 x6 x7 x8 x9 x10 x11 x12 x13 x14 x15 x16 x17 x18 x19 p1 p2 s1 s2 a0 a1 b0 b1, Option.bind_some, Leaves_eq (by omega) (by omega), Option.bind_some, w64 (x := x16 - 1) (by omega) (by omega)]
  simp only [hlo, hhi]
  rw [show x16 - 1 = t by omega, w64 (x := t + 1) (by omega) (by omega), w64 (x := t * 64) (by omega) (by omega), w64 (x := (t + 1) * 64) (by omega) (by omega), w64 (x := (M p + 31) / 32 + t) (by omega) (by omega),
   w64 (x := mx lo (t * 64) - t * 64) (by unfold mx; split <;> omega) (by unfold mx; split <;> omega), w64 (x := mn hi ((t + 1) * 64) - t * 64) (by unfold mn; split <;> omega) (by unfold mn; split <;> omega), Load_eq, Option.bind_some, hwd, hb, Option.bind_some]
  cases ok with
  | true => rw [if_pos rfl, if_pos rfl]
  | false =>
   rw [if_neg (by simp), if_neg (by simp), further_eq x0 x1 x2 x3 x4 x5 x6 x7 x8 x9 x10 x11 x12 x13 x14 x15 x16 x17 x18 x19 p1 p2 hM s1 s2 a0 a1 b0 b1 (by omega) (by omega) hlo hhi (by omega)]
   rfl
 have e1 : 0 ≤ mx lo (t * 64) - t * 64 ∧ (∀ y, lo ≤ y → t * 64 ≤ y → mx lo (t * 64) - t * 64 ≤ y - t * 64) ∧ lo ≤ mx lo (t * 64) ∧ t * 64 ≤ mx lo (t * 64) := by unfold mx; split <;> (refine ⟨by omega, fun y _ _ => by omega, by omega, by omega⟩)
 have e2 : mn hi ((t + 1) * 64) - t * 64 ≤ 100 ∧ (∀ y, y < hi → y < (t + 1) * 64 → y - t * 64 < mn hi ((t + 1) * 64) - t * 64) ∧ mn hi ((t + 1) * 64) ≤ hi ∧ mn hi ((t + 1) * 64) ≤ (t + 1) * 64 := by unfold mn; split <;> (refine ⟨by omega, fun y _ _ => by omega, by omega, by omega⟩)
 obtain ⟨r, ok, h1, h2⟩ := Find_l0 wd (mn hi ((t + 1) * 64) - t * 64) e2.1 100 (mx lo (t * 64) - t * 64) k e1.1 (by omega) (by omega)
 rw [hF r ok h1]
 rcases h2 with ⟨rfl, h3, h4, h5, h6⟩ | ⟨rfl, h3⟩
 ·refine Or.inl ⟨t * 64 + r, by omega, by omega, by omega, by omega, by rw [show t * 64 + r - t * 64 = r by omega]; exact h5, fun y y1 y2 y3 => h6 _ (e1.2.1 y y1 y2) (by omega), ?_⟩
  rw [if_pos rfl, w64 (x := t * 64 + r) (by omega) (by omega)]
 ·exact Or.inr ⟨fun y y1 y2 y3 y4 => h3 _ (e1.2.1 y y1 y2) (e2.2.1 y y3 y4), by rw [if_neg (by simp)]⟩

theorem Rest_eq {a s : Int} (h0 : 0 ≤ a) (h1 : a ≤ 1000000) (s1 : 1 ≤ s) (s2 : s ≤ 64) : lodgerref12_Rest.f a s = some (a % s) := by
 unfold lodgerref12_Rest.f
 have d := Int.ediv_nonneg h0 (show 0 ≤ s by omega)
 have d' := Int.ediv_le_self s h0
 have e := Int.emod_add_mul_ediv a s
 have e0 := Int.emod_nonneg a (show s ≠ 0 by omega)
 have e1 := Int.emod_lt_of_pos a (show 0 < s by omega)
 have c : a / s * s = s * (a / s) := Int.mul_comm _ _
 rw [if_neg (by omega), td h0, w64 (x := a / s) (by omega) (by omega), w64 (x := a / s * s) (by omega) (by omega), w64 (by omega) (by omega)]
 congr 1; omega
theorem ref12_one {x s : Int} (h0 : 0 ≤ x) (h1 : x ≤ 1000000) (s1 : 1 ≤ s) : wrap64 (Int.tdiv (wrap64 (x - (Int.tmod x s))) s) = x / s := by
 have e := Int.emod_add_mul_ediv x s
 have e0 := Int.emod_nonneg x (show s ≠ 0 by omega)
 have d := Int.ediv_nonneg h0 (show 0 ≤ s by omega)
 have d' := Int.ediv_le_self s h0
 have e1 := Int.mul_nonneg (show 0 ≤ s by omega) d
 rw [tm h0, w64 (x := x - x % s) (by omega) (by omega), td (by omega), show x - x % s = s * (x / s) by omega, Int.mul_ediv_cancel_left _ (by omega), w64 (by omega) (by omega)]
theorem refRange_eq {n s j : Int} (n0 : 1 ≤ n) (n1 : n ≤ 4096) (s1 : 1 ≤ s) (s2 : s ≤ 64) (j0 : 0 ≤ j) (j1 : j < s) {k : Nat} (hk : 4000 ≤ k) : lodgerref12_Range.f k n s j = some (lo_ ((n + 31) / 32) s j, lo_ ((n + 31) / 32) s (j + 1)) := by
 unfold lodgerref12_Range.f
 have m1 := mul_b (L := (n + 31) / 32) j0 (Int.le_of_lt j1) s2 (by omega) (by omega)
 have m2 := mul_b (i := j + 1) (L := (n + 31) / 32) (by omega) (by omega) s2 (by omega) (by omega)
 rw [refLeaves (by omega) (by omega) hk, Option.bind_some, if_neg (by omega), w64 (x := j * _) (by omega) (by omega), w64 (x := j + 1) (by omega) (by omega), w64 (x := (j + 1) * _) (by omega) (by omega), ref12_one (by omega) (by omega) s1, ref12_one (by omega) (by omega) s1]
 rfl
/-- Not all shards are empty. -/
theorem shard_one {L s h : Int} (s1 : 1 ≤ s) (h0 : 0 ≤ h) (h1 : h < s) (l1 : 1 ≤ L) : ¬ ∀ i, 0 ≤ i → i < s → ¬ lo_ L s ((h + i) % s) < lo_ L s ((h + i) % s + 1) := by
 intro hall
 have all : ∀ d : Nat, (d : Int) ≤ s → lo_ L s d ≤ 0 := by
  intro d
  induction d with
  | zero => intro _; unfold lo_; simp
  | succ d ih =>
   intro hd
   have a := ih (by omega)
   have b : ¬ lo_ L s d < lo_ L s (d + 1) := by
    by_cases c : h ≤ d
    ·have := hall (d - h) (by omega) (by omega)
     rwa [show h + (d - h) = (d : Int) by omega, Int.emod_eq_of_lt (by omega) (by omega)] at this
    ·have := hall (d - h + s) (by omega) (by omega)
     rwa [show h + ((d : Int) - h + s) = d + s by omega, Int.add_emod_right, Int.emod_eq_of_lt (by omega) (by omega)] at this
   rw [Int.natCast_succ]; omega
 have := all s.toNat (by omega)
 unfold lo_ at this
 rw [Int.toNat_of_nonneg (by omega), Int.mul_ediv_cancel_left _ (by omega)] at this
 omega

theorem lo_mono {L s a b : Int} (L0 : 0 ≤ L) (s1 : 1 ≤ s) (h : a ≤ b) : lo_ L s a ≤ lo_ L s b := by
 unfold lo_
 exact Int.ediv_le_ediv (by omega) (Int.mul_le_mul_of_nonneg_right h L0)
theorem lo_s {L s : Int} (s1 : 1 ≤ s) : lo_ L s s = L := by unfold lo_; exact Int.mul_ediv_cancel_left _ (by omega)
theorem shard_of {L s y : Int} (y0 : 0 ≤ y) : ∀ d : Nat, y < lo_ L s d → ∃ j, 0 ≤ j ∧ j < (d : Int) ∧ lo_ L s j ≤ y ∧ y < lo_ L s (j + 1) := by
 intro d
 induction d with
 | zero => intro h; unfold lo_ at h; simp at h; omega
 | succ d ih =>
  intro h
  by_cases c : y < lo_ L s d
  ·obtain ⟨j, a, b, e, f⟩ := ih c; exact ⟨j, a, by omega, e, f⟩
  ·exact ⟨d, by omega, by omega, by omega, h⟩
theorem refOf12_l0 {n s x j : Int} (n0 : 1 ≤ n) (n1 : n ≤ 4096) (s1 : 1 ≤ s) (s2 : s ≤ 64) (j1 : j < s) (h1 : lo_ ((n + 31) / 32) s j ≤ x) (h2 : x < lo_ ((n + 31) / 32) s (j + 1)) : ∀ (d : Nat) (i : Int) (k : Nat), 0 ≤ i → i ≤ j → j - i = d → 4000 + d < k → lodgerref12_Of.l0 k n s x i = some j := by
 intro d
 induction d with
 | zero =>
  intro i k i0 i1 hd hk
  obtain ⟨k, rfl⟩ : ∃ m, k = m + 1 := ⟨k - 1, by omega⟩
  obtain rfl : i = j := by omega
  simp only [lodgerref12_Of.l0]
  rw [if_pos j1, refRange_eq n0 n1 s1 s2 i0 j1 (by omega), Option.bind_some, if_pos h1, if_pos h2]
 | succ d ih =>
  intro i k i0 i1 hd hk
  obtain ⟨k, rfl⟩ : ∃ m, k = m + 1 := ⟨k - 1, by omega⟩
  have a := lo_mono (L := (n + 31) / 32) (s := s) (a := i + 1) (b := j) (by omega) s1 (by omega)
  simp only [lodgerref12_Of.l0]
  rw [if_pos (by omega), refRange_eq n0 n1 s1 s2 i0 (by omega) (by omega), Option.bind_some, w64 (x := i + 1) (by omega) (by omega), ih (i + 1) k (by omega) (by omega) (by omega) (by omega)]
  simp only [if_neg (show ¬ x < lo_ ((n + 31) / 32) s (i + 1) by omega)]
  split <;> rfl
theorem refOf12_eq {n s x j : Int} (n0 : 1 ≤ n) (n1 : n ≤ 4096) (s1 : 1 ≤ s) (s2 : s ≤ 64) (j0 : 0 ≤ j) (j1 : j < s) (h1 : lo_ ((n + 31) / 32) s j ≤ x) (h2 : x < lo_ ((n + 31) / 32) s (j + 1)) {k : Nat} (hk : 4100 < k) : lodgerref12_Of.f k n s x = some j := by
 unfold lodgerref12_Of.f
 exact refOf12_l0 n0 n1 s1 s2 j1 h1 h2 j.toNat 0 k (by omega) j0 (by omega) (by omega)
/-- The shard that is reached from `h` by so many steps. -/
theorem shard_turn {h j s : Int} (h0 : 0 ≤ h) (h1 : h < s) (j0 : 0 ≤ j) (j1 : j < s) : 0 ≤ (j + s - h) % s ∧ (j + s - h) % s < s ∧ (h + (j + s - h) % s) % s = j := by
 have s0 : s ≠ 0 := by omega
 refine ⟨Int.emod_nonneg _ s0, Int.emod_lt_of_pos _ (by omega), ?_⟩
 rw [Int.add_emod_emod, show h + (j + s - h) = j + s by omega, Int.add_emod_right, Int.emod_eq_of_lt j0 j1]
theorem shard_turn1 {h i s : Int} (h0 : 0 ≤ h) (h1 : h < s) (i0 : 0 ≤ i) (i1 : i < s) : ((h + i) % s + s - h) % s = i := by
 have e : ((h + i) % s + s - h) % s = (h + i + s - h) % s := by
  rw [Int.sub_emod, Int.add_emod_right, Int.emod_emod_of_dvd _ (Int.dvd_refl s), ← Int.add_emod_right (h + i) s, ← Int.sub_emod]
 rw [e, show h + i + s - h = i + s by omega, Int.add_emod_right, Int.emod_eq_of_lt i0 i1]

/-- A leaf's hints say that it is full. -/
def hf (l : List Int) (L T y : Int) : Bool := hasb_ (ld l (L + y / 64)) (y % 64) || hasb_ (ld l (L + T)) (y / 64)
theorem hf_root {l : List Int} {L T y : Int} (h : hasb_ (ld l (L + T)) (y / 64) = true) : hf l L T y = true := by unfold hf; rw [h, Bool.or_true]
theorem hf_top {l : List Int} {L T y t : Int} (a : t * 64 ≤ y) (b : y < (t + 1) * 64) (h : hasb_ (ld l (L + t)) (y - t * 64) = true) : hf l L T y = true := by
 unfold hf; rw [show y / 64 = t by omega, show y % 64 = y - t * 64 by omega, h, Bool.true_or]
theorem hf_no {l : List Int} {L T y t : Int} (a : t * 64 ≤ y) (b : y < (t + 1) * 64) (h : hasb_ (ld l (L + t)) (y - t * 64) = false) (h2 : hasb_ (ld l (L + T)) t = false) : hf l L T y = false := by
 unfold hf; rw [show y / 64 = t by omega, show y % 64 = y - t * 64 by omega, h, h2]; rfl
theorem nt_spec (wd lo hi : Int) {t : Int} (h0 : 0 ≤ t) : (nt wd lo hi t < 2 → 0 ≤ nt wd lo hi t ∧ t ≤ nt wd lo hi t ∧ gt_ wd lo hi (nt wd lo hi t) = true ∧ ∀ v, t ≤ v → v < nt wd lo hi t → gt_ wd lo hi v = false) ∧ (¬ nt wd lo hi t < 2 → ∀ v, t ≤ v → v ≤ 1 → gt_ wd lo hi v = false) := by
 unfold nt
 by_cases c : t ≤ 0 ∧ gt_ wd lo hi 0 = true
 ·rw [if_pos c]; exact ⟨fun _ => ⟨by omega, c.1, c.2, fun v a b => by omega⟩, fun h => by omega⟩
 rw [if_neg c]
 by_cases d : t ≤ 1 ∧ gt_ wd lo hi 1 = true
 ·rw [if_pos d]
  refine ⟨fun _ => ⟨by omega, d.1, d.2, fun v a b => ?_⟩, fun h => by omega⟩
  obtain rfl : v = 0 := by omega
  cases e : gt_ wd lo hi 0 with
  | false => rfl
  | true => exact absurd ⟨a, e⟩ c
 rw [if_neg d]
 refine ⟨fun h => by omega, fun _ v a b => ?_⟩
 obtain rfl | rfl : v = 0 ∨ v = 1 := by omega
 ·cases e : gt_ wd lo hi 0 with
  | false => rfl
  | true => exact absurd ⟨a, e⟩ c
 ·cases e : gt_ wd lo hi 1 with
  | false => rfl
  | true => exact absurd ⟨a, e⟩ d
theorem after_ {l : List Int} {L T lo hi a : Int} (a0 : 0 ≤ a) (l0 : 0 ≤ lo) (h1 : hi ≤ 128) (P : ∀ y, lo ≤ y → y < hi → y < a * 64 → hf l L T y = true) :
  (nt (ld l (L + T)) lo hi (mx a (lo / 64)) < 2 → 0 ≤ nt (ld l (L + T)) lo hi (mx a (lo / 64)) ∧ a ≤ nt (ld l (L + T)) lo hi (mx a (lo / 64)) ∧ nt (ld l (L + T)) lo hi (mx a (lo / 64)) * 64 < hi ∧ hasb_ (ld l (L + T)) (nt (ld l (L + T)) lo hi (mx a (lo / 64))) = false ∧
   ∀ y, lo ≤ y → y < hi → y < nt (ld l (L + T)) lo hi (mx a (lo / 64)) * 64 → hf l L T y = true) ∧
  (¬ nt (ld l (L + T)) lo hi (mx a (lo / 64)) < 2 → ∀ y, lo ≤ y → y < hi → hf l L T y = true) := by
 have m0 : 0 ≤ mx a (lo / 64) ∧ a ≤ mx a (lo / 64) ∧ (∀ v, a ≤ v → lo / 64 ≤ v → mx a (lo / 64) ≤ v) := by unfold mx; split <;> exact ⟨by omega, by omega, fun v _ _ => by omega⟩
 obtain ⟨n1, n2⟩ := nt_spec (ld l (L + T)) lo hi m0.1
 generalize mx a (lo / 64) = m at *
 generalize nt (ld l (L + T)) lo hi m = u at *
 have key : ∀ y, lo ≤ y → y < hi → gt_ (ld l (L + T)) lo hi (y / 64) = false → hf l L T y = true := by
  intro y y1 y2 g
  unfold gt_ at g
  rw [decide_eq_true (by omega : y / 64 * 64 < hi), decide_eq_true (by omega : lo < hi)] at g
  refine hf_root ?_
  cases e : hasb_ (ld l (L + T)) (y / 64) with
  | true => rfl
  | false => rw [e] at g; simp at g
 refine ⟨fun h => ?_, fun h y y1 y2 => ?_⟩
 ·obtain ⟨b0, b1, b2, b3⟩ := n1 h
  have g := b2
  unfold gt_ at g
  simp only [Bool.and_eq_true, decide_eq_true_eq, Bool.not_eq_true'] at g
  refine ⟨b0, by omega, g.1, g.2.2, fun y y1 y2 y3 => ?_⟩
  by_cases c : y < a * 64
  ·exact P y y1 y2 c
  ·exact key y y1 y2 (b3 _ (m0.2.2 _ (by omega) (by omega)) (by omega))
 ·by_cases c : y < a * 64
  ·exact P y y1 y2 c
  ·exact key y y1 y2 (n2 h _ (m0.2.2 _ (by omega) (by omega)) (by omega))
/-- All leaves of the shards that were sought are full. -/
def Past (l : List Int) (L T s h i : Int) : Prop := ∀ i', 0 ≤ i' → i' < i → ∀ y, lo_ L s ((h + i') % s) ≤ y → y < lo_ L s ((h + i') % s + 1) → hf l L T y = true
def Inv (l : List Int) (L T s h i at_ wd : Int) : Prop := 0 ≤ i ∧ i < s ∧ Past l L T s h i ∧ (at_ = 0 ∨ ∃ t, at_ = t + 1 ∧ 0 ≤ t ∧ t ≤ 1 ∧ t < T ∧ wd = ld l (L + T) ∧ hasb_ wd t = false ∧ ∀ y, lo_ L s ((h + i) % s) ≤ y → y < lo_ L s ((h + i) % s + 1) → y < t * 64 → hf l L T y = true)
def Found (l : List Int) (L T s h i x : Int) : Prop := 0 ≤ i ∧ i < s ∧ Past l L T s h i ∧ lo_ L s ((h + i) % s) ≤ x ∧ x < lo_ L s ((h + i) % s + 1) ∧ hf l L T x = false ∧ ∀ y, lo_ L s ((h + i) % s) ≤ y → y < x → hf l L T y = true
theorem past_on {l : List Int} {L T s h i : Int} (P : Past l L T s h i) (Q : ∀ y, lo_ L s ((h + i) % s) ≤ y → y < lo_ L s ((h + i) % s + 1) → hf l L T y = true) : Past l L T s h (i + 1) := by
 intro i' a b
 by_cases c : i' = i
 ·rw [c]; exact Q
 ·exact P i' a (by omega)
section
variable {B p : Int} {H : List Int} {s w q tr : Int}
/-- A step of a seek that hasn't ended. -/
theorem seek_one {l : List Int} {L T h i at_ wd : Int} (hL : (M p + 31) / 32 = L) (hT : (L + 63) / 64 = T) (p1 : 16 ≤ p) (p2 : p ≤ 32) (hM : M p ≤ 4096) (s1 : 1 ≤ s) (s2 : s ≤ 64) (a0 : 0 ≤ h) (a1 : h < s) (I : Inv l L T s h i at_ wd) {k : Nat} (hk : 200 ≤ k) :
  (∃ i' at' wd', Inv l L T s h i' at' wd' ∧ i * (2 + T) + at_ < i' * (2 + T) + at' ∧ seek_Step.f k B p H s w q tr l 0 0 0 0 0 false 0 0 1 h i 0 0 wd false 0 at_ 0 0 0 = some (0, 0, 0, 0, 0, false, 0, 0, 1, h, i', 0, 0, wd', false, 0, at', 0, 0, 0)) ∨
  (∃ x, Found l L T s h i x ∧ seek_Step.f k B p H s w q tr l 0 0 0 0 0 false 0 0 1 h i 0 0 wd false 0 at_ 0 0 0 = some (0, 0, 0, 0, 0, false, 0, 0, 2, h, i, x, 0, 0, false, 0, 0, 0, 0, 0)) ∨
  (Past l L T s h s ∧ seek_Step.f k B p H s w q tr l 0 0 0 0 0 false 0 0 1 h i 0 0 wd false 0 at_ 0 0 0 = some (0, 0, 0, 0, 0, false, 0, 0, 6, h, s, 0, 0, 0, false, 0, 0, 0, 0, 0)) := by
 have hm := M_bounds p1 p2
 obtain ⟨i0, i1, P, C⟩ := I
 have hj := Int.emod_lt_of_pos (h + i) (show 0 < s by omega)
 have hj0 := Int.emod_nonneg (h + i) (show s ≠ 0 by omega)
 have c1 := lo_b (L := L) hj0 (Int.le_of_lt hj) s1 s2 (by omega) (by omega)
 have c2 := lo_b (L := L) (j := (h + i) % s + 1) (by omega) (by omega) s1 s2 (by omega) (by omega)
 have S0 := fun (hat : at_ = 0) => Step_0 (B := B) (H := H) (w := w) (q := q) (tr := tr) 0 0 0 0 0 false 0 0 1 h i 0 0 wd false 0 at_ 0 0 0 l p1 p2 hM s1 s2 a0 (by omega) i0 (by omega) rfl rfl hat rfl (k := k) (by omega)
 have S1 := fun (t : Int) (hat : at_ = t + 1) (t0 : 0 ≤ t) (t1 : t ≤ 1) => Step_t (B := B) (H := H) (w := w) (q := q) (tr := tr) 0 0 0 0 0 false 0 0 1 h i 0 0 wd false 0 at_ 0 0 0 l p1 p2 hM s1 s2 a0 (by omega) i0 (by omega) rfl rfl hat t0 t1 rfl (k := k) hk
 rw [hL, hT] at S0
 rw [hL] at S1
 have po := past_on P
 generalize hlo : lo_ L s ((h + i) % s) = lo at *
 generalize hhi : lo_ L s ((h + i) % s + 1) = hi at *
 generalize seek_Step.f k B p H s w q tr l 0 0 0 0 0 false 0 0 1 h i 0 0 wd false 0 at_ 0 0 0 = R at *
 have go : ∀ a, 0 ≤ a → at_ ≤ a → a ≤ 2 → at_ ≤ T → (∀ y, lo ≤ y → y < hi → y < a * 64 → hf l L T y = true) → R = some (fin_ (0, 0, 0, 0, 0, false, 0, 0, 1, h, i, 0, 0, ld l (L + T), false, 0, nt (ld l (L + T)) lo hi (mx a (lo / 64)) + 1, 0, 0, 0) (0, 0, 0, 0, 0, false, 0, 0, 6, h, i + 1, 0, 0, 0, false, 0, 0, 0, 0, 0) (0, 0, 0, 0, 0, false, 0, 0, 1, h, i + 1, 0, 0, 0, false, 0, 0, 0, 0, 0) (ld l (L + T)) lo hi (mx a (lo / 64)) s i) →
   (∃ i' at' wd', Inv l L T s h i' at' wd' ∧ i * (2 + T) + at_ < i' * (2 + T) + at' ∧ R = some (0, 0, 0, 0, 0, false, 0, 0, 1, h, i', 0, 0, wd', false, 0, at', 0, 0, 0)) ∨ (Past l L T s h s ∧ R = some (0, 0, 0, 0, 0, false, 0, 0, 6, h, s, 0, 0, 0, false, 0, 0, 0, 0, 0)) := by
  intro a b0 b1 b2 bT bP hR
  obtain ⟨A1, A2⟩ := after_ (l := l) (L := L) (T := T) b0 c1.1 (by omega : hi ≤ 128) bP
  unfold fin_ at hR
  generalize nt (ld l (L + T)) lo hi (mx a (lo / 64)) = u at *
  by_cases c : u < 2
  ·rw [if_pos c] at hR
   obtain ⟨u0, u1, u2, u3, u4⟩ := A1 c
   refine Or.inl ⟨i, u + 1, ld l (L + T), ⟨i0, i1, P, Or.inr ⟨u, rfl, u0, by omega, by omega, rfl, u3, ?_⟩⟩, by omega, hR⟩
   rw [hlo, hhi]; exact u4
  ·rw [if_neg c] at hR
   have Q := po (A2 c)
   by_cases d : i + 1 ≥ s
   ·rw [if_pos d] at hR
    refine Or.inr ⟨?_, by rw [hR, show i + 1 = s by omega]⟩
    rw [show s = i + 1 by omega] at Q ⊢; exact Q
   ·rw [if_neg d] at hR
    refine Or.inl ⟨i + 1, 0, 0, ⟨by omega, by omega, Q, Or.inl rfl⟩, ?_, hR⟩
    rw [Int.add_mul]; omega
 rcases C with C | ⟨t, t1, t2, t3, t4, t5, t6, t7⟩
 ·rcases go 0 (by omega) (by omega) (by omega) (by omega) (fun y _ _ _ => by omega) (S0 C) with e | e
  ·exact Or.inl e
  ·exact Or.inr (Or.inr e)
 ·rcases S1 t t1 t2 t3 with ⟨x, x1, x2, x3, x4, x5, x6, x7⟩ | ⟨x1, x2⟩
  ·refine Or.inr (Or.inl ⟨x, ⟨i0, i1, P, ?_⟩, x7⟩)
   rw [hlo, hhi]
   refine ⟨x1, x3, hf_no x2 x4 x5 (t5 ▸ t6), fun y y1 y2 => ?_⟩
   by_cases c : y < t * 64
   ·exact t7 y y1 (by omega) c
   ·exact hf_top (by omega) (by omega) (x6 y y1 (by omega) y2)
  ·subst t5
   have P7 : ∀ y, lo ≤ y → y < hi → y < (t + 1) * 64 → hf l L T y = true := by
    intro y y1 y2 y3
    by_cases c : y < t * 64
    ·exact t7 y y1 y2 c
    ·exact hf_top (by omega) (by omega) (x1 y y1 (by omega) y2 y3)
   rcases go (t + 1) (by omega) (by omega) (by omega) (by omega) P7 x2 with e | e
   ·exact Or.inl e
   ·exact Or.inr (Or.inr e)
end
/-- Where all shards were sought all leaves are full. -/
theorem past_all {l : List Int} {L T s h y : Int} (s1 : 1 ≤ s) (a0 : 0 ≤ h) (a1 : h < s) (P : Past l L T s h s) (y0 : 0 ≤ y) (y1 : y < L) : hf l L T y = true := by
 obtain ⟨j, j0, j1, j2, j3⟩ := shard_of (L := L) (s := s) y0 s.toNat (by rw [Int.toNat_of_nonneg (by omega), lo_s s1]; exact y1)
 obtain ⟨t0, t1, t2⟩ := shard_turn (h := h) (j := j) (s := s) a0 a1 j0 (by omega)
 exact P _ t0 t1 y (by rw [t2]; exact j2) (by rw [t2]; exact j3)
theorem rd_all {P : Int → Prop} {l : List Int} (h : ∀ x ∈ l, P x) {i : Int} (h0 : 0 ≤ i) (h1 : i < (l.length : Int)) : P (rd l i) := by
 have e : i.toNat < l.length := by omega
 have : rd l i = l[i.toNat] := by unfold rd; simp [e]
 rw [this]; exact h _ (List.getElem_mem e)
theorem refHasb {a i : Int} (a0 : 0 ≤ a) (a1 : a ≤ 18446744073709551615) (h0 : 0 ≤ i) (h1 : i < 64) {k : Nat} (hk : 70 ≤ k) : lodgerref01_Has.f k a i = some (hasb_ a i) := by
 obtain ⟨x, rfl⟩ := U_of a0 a1
 rw [refHas_eq x h0 h1 hk]
 unfold hasb_
 rw [wrapu_small h0 (by omega), shr_U x h0 h1, bit_U]

section
variable {B p : Int} {H : List Int} {s w q tr : Int}
theorem next_l0 {l : List Int} {L T h K : Int} {k0 : Nat} {y : Option Bool} (hL : (M p + 31) / 32 = L) (hT : (L + 63) / 64 = T) (p1 : 16 ≤ p) (p2 : p ≤ 32) (hM : M p ≤ 4096) (s1 : 1 ≤ s) (s2 : s ≤ 64) (a0 : 0 ≤ h) (a1 : h < s) (hm : s * (2 + T) ≤ 2304)
  (F : ∀ (k : Nat) (i x : Int), Found l L T s h i x → k0 ≤ k → lodgerlaw15_SeekNext.j2 k l K B p H s w q tr 0 0 0 0 0 false 0 0 2 h i x 0 0 false 0 0 0 0 0 = y)
  (G : ∀ (k : Nat), Past l L T s h s → k0 ≤ k → lodgerlaw15_SeekNext.j2 k l K B p H s w q tr 0 0 0 0 0 false 0 0 6 h s 0 0 0 false 0 0 0 0 0 = y) :
  ∀ (d : Nat) (i at_ wd c : Int) (k : Nat), Inv l L T s h i at_ wd → s * (2 + T) - (i * (2 + T) + at_) ≤ d → 0 ≤ c → c ≤ i * (2 + T) + at_ → k0 + 300 + d ≤ k → lodgerlaw15_SeekNext.l0 k l K c B p H s w q tr 0 0 0 0 0 false 0 0 1 h i 0 0 wd false 0 at_ 0 0 0 = y := by
 have hb := M_bounds p1 p2
 have lt : ∀ i at_ wd, Inv l L T s h i at_ wd → i * (2 + T) + at_ < s * (2 + T) := by
  intro i at_ wd I
  obtain ⟨i0, i1, _, C⟩ := I
  have a : at_ ≤ T := by rcases C with C | ⟨t, t1, _, _, t4, _⟩ <;> omega
  have b : (i + 1) * (2 + T) ≤ s * (2 + T) := Int.mul_le_mul_of_nonneg_right (by omega) (by omega)
  rw [Int.add_mul] at b; omega
 intro d
 induction d with
 | zero => intro i at_ wd c k I hd; have := lt i at_ wd I; omega
 | succ d ih =>
  intro i at_ wd c k I hd c0 hc hk
  have i2 := lt i at_ wd I
  obtain ⟨k, rfl⟩ : ∃ m, k = m + 2 := ⟨k - 2, by omega⟩
  rw [lodgerlaw15_SeekNext.l0, if_pos (by omega), if_pos (show (1 : Int) = 1 from rfl), w64 (x := c + 1) (by omega) (by omega)]
  rcases seek_one (B := B) (H := H) (w := w) (q := q) (tr := tr) hL hT p1 p2 hM s1 s2 a0 a1 I (k := k + 1) (by omega) with ⟨i', at', wd', I', g, e⟩ | ⟨x, g, e⟩ | ⟨g, e⟩
  ·rw [e, Option.bind_some]
   exact ih i' at' wd' (c + 1) (k + 1) I' (by omega) (by omega) (by omega) (by omega)
  ·rw [e, Option.bind_some]
   show lodgerlaw15_SeekNext.l0 (k + 1) l K (c + 1) B p H s w q tr 0 0 0 0 0 false 0 0 2 h i x 0 0 false 0 0 0 0 0 = y
   rw [lodgerlaw15_SeekNext.l0, if_neg (show ¬ (2 : Int) = 1 by decide), ite_self]
   exact F k i x g (by omega)
  ·rw [e, Option.bind_some]
   show lodgerlaw15_SeekNext.l0 (k + 1) l K (c + 1) B p H s w q tr 0 0 0 0 0 false 0 0 6 h s 0 0 0 false 0 0 0 0 0 = y
   rw [lodgerlaw15_SeekNext.l0, if_neg (show ¬ (6 : Int) = 1 by decide), ite_self]
   exact G k g (by omega)
theorem next_l1 {l : List Int} {L T h so lf : Int} (wl : ∀ x ∈ l, 0 ≤ x ∧ x ≤ 18446744073709551615) (hn : (l.length : Int) = L + T + 1) (hL : (M p + 31) / 32 = L) (hT : (L + 63) / 64 = T) (p1 : 16 ≤ p) (p2 : p ≤ 32) (hM : M p ≤ 4096) (s1 : 1 ≤ s) (s2 : s ≤ 64) (a0 : 0 ≤ h) (a1 : h < s)
  (F : Found l L T s h so lf) : ∀ (d : Nat) (i : Int) (k : Nat), 0 ≤ i → L - i = d → 6000 + 3 * d ≤ k →
  lodgerlaw15_SeekNext.l1 k l (M p) i B p H s w q tr 0 0 0 0 0 false 0 0 2 h so lf 0 0 false 0 0 0 0 0 = some true := by
 have hb := M_bounds p1 p2
 obtain ⟨F0, F1, F2, F3, F4, F5, F6⟩ := F
 intro d
 induction d with
 | zero =>
  intro i k h0 hd hk
  obtain ⟨k, rfl⟩ : ∃ m, k = m + 1 := ⟨k - 1, by omega⟩
  rw [lodgerlaw15_SeekNext.l1, refLeaves (by omega) (by omega) (by omega), Option.bind_some, hL, if_neg (by omega)]
 | succ d ih =>
  intro i k h0 hd hk
  obtain ⟨k, rfl⟩ : ∃ m, k = m + 2 := ⟨k - 2, by omega⟩
  have ht := rd_all wl (i := L + i / 64) (by omega) (by omega)
  have hr := rd_all wl (i := L + T) (by omega) (by omega)
  obtain ⟨j, j0, j1, j2, j3⟩ := shard_of (L := L) (s := s) h0 s.toNat (by rw [Int.toNat_of_nonneg (by omega), lo_s s1]; omega)
  obtain ⟨t0, t1, t2⟩ := shard_turn (h := h) (j := j) (s := s) a0 a1 j0 (by omega)
  have nx : lodgerlaw15_SeekNext.j4 (k + 1) l (M p) i (hf l L T i) B p H s w q tr 0 0 0 0 0 false 0 0 2 h so lf 0 0 false 0 0 0 0 0 = some true := by
   have nn := ih (i + 1) k (by omega) (by omega) (by omega)
   rw [lodgerlaw15_SeekNext.j4, w64 (x := i + 1) (by omega) (by omega), refOf12_eq (by omega) hM s1 s2 j0 (by omega) (by rw [hL]; exact j2) (by rw [hL]; exact j3) (by omega), Option.bind_some, w64 (x := j + s) (by omega) (by omega), w64 (x := j + s - h) (by omega) (by omega), Rest_eq (by omega) (by omega) s1 s2, Option.bind_some, nn]
   by_cases c : (j + s - h) % s < so
   ·rw [if_pos c, if_pos (F2 _ t0 c i (by rw [t2]; exact j2) (by rw [t2]; exact j3))]
   ·rw [if_neg c]
    by_cases e : (j + s - h) % s = so
    ·rw [if_pos e]
     by_cases g : i < lf
     ·rw [if_pos g, if_pos (F6 i (by rw [← e, t2]; exact j2) g)]
     ·rw [if_neg g]
    ·rw [if_neg e]
  rw [lodgerlaw15_SeekNext.l1, refLeaves (by omega) (by omega) (by omega), Option.bind_some, hL, if_pos (by omega), refTop (by omega) (by omega) h0 (by omega) (by omega), Option.bind_some, refRoot (by omega) (by omega) h0 (by omega) (by omega), Option.bind_some, hL, hT]
  show (if 0 ≤ L + i / 64 then _ else _) = _
  rw [if_pos (by omega), if_pos (by omega)]
  show (lodgerref01_Has.f (k + 1) (rd l (L + i / 64)) (i % 64)).bind _ = _
  rw [refHasb ht.1 ht.2 (by omega) (by omega) (by omega), Option.bind_some]
  have hfe : hf l L T i = (hasb_ (rd l (L + i / 64)) (i % 64) || hasb_ (rd l (L + T)) (i / 64)) := by unfold hf; rw [ld_in (by omega) (by omega), ld_in (by omega) (by omega)]
  cases ct : hasb_ (rd l (L + i / 64)) (i % 64) with
  | true => rw [if_pos rfl]; rw [hfe, ct, Bool.true_or] at nx; exact nx
  | false =>
   rw [if_neg (by simp), if_pos (by omega : (0 : Int) ≤ L + T), if_pos (by omega), refHasb hr.1 hr.2 (by omega) (by omega) (by omega), Option.bind_some]
   rw [hfe, ct, Bool.false_or] at nx; exact nx
end
theorem SeekNext : lodgerlaw15_SeekNext.Pure := by
 intro B p H s w q tr l a wB wp hH wH ws ww wq wt hl hl8 wl wa
 have bB := wf_u32 wB
 have ba := wf_u8 wa
 refine ⟨H.length + 100000, ?_⟩
 generalize hK : H.length + 100000 = k
 unfold lodgerlaw15_SeekNext.f lodgerlaw15_awake.f
 rw [Option.bind_some, if_pos rfl, refFits_eq H s w q tr hH bB.1 bB.2 l (by omega), Option.bind_some]
 obtain ⟨k, rfl⟩ : ∃ m, k = m + 1 := ⟨k - 1, by omega⟩
 simp only [lodgerlaw15_SeekNext.j0]
 cases hc : cmay B p H s w q tr with
 | false => unfold lodgerlaw15_awake.f; rfl
 | true =>
  obtain ⟨p1, p2, _, _, s1, s2, _⟩ := cmay_head hc
  have hm := M_bounds p1 p2
  by_cases hM : ¬ M p ≤ 4096
  ·rw [decide_eq_false hM]; unfold lodgerlaw15_awake.f; rfl
  replace hM := Classical.not_not.1 hM
  by_cases hn : ¬ (l.length : Int) = (M p + 31) / 32 + ((M p + 31) / 32 + 63) / 64 + 1
  ·rw [decide_eq_false hn, Bool.and_false]; unfold lodgerlaw15_awake.f; rfl
  replace hn := Classical.not_not.1 hn
  obtain ⟨L, hL⟩ : ∃ L, (M p + 31) / 32 = L := ⟨_, rfl⟩
  obtain ⟨T, hT⟩ : ∃ T, (L + 63) / 64 = T := ⟨_, rfl⟩
  have hb := Int.mul_le_mul (a := s) (b := 2 + T) (c := 64) (d := 4) s2 (by omega) (by omega) (by omega)
  have hb0 := Int.mul_nonneg (a := s) (b := 2 + T) (by omega) (by omega)
  have hj := Int.emod_lt_of_pos a (show 0 < s by omega)
  have hj0 := Int.emod_nonneg a (show s ≠ 0 by omega)
  have wl' : ∀ x ∈ l, 0 ≤ x ∧ x ≤ 18446744073709551615 := fun x hx => wf_u64 (wl x hx)
  rw [decide_eq_true hM, decide_eq_true hn, if_neg (by simp), ref05Many_eq B p1 p2 (by omega), Option.bind_some, if_neg (by omega), w64 (x := a) (by omega) (by omega), tm ba.1]
  rw [hL, hT] at hn
  refine next_l0 (k0 := 20000) hL hT p1 p2 hM s1 s2 hj0 hj (by omega) (fun k i x F hk => ?_) (fun k P hk => ?_) (s * (2 + T)).toNat 0 0 0 0 k ⟨by omega, by omega, fun i' a b => by omega, Or.inl rfl⟩ (by omega) (by omega) (by omega) (by omega)
  ·obtain ⟨k, rfl⟩ : ∃ m, k = m + 1 := ⟨k - 1, by omega⟩
   rw [lodgerlaw15_SeekNext.j2, if_pos (show (2 : Int) = 2 from rfl)]
   exact next_l1 wl' hn hL hT p1 p2 hM s1 s2 hj0 hj F L.toNat 0 k (by omega) (by omega) (by omega)
  ·obtain ⟨k, rfl⟩ : ∃ m, k = m + 1 := ⟨k - 1, by omega⟩
   rw [lodgerlaw15_SeekNext.j2, if_neg (show ¬ (6 : Int) = 2 by decide)]
   rfl

end Go.Proofs.Ytfhjeneegfmngaa.Pure
