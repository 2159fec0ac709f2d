/- SeekStays answers true at every input: a step of seeking changes nothing but where it seeks; what is handed in stays; no condition. -/
import Derived.Test.YtfhjeneegfmngaaQSeekStaysx8
namespace Go.Proofs.Ytfhjeneegfmngaa.Pure
open Go.RowKit Go.Proofs.Ytfhjeneegfmngaa.PSeekStays Go.Proofs.YtfhjeneegfmngaaW.PrintWords Go.Proofs.YtfhjeneegfmngaaW.PrintLast Go.Proofs.YtfhjeneegfmngaaW.PrintMore
set_option linter.unusedVariables false
set_option linter.unusedSimpArgs false

theorem w64 {x : Int} (h1 : -9223372036854775808 ≤ x) (h2 : x ≤ 9223372036854775807) : wrap64 x = x := by unfold wrap64; omega
theorem td {a b : Int} (h : 0 ≤ a) : Int.tdiv a b = a / b := Int.tdiv_eq_ediv_of_nonneg h
theorem tm {a b : Int} (h : 0 ≤ a) : Int.tmod a b = a % b := Int.tmod_eq_emod_of_nonneg h
theorem more {k N : Nat} (h : N + 1 ≤ k) : ∃ m, k = m + 1 ∧ N ≤ m := ⟨k - 1, by omega, by omega⟩
theorem wf_u16 {a : Int} (h : (Lit.int .u16 a).wf = true) : 0 ≤ a ∧ a ≤ 65535 := by
 simp [Lit.wf, IntKind.min, IntKind.max, IntKind.signed, IntKind.bits] at h
 omega
theorem wf_u8 {a : Int} (h : (Lit.int .u8 a).wf = true) : 0 ≤ a ∧ a ≤ 255 := by
 simp [Lit.wf, IntKind.min, IntKind.max, IntKind.signed, IntKind.bits] at h
 omega
theorem wf_u32 {a : Int} (h : (Lit.int .u32 a).wf = true) : 0 ≤ a ∧ a ≤ 4294967295 := by
 simp [Lit.wf, IntKind.min, IntKind.max, IntKind.signed, IntKind.bits] at h
 omega
theorem wf_u64 {a : Int} (h : (Lit.int .u64 a).wf = true) : 0 ≤ a ∧ a ≤ 18446744073709551615 := by
 simp [Lit.wf, IntKind.min, IntKind.max, IntKind.signed, IntKind.bits] at h
 omega
theorem wf_i64 {a : Int} (h : (Lit.int .i64 a).wf = true) : -9223372036854775808 ≤ a ∧ a ≤ 9223372036854775807 := by
 simp [Lit.wf, IntKind.min, IntKind.max, IntKind.signed, IntKind.bits] at h
 omega

/-- A word, as the machine's number. -/
def U (x : BitVec 64) : Int := (x.toNat : Int)
theorem U_lt (x : BitVec 64) : 0 ≤ U x ∧ U x < 18446744073709551616 := by have := x.isLt; unfold U; omega
theorem U_of {a : Int} (h0 : 0 ≤ a) (h1 : a ≤ 18446744073709551615) : ∃ x : BitVec 64, a = U x := by
 refine ⟨BitVec.ofNat 64 a.toNat, ?_⟩
 unfold U
 rw [BitVec.toNat_ofNat, Nat.mod_eq_of_lt (by omega)]
 omega
theorem U_inj {x y : BitVec 64} (h : U x = U y) : x = y := by unfold U at h; exact BitVec.eq_of_toNat_eq (by omega)
theorem U_eq {x y : BitVec 64} : (U x == U y) = (x == y) := by
 rw [Bool.eq_iff_iff, beq_iff_eq, beq_iff_eq]; exact ⟨U_inj, fun h => by rw [h]⟩
theorem wrapu (n : Int) : IntKind.u64.wrap n = n % 18446744073709551616 := by simp [IntKind.wrap, IntKind.bits, IntKind.signed]
theorem wrapu_small {n : Int} (h0 : 0 ≤ n) (h1 : n < 18446744073709551616) : IntKind.u64.wrap n = n := by rw [wrapu]; omega
theorem wrapu_U (x : BitVec 64) : IntKind.u64.wrap ((x.toNat : Nat) : Int) = U x := by have := x.isLt; unfold U; rw [wrapu]; omega
theorem ofInt_U (x : BitVec 64) : BitVec.ofInt 64 (U x) = x := by unfold U; rw [BitVec.ofInt_natCast]; simp
theorem bits_or_U (x y : BitVec 64) : Go.bits .or .u64 (U x) (U y) = U (x ||| y) := by
 show IntKind.u64.wrap ((BitVec.ofInt 64 (U x) ||| BitVec.ofInt 64 (U y)).toNat : Nat) = _
 rw [ofInt_U, ofInt_U, wrapu_U]
theorem bits_and_U (x y : BitVec 64) : Go.bits .and .u64 (U x) (U y) = U (x &&& y) := by
 show IntKind.u64.wrap ((BitVec.ofInt 64 (U x) &&& BitVec.ofInt 64 (U y)).toNat : Nat) = _
 rw [ofInt_U, ofInt_U, wrapu_U]
theorem bits_xor_U (x y : BitVec 64) : Go.bits .xor .u64 (U x) (U y) = U (x ^^^ y) := by
 show IntKind.u64.wrap ((BitVec.ofInt 64 (U x) ^^^ BitVec.ofInt 64 (U y)).toNat : Nat) = _
 rw [ofInt_U, ofInt_U, wrapu_U]
theorem bits_andNot_U (x y : BitVec 64) : Go.bits .andNot .u64 (U x) (U y) = U (x &&& ~~~y) := by
 show IntKind.u64.wrap ((BitVec.ofInt 64 (U x) &&& ~~~BitVec.ofInt 64 (U y)).toNat : Nat) = _
 rw [ofInt_U, ofInt_U, wrapu_U]
theorem shl_U {i : Int} (h0 : 0 ≤ i) (h1 : i < 64) : shl .u64 1 i = U (BitVec.twoPow 64 i.toNat) := by
 unfold shl U
 rw [Nat.min_eq_left (by simp [IntKind.bits]; omega), BitVec.toNat_twoPow, wrapu, Int.one_mul]
 simp
theorem shr_U (x : BitVec 64) {i : Int} (h0 : 0 ≤ i) (h1 : i < 64) : shr .u64 (U x) i = U (x >>> i.toNat) := by
 unfold shr U
 rw [Nat.min_eq_left (by simp [IntKind.bits]; omega), BitVec.toNat_ushiftRight, Nat.shiftRight_eq_div_pow]
 simp
theorem one_U : (1 : Int) = U 1#64 := rfl
theorem bit_U (x : BitVec 64) (i : Nat) : (Go.bits .and .u64 (U (x >>> i)) 1 == 1) = x.getLsbD i := by
 rw [one_U, bits_and_U, U_eq, Bool.eq_iff_iff, beq_iff_eq]
 constructor
 ·intro h
  have := congrArg (fun z => z.getLsbD 0) h
  simpa using this
 ·intro h
  apply BitVec.eq_of_getLsbD_eq
  intro j hj
  rw [BitVec.getLsbD_and, BitVec.getLsbD_one, BitVec.getLsbD_ushiftRight]
  by_cases hz : j = 0
  ·subst hz; simp [h]
  ·simp [hz]
theorem bitn_U (x : BitVec 64) (i : Nat) : Go.bits .and .u64 (U (x >>> i)) 1 = (if x.getLsbD i = true then 1 else 0) := by
 have h := bit_U x i
 have hb : Go.bits .and .u64 (U (x >>> i)) 1 = 0 ∨ Go.bits .and .u64 (U (x >>> i)) 1 = 1 := by
  rw [one_U, bits_and_U]
  unfold U
  rw [BitVec.toNat_and]
  have : (x >>> i).toNat &&& (1#64).toNat ≤ 1 := Nat.and_le_right
  simp at this ⊢
  omega
 split
 ·rename_i hg; rw [hg] at h; exact eq_of_beq h
 ·rename_i hg
  rcases hb with hb | hb
  ·exact hb
  ·rw [hb] at h; exact absurd h.symm hg
/-- The word of the lowest bits. -/
def mask (n : Nat) : BitVec 64 := BitVec.ofNat 64 (2 ^ n - 1)
theorem mask_bit (n j : Nat) (hj : j < 64) : (mask n).getLsbD j = decide (j < n) := by
 unfold mask
 rw [BitVec.getLsbD_ofNat, Nat.testBit_two_pow_sub_one]
 simp [hj]
/-- How many of the first n bits are set. -/
def cnt (x : BitVec 64) : Nat → Nat
 | 0 => 0
 | n + 1 => cnt x n + (if x.getLsbD n = true then 1 else 0)
theorem cnt_le (x : BitVec 64) (n : Nat) : cnt x n ≤ n := by
 induction n with
 | zero => simp [cnt]
 | succ n ih => simp only [cnt]; split <;> omega
theorem cnt_mono (x : BitVec 64) {n m : Nat} (h : n ≤ m) : cnt x n ≤ cnt x m := by
 induction h with
 | refl => omega
 | step _ ih => simp only [cnt]; omega
theorem cnt_all (x : BitVec 64) (n : Nat) (h : ∀ j, j < n → x.getLsbD j = true) : cnt x n = n := by
 induction n with
 | zero => simp [cnt]
 | succ n ih => simp only [cnt]; rw [ih (fun j hj => h j (by omega)), if_pos (h n (by omega))]
theorem cnt_lt (x : BitVec 64) (n i : Nat) (hi : i < n) (h : x.getLsbD i = false) : cnt x n < n := by
 induction n with
 | zero => omega
 | succ n ih =>
  simp only [cnt]
  by_cases he : i = n
  ·subst he; rw [h]; have := cnt_le x i; simp; omega
  ·have := ih (by omega); split <;> omega
theorem cnt_congr (x y : BitVec 64) (n : Nat) (h : ∀ j, j < n → x.getLsbD j = y.getLsbD j) : cnt x n = cnt y n := by
 induction n with
 | zero => simp [cnt]
 | succ n ih => simp only [cnt]; rw [ih (fun j hj => h j (by omega)), h n (by omega)]
theorem cnt_set (x : BitVec 64) (n i : Nat) (hi : i < n) (hn : n ≤ 64) (h : x.getLsbD i = false) : cnt (x ||| BitVec.twoPow 64 i) n = cnt x n + 1 := by
 induction n with
 | zero => omega
 | succ n ih =>
  simp only [cnt, BitVec.getLsbD_or, BitVec.getLsbD_twoPow]
  by_cases he : i = n
  ·subst he
   rw [cnt_congr (x ||| BitVec.twoPow 64 i) x i (fun j hj => by simp [BitVec.getLsbD_or, BitVec.getLsbD_twoPow]; omega), h]
   simp; omega
  ·rw [ih (by omega) (by omega)]
   simp [he]; omega

/-- How many addresses a block of this prefix has. -/
def M (p : Int) : Int := 2 ^ (32 - p).toNat
theorem p_cases {p : Int} (h1 : 16 ≤ p) (h2 : p ≤ 32) : p = 16 ∨ p = 17 ∨ p = 18 ∨ p = 19 ∨ p = 20 ∨ p = 21 ∨ p = 22 ∨ p = 23 ∨ p = 24 ∨ p = 25 ∨ p = 26 ∨ p = 27 ∨ p = 28 ∨ p = 29 ∨ p = 30 ∨ p = 31 ∨ p = 32 := by omega
theorem M_bounds {p : Int} (h1 : 16 ≤ p) (h2 : p ≤ 32) : 1 ≤ M p ∧ M p ≤ 65536 := by
 rcases p_cases h1 h2 with rfl | rfl | rfl | rfl | rfl | rfl | rfl | rfl | rfl | rfl | rfl | rfl | rfl | rfl | rfl | rfl | rfl <;> decide
theorem M_fits {p B : Int} (h1 : 16 ≤ p) (h2 : p ≤ 32) (hB0 : 0 ≤ B) (hB1 : B ≤ 4294967295) (hm : B % M p = 0) : B + M p ≤ 4294967296 := by
 rcases p_cases h1 h2 with rfl | rfl | rfl | rfl | rfl | rfl | rfl | rfl | rfl | rfl | rfl | rfl | rfl | rfl | rfl | rfl | rfl
 ·rw [show M 16 = 65536 by decide] at *; omega
 ·rw [show M 17 = 32768 by decide] at *; omega
 ·rw [show M 18 = 16384 by decide] at *; omega
 ·rw [show M 19 = 8192 by decide] at *; omega
 ·rw [show M 20 = 4096 by decide] at *; omega
 ·rw [show M 21 = 2048 by decide] at *; omega
 ·rw [show M 22 = 1024 by decide] at *; omega
 ·rw [show M 23 = 512 by decide] at *; omega
 ·rw [show M 24 = 256 by decide] at *; omega
 ·rw [show M 25 = 128 by decide] at *; omega
 ·rw [show M 26 = 64 by decide] at *; omega
 ·rw [show M 27 = 32 by decide] at *; omega
 ·rw [show M 28 = 16 by decide] at *; omega
 ·rw [show M 29 = 8 by decide] at *; omega
 ·rw [show M 30 = 4 by decide] at *; omega
 ·rw [show M 31 = 2 by decide] at *; omega
 ·rw [show M 32 = 1 by decide] at *; omega
theorem wraps_u64 (n : Int) (h0 : 0 ≤ n) (h1 : n < 2 ^ 64) : IntKind.u64.wrap n = n := by rw [wrapu]; omega
theorem Many_eq (B : Int) {p : Int} (h1 : 16 ≤ p) (h2 : p ≤ 32) : block_Many.f B p = some (M p) := by
 have hb := M_bounds h1 h2
 unfold block_Many.f
 rw [w64 (x := 32 - p) (by omega) (by omega), wrapu_small (by omega) (by omega), if_pos (by omega)]
 unfold M at hb
 unfold shl M
 rw [Nat.min_eq_left (by simp [IntKind.bits]; omega), Int.one_mul, IntKind.wrap_i64]
 generalize (2 : Int) ^ (32 - p).toNat = q at *
 congr 1; omega
/-- May such a block be? -/
def bmay (B p : Int) : Bool := decide (16 ≤ p ∧ p ≤ 32 ∧ B % M p = 0)

theorem ref04Many_eq {p : Int} (h1 : 16 ≤ p) (h2 : p ≤ 32) {k : Nat} (hk : 20 ≤ k) : lodgerref04_Many.f k p = some (M p) := by
 rcases p_cases h1 h2 with rfl | rfl | rfl | rfl | rfl | rfl | rfl | rfl | rfl | rfl | rfl | rfl | rfl | rfl | rfl | rfl | rfl <;> exact at_rounds (fun k => lodgerref04_Many.mono _ k) hk (by decide +kernel)
theorem ref04May_eq {B p : Int} (hB0 : 0 ≤ B) (hB1 : B ≤ 4294967295) {k : Nat} (hk : 20 ≤ k) : lodgerref04_May.f k B p = some (bmay B p) := by
 unfold lodgerref04_May.f bmay
 by_cases c1 : p ≥ 16
 ·rw [if_pos c1]
  by_cases c2 : p ≤ 32
  ·have hb := M_bounds (p := p) (by omega) (by omega)
   rw [if_pos c2, ref04Many_eq (by omega) (by omega) hk, Option.bind_some, if_neg (by omega), w64 (by omega) (by omega), tm hB0]
   congr 1
   rw [Bool.eq_iff_iff, beq_iff_eq, decide_eq_true_eq]
   omega
  ·rw [if_neg c2, decide_eq_false (by omega)]
 ·rw [if_neg c1, decide_eq_false (by omega)]

theorem rd_mid (pre xs : List Int) (x : Int) : rd (pre ++ x :: xs) (pre.length : Int) = x := by simp [rd]

/-- Does a list rise, from behind a number on, below a bound? -/
def rises (last m : Int) : List Int → Bool
 | [] => true
 | x :: xs => decide (last < x) && decide (x < m) && rises x m xs
/-- What a configuration's numbers must be. -/
def chead (B p : Int) (l : List Int) (s w q t : Int) : Bool := decide (16 ≤ p ∧ p ≤ 32 ∧ B % M p = 0 ∧ (l.length : Int) ≤ 64 ∧ 1 ≤ s ∧ s ≤ 64 ∧ 1 ≤ w ∧ w ≤ 64 ∧ 1 ≤ q ∧ q ≤ 64 ∧ 1 ≤ t ∧ t ≤ 8)
/-- May such a configuration be? -/
def cmay (B p : Int) (l : List Int) (s w q t : Int) : Bool := chead B p l s w q t && rises (-1) (M p) l
theorem cmay_head {B p : Int} {l : List Int} {s w q t : Int} (h : cmay B p l s w q t = true) : 16 ≤ p ∧ p ≤ 32 ∧ B % M p = 0 ∧ (l.length : Int) ≤ 64 ∧ 1 ≤ s ∧ s ≤ 64 ∧ 1 ≤ w ∧ w ≤ 64 ∧ 1 ≤ q ∧ q ≤ 64 ∧ 1 ≤ t ∧ t ≤ 8 := by
 unfold cmay chead at h
 rw [Bool.and_eq_true, decide_eq_true_eq] at h
 exact h.1
theorem cmay_rises {B p : Int} {l : List Int} {s w q t : Int} (h : cmay B p l s w q t = true) : rises (-1) (M p) l = true := by
 unfold cmay at h
 rw [Bool.and_eq_true] at h
 exact h.2

theorem rises_bounds {last m : Int} {l : List Int} (h : rises last m l = true) : ∀ x ∈ l, last < x ∧ x < m := by
 induction l generalizing last with
 | nil => intro x hx; cases hx
 | cons y ys ih =>
  simp only [rises, Bool.and_eq_true, decide_eq_true_eq] at h
  intro x hx
  rcases List.mem_cons.1 hx with rfl | hx
  ·exact h.1
  ·have := ih h.2 x hx
   omega
theorem rises_drop {last m : Int} {xs ys : List Int} {y : Int} (h : rises last m (xs ++ y :: ys) = true) : rises last m (xs ++ ys) = true := by
 induction xs generalizing last with
 | nil =>
  simp only [List.nil_append, rises, Bool.and_eq_true, decide_eq_true_eq] at h ⊢
  cases ys with
  | nil => rfl
  | cons z zs =>
   simp only [rises, Bool.and_eq_true, decide_eq_true_eq] at h ⊢
   exact ⟨⟨by omega, h.2.1.2⟩, h.2.2⟩
 | cons x xs ih =>
  simp only [List.cons_append, rises, Bool.and_eq_true] at h ⊢
  exact ⟨h.1, ih h.2⟩
theorem rises_notin {last m : Int} {xs ys : List Int} {y : Int} (h : rises last m (xs ++ y :: ys) = true) : y ∉ xs ++ ys := by
 induction xs generalizing last with
 | nil =>
  simp only [List.nil_append, rises, Bool.and_eq_true, decide_eq_true_eq] at h ⊢
  intro hy
  have := rises_bounds h.2 y hy
  omega
 | cons x xs ih =>
  simp only [List.cons_append, rises, Bool.and_eq_true] at h ⊢
  have h1 := rises_bounds h.2 y (by simp)
  intro hy
  rcases List.mem_cons.1 hy with rfl | hy
  ·omega
  ·exact ih h.2 hy
/-- How many of a list lie below a number. -/
def below (l : List Int) (n : Int) : Nat := (l.filter (fun x => decide (x < n))).length
theorem below_le (l : List Int) (n : Int) : below l n ≤ l.length := List.length_filter_le _ _
theorem below_all {l : List Int} {n : Int} (h : ∀ x ∈ l, x < n) : below l n = l.length := by
 unfold below
 rw [List.filter_eq_self.2 (fun x hx => by simpa using h x hx)]
theorem below_none {l : List Int} {n : Int} (h : ∀ x ∈ l, n ≤ x) : below l n = 0 := by
 unfold below
 rw [List.filter_eq_nil_iff.2 (fun x hx => by have := h x hx; simp; omega)]; rfl
theorem below_succ {last m : Int} {l : List Int} (h : rises last m l = true) (n : Int) : below l (n + 1) = below l n + (if n ∈ l then 1 else 0) := by
 induction l generalizing last with
 | nil => simp [below]
 | cons x xs ih =>
  simp only [rises, Bool.and_eq_true, decide_eq_true_eq] at h
  have h2 := ih h.2
  have hb := rises_bounds h.2
  unfold below at h2 ⊢
  simp only [List.filter_cons]
  by_cases c1 : x < n
  ·have : ¬ n = x := by omega
   simp only [show x < n + 1 by omega, c1, decide_true, if_true, List.length_cons, List.mem_cons, this, false_or]
   omega
  ·by_cases c2 : x = n
   ·subst c2
    have hn : x ∉ xs := fun hx => by have := (hb x hx).1; omega
    simp only [show x < x + 1 by omega, show ¬ x < x by omega, decide_true, decide_false, if_true, List.length_cons, List.mem_cons, true_or, if_neg hn] at h2 ⊢
    simp; omega
   ·have : ¬ n = x := fun e => c2 e.symm
    simp only [show ¬ x < n + 1 by omega, c1, decide_false, List.mem_cons, this, false_or]
    simpa using h2

theorem ref05Many_eq (B : Int) {p : Int} (h1 : 16 ≤ p) (h2 : p ≤ 32) {k : Nat} (hk : 20 ≤ k) : lodgerref05_Many.f k B p = some (M p) := by
 unfold lodgerref05_Many.f; rw [ref04Many_eq h1 h2 hk]; rfl

theorem refMay_l0 (B p : Int) (l : List Int) (s w q t : Int) (hl : l.length ≤ maxLen) (h1 : 16 ≤ p) (h2 : p ≤ 32) : ∀ (xs pre : List Int) (last : Int) (k : Nat), l = pre ++ xs → (pre = [] ∧ last = -1 ∨ (∃ pr, pre = pr ++ [last]) ∧ 0 ≤ last) → xs.length + 30 < k →
  lodgerref05_May.l0 k (pre.length : Int) B p l s w q t = some (rises last (M p) xs) := by
 unfold maxLen at hl
 intro xs
 induction xs with
 | nil =>
  intro pre last k hp hpre hk
  obtain ⟨k, rfl⟩ : ∃ m, k = m + 1 := ⟨k - 1, by omega⟩
  simp only [lodgerref05_May.l0]; rw [if_neg (by rw [hp]; simp)]; rfl
 | cons x xs ih =>
  intro pre last k hp hpre hk
  simp only [List.length_cons] at hk
  obtain ⟨k, rfl⟩ : ∃ m, k = m + 1 := ⟨k - 1, by omega⟩
  have hlt : pre.length < l.length := by rw [hp]; simp
  simp only [lodgerref05_May.l0, rises]
  have hx : rd l (pre.length : Int) = x := by rw [hp]; exact rd_mid ..
  rw [if_pos (by omega), if_pos (by omega), hx]
  by_cases c1 : x < 0
  ·rw [if_pos c1, decide_eq_false (p := last < x) (by rcases hpre with ⟨_, h⟩ | ⟨_, h⟩ <;> omega)]; rfl
  rw [if_neg c1, ref05Many_eq B h1 h2 (by omega), Option.bind_some]
  by_cases c2 : x ≥ M p
  ·rw [if_pos c2, decide_eq_false (p := x < M p) (by omega)]; simp
  have h := ih (pre ++ [x]) x k (by rw [hp]; simp) (.inr ⟨⟨pre, rfl⟩, by omega⟩) (by omega)
  simp only [List.length_append, List.length_cons, List.length_nil, Nat.zero_add, Int.natCast_add, Int.natCast_one] at h
  rw [if_neg c2, decide_eq_true (p := x < M p) (by omega), w64 (x := (pre.length : Int) + 1) (by omega) (by omega), h]
  rcases hpre with ⟨rfl, rfl⟩ | ⟨⟨pr, rfl⟩, h0⟩
  ·rw [if_neg (by simp), decide_eq_true (p := -1 < x) (by omega)]; rfl
  ·have hy : rd l (((pr ++ [last]).length : Int) - 1) = last := by
    rw [hp]; simp [rd]
   have hl1 : (pr ++ [last]).length = pr.length + 1 := by simp
   rw [if_pos (by omega), w64 (by omega) (by omega), if_pos (by omega), if_pos (by omega), hy]
   by_cases c3 : x ≤ last
   ·rw [if_pos c3, decide_eq_false (p := last < x) (by omega)]; rfl
   ·rw [if_neg c3, decide_eq_true (p := last < x) (by omega)]; rfl
theorem ref05May_eq {B p : Int} (l : List Int) (s w q t : Int) (hl : l.length ≤ maxLen) (hB0 : 0 ≤ B) (hB1 : B ≤ 4294967295) {k : Nat} (hk : l.length + 40 < k) : lodgerref05_May.f k B p l s w q t = some (cmay B p l s w q t) := by
 obtain ⟨k, rfl⟩ : ∃ m, k = m + 1 := ⟨k - 1, by omega⟩
 have hj : lodgerref05_May.j0 (k + 1) true B p l s w q t = some false := by simp only [lodgerref05_May.j0, ↓reduceIte]
 unfold lodgerref05_May.f cmay
 rw [ref04May_eq hB0 hB1 (by omega), Option.bind_some]
 by_cases h : chead B p l s w q t = true
 ·have h' := h
  unfold chead at h'
  rw [decide_eq_true_eq] at h'
  have hb : bmay B p = true := by unfold bmay; rw [decide_eq_true_eq]; omega
  rw [h, hb, if_pos rfl, if_neg (by omega), if_neg (by omega), if_neg (by omega), if_neg (by omega), if_neg (by omega), if_neg (by omega), if_neg (by omega), if_neg (by omega), decide_eq_false (p := t > 8) (by omega)]
  simp only [lodgerref05_May.j0]
  rw [if_neg (by simp)]
  have := refMay_l0 B p l s w q t hl (by omega) (by omega) l [] (-1) k rfl (.inl ⟨rfl, rfl⟩) (by omega)
  rw [show (([] : List Int).length : Int) = 0 from rfl] at this
  rw [this]; rfl
 ·rw [Bool.not_eq_true] at h
  rw [h, hj]
  by_cases hb : bmay B p = true
  ·rw [hb, if_pos rfl]
   have hb' := hb
   unfold bmay at hb'
   rw [decide_eq_true_eq] at hb'
   unfold chead at h
   rw [decide_eq_false_iff_not] at h
   by_cases c1 : (l.length : Int) > 64
   ·rw [if_pos c1]; rfl
   rw [if_neg c1]
   by_cases c2 : s < 1
   ·rw [if_pos c2]; rfl
   rw [if_neg c2]
   by_cases c3 : s > 64
   ·rw [if_pos c3]; rfl
   rw [if_neg c3]
   by_cases c4 : w < 1
   ·rw [if_pos c4]; rfl
   rw [if_neg c4]
   by_cases c5 : w > 64
   ·rw [if_pos c5]; rfl
   rw [if_neg c5]
   by_cases c6 : q < 1
   ·rw [if_pos c6]; rfl
   rw [if_neg c6]
   by_cases c7 : q > 64
   ·rw [if_pos c7]; rfl
   rw [if_neg c7]
   by_cases c8 : t < 1
   ·rw [if_pos c8]; rfl
   rw [if_neg c8, decide_eq_true (p := t > 8) (by omega), hj]; rfl
  ·rw [if_neg hb]; rfl

theorem refLeaves_l0 {n : Int} (h0 : 0 ≤ n) (h1 : n ≤ 100000) (d : Nat) : ∀ (k : Nat) (i : Int), 0 ≤ i → i ≤ (n + 31) / 32 → (n + 31) / 32 - i = d → d < k → lodgerref06_Leaves.l0 k n i = some ((n + 31) / 32) := by
 induction d with
 | zero =>
  intro k i hi0 hi1 hd hk
  obtain ⟨k, rfl⟩ : ∃ m, k = m + 1 := ⟨k - 1, by omega⟩
  simp only [lodgerref06_Leaves.l0]; rw [w64 (x := 32 * i) (by omega) (by omega), if_neg (by omega)]; congr 1; omega
 | succ d ih =>
  intro k i hi0 hi1 hd hk
  obtain ⟨k, rfl⟩ : ∃ m, k = m + 1 := ⟨k - 1, by omega⟩
  simp only [lodgerref06_Leaves.l0]; rw [w64 (x := 32 * i) (by omega) (by omega), if_pos (by omega), w64 (by omega) (by omega)]
  exact ih k (i + 1) (by omega) (by omega) (by omega) (by omega)
theorem refLeaves {n : Int} (h0 : 0 ≤ n) (h1 : n ≤ 100000) {k : Nat} (hk : 4000 ≤ k) : lodgerref06_Leaves.f k n = some ((n + 31) / 32) := by
 unfold lodgerref06_Leaves.f
 exact refLeaves_l0 h0 h1 ((n + 31) / 32).toNat k 0 (by omega) (by omega) (by omega) (by omega)

theorem refTops_l0 {n : Int} (h0 : 0 ≤ n) (h1 : n ≤ 100000) (d : Nat) : ∀ (k : Nat) (i : Int), 0 ≤ i → i ≤ ((n + 31) / 32 + 63) / 64 → ((n + 31) / 32 + 63) / 64 - i = d → d + 4000 < k → lodgerref06_Tops.l0 k n i = some (((n + 31) / 32 + 63) / 64) := by
 induction d with
 | zero =>
  intro k i hi0 hi1 hd hk
  obtain ⟨k, rfl⟩ : ∃ m, k = m + 1 := ⟨k - 1, by omega⟩
  simp only [lodgerref06_Tops.l0]; rw [refLeaves h0 h1 (by omega), Option.bind_some, w64 (x := 64 * i) (by omega) (by omega), if_neg (by omega)]; congr 1; omega
 | succ d ih =>
  intro k i hi0 hi1 hd hk
  obtain ⟨k, rfl⟩ : ∃ m, k = m + 1 := ⟨k - 1, by omega⟩
  simp only [lodgerref06_Tops.l0]; rw [refLeaves h0 h1 (by omega), Option.bind_some, w64 (x := 64 * i) (by omega) (by omega), if_pos (by omega), w64 (by omega) (by omega)]
  exact ih k (i + 1) (by omega) (by omega) (by omega) (by omega)
theorem refTops {n : Int} (h0 : 0 ≤ n) (h1 : n ≤ 100000) {k : Nat} (hk : 5000 ≤ k) : lodgerref06_Tops.f k n = some (((n + 31) / 32 + 63) / 64) := by
 unfold lodgerref06_Tops.f
 exact refTops_l0 h0 h1 (((n + 31) / 32 + 63) / 64).toNat k 0 (by omega) (by omega) (by omega) (by omega)

theorem refCells {n : Int} (h0 : 0 ≤ n) (h1 : n ≤ 100000) {k : Nat} (hk : 5000 ≤ k) : lodgerref06_Cells.f k n = some ((n + 31) / 32 + ((n + 31) / 32 + 63) / 64 + 1) := by
 unfold lodgerref06_Cells.f; rw [refLeaves h0 h1 (by omega), Option.bind_some, refTops h0 h1 hk, Option.bind_some, w64 (x := (n + 31) / 32 + ((n + 31) / 32 + 63) / 64) (by omega) (by omega), w64 (by omega) (by omega)]

theorem refFits_eq {B p : Int} (H : List Int) (s w q t : Int) (hH : H.length ≤ maxLen) (hB0 : 0 ≤ B) (hB1 : B ≤ 4294967295) (l : List Int) {k : Nat} (hk : H.length + 5000 < k) :
  lodgerref08_Fits.f k B p H s w q t l = some (cmay B p H s w q t && (decide (M p ≤ 4096) && decide ((l.length : Int) = (M p + 31) / 32 + ((M p + 31) / 32 + 63) / 64 + 1))) := by
 unfold lodgerref08_Fits.f
 rw [ref05May_eq H s w q t hH hB0 hB1 (by omega), Option.bind_some]
 cases hc : cmay B p H s w q t with
 | false => rw [if_neg (by simp), Bool.false_and]
 | true =>
  obtain ⟨h1, h2, h3, h4, h5⟩ := cmay_head hc
  have hb := M_bounds h1 h2
  rw [if_pos rfl, ref05Many_eq B h1 h2 (by omega), Option.bind_some, Bool.true_and]
  by_cases c : M p ≤ 4096
  ·rw [if_pos c, Option.bind_some, refCells (by omega) (by omega) (by omega), Option.bind_some, decide_eq_true c, Bool.true_and]; rfl
  ·rw [if_neg c, decide_eq_false c, Bool.false_and]

/-- Cells of which one is another one, if it is there. -/
def st (l : List Int) (i v : Int) : List Int := if 0 ≤ i ∧ i < (l.length : Int) then l.set i.toNat v else l
/-- What a cell holds. -/
def ld (l : List Int) (i : Int) : Int := if 0 ≤ i ∧ i < (l.length : Int) then rd l i else 0
theorem st_len (l : List Int) (i v : Int) : (st l i v).length = l.length := by unfold st; split <;> simp
theorem st_in {l : List Int} {i : Int} (h0 : 0 ≤ i) (h1 : i < (l.length : Int)) (v : Int) : st l i v = l.set i.toNat v := by unfold st; rw [if_pos ⟨h0, h1⟩]
theorem st_out {l : List Int} {i : Int} (h : i < 0 ∨ (l.length : Int) ≤ i) (v : Int) : st l i v = l := by unfold st; rw [if_neg (by omega)]
theorem ld_in {l : List Int} {i : Int} (h0 : 0 ≤ i) (h1 : i < (l.length : Int)) : ld l i = rd l i := by unfold ld; rw [if_pos ⟨h0, h1⟩]
theorem ld_out {l : List Int} {i : Int} (h : i < 0 ∨ (l.length : Int) ≤ i) : ld l i = 0 := by unfold ld; rw [if_neg (by omega)]
theorem rd_get {l : List Int} {i : Int} (h0 : 0 ≤ i) (h1 : i < (l.length : Int)) : rd l i = l[i.toNat]'(by omega) := by
 have : i.toNat < l.length := by omega
 simp [rd, List.getD_eq_getElem?_getD, this]
theorem rd_set_same {l : List Int} {i : Int} (h0 : 0 ≤ i) (h1 : i < (l.length : Int)) (v : Int) : rd (l.set i.toNat v) i = v := by
 have : i.toNat < l.length := by omega
 simp [rd, List.getD_eq_getElem?_getD, this]
theorem rd_set_ne {l : List Int} {i j : Int} (h0 : 0 ≤ i) (h1 : 0 ≤ j) (h : i ≠ j) (v : Int) : rd (l.set i.toNat v) j = rd l j := by
 have : i.toNat ≠ j.toNat := by omega
 simp [rd, List.getD_eq_getElem?_getD, List.getElem?_set, this]
theorem set_back {l : List Int} {i : Int} (h0 : 0 ≤ i) (h1 : i < (l.length : Int)) (v : Int) : (l.set i.toNat v).set i.toNat (rd l i) = l := by
 rw [List.set_set, rd_get h0 h1]; simp

theorem Is_eq (l : List Int) (i : Int) : cells_is.f l i = some (decide (0 ≤ i ∧ i < (l.length : Int))) := by
 unfold cells_is.f
 by_cases h : i ≥ 0
 ·rw [if_pos h]; congr 1; rw [Bool.eq_iff_iff, decide_eq_true_eq, decide_eq_true_eq]; omega
 ·rw [if_neg h, decide_eq_false (by omega)]
theorem Load_eq (l : List Int) (i : Int) : cells_Load.f l i = some (ld l i) := by
 unfold cells_Load.f ld
 rw [Is_eq, Option.bind_some]
 by_cases h : 0 ≤ i ∧ i < (l.length : Int)
 ·rw [decide_eq_true h, if_pos rfl, if_pos h.1, if_pos h.2, if_pos h]
 ·rw [decide_eq_false h, if_neg (by simp), if_neg h]

theorem From_eq {p a b : Int} (h : 1 ≤ p) (h0 : 0 ≤ a) (h1 : 0 ≤ b) (h2 : a ≤ 1000000000000) (h3 : b ≤ 1000000000000) : shard_From.f p a b = some ((a + b) % p) := by
 unfold shard_From.f; rw [if_neg (by omega), w64 (by omega) (by omega), tm (by omega)]
theorem divb {x p : Int} (h0 : 0 ≤ x) (h1 : 1 ≤ p) : 0 ≤ x / p ∧ x / p ≤ x := ⟨Int.ediv_nonneg h0 (by omega), Int.ediv_le_self _ h0⟩
theorem up32 {n : Int} (h0 : 0 ≤ n) (h1 : n ≤ 1000000000000) : place_up_int.f n 32 = some ((n + 31) / 32) := by
 unfold place_up_int.f
 rw [if_neg (by omega), w64 (x := n + 32) (by omega) (by omega), w64 (x := n + 32 - 1) (by omega) (by omega), td (by omega), w64 (by omega) (by omega)]
 congr 1; omega
theorem Leaves_eq {n : Int} (h0 : 0 ≤ n) (h1 : n ≤ 1000000000000) : place_Leaves.f n = some ((n + 31) / 32) := by
 unfold place_Leaves.f; rw [up32 h0 h1]; rfl
theorem Range_eq {n p s : Int} (h0 : 0 ≤ n) (h1 : n ≤ 65536) (h2 : 1 ≤ p) (h3 : 0 ≤ s) (h4 : s ≤ 1000000) : shard_Range.f n p s = some (s * ((n + 31) / 32) / p, (s + 1) * ((n + 31) / 32) / p) := by
 unfold shard_Range.f
 rw [Leaves_eq h0 (by omega), Option.bind_some, if_neg (by omega)]
 have l0 : 0 ≤ (n + 31) / 32 := by omega
 have l1 : (n + 31) / 32 ≤ 10000 := by omega
 generalize (n + 31) / 32 = L at *
 have a0 : 0 ≤ s * L := Int.mul_nonneg h3 l0
 have a1 : s * L ≤ 1000000 * 10000 := Int.mul_le_mul h4 l1 l0 (by omega)
 have b0 : 0 ≤ (s + 1) * L := Int.mul_nonneg (by omega) l0
 have b1 : (s + 1) * L ≤ 1000001 * 10000 := Int.mul_le_mul (by omega) l1 l0 (by omega)
 have c := divb a0 h2
 have d := divb b0 h2
 rw [w64 (x := s * L) (by omega) (by omega), w64 (x := s + 1) (by omega) (by omega), w64 (x := (s + 1) * L) (by omega) (by omega), td a0, td b0, w64 (by omega) (by omega), w64 (by omega) (by omega)]

theorem up64 {n : Int} (h0 : 0 ≤ n) (h1 : n ≤ 1000000000000) : place_up_int.f n 64 = some ((n + 63) / 64) := by
 unfold place_up_int.f
 rw [if_neg (by omega), w64 (x := n + 64) (by omega) (by omega), w64 (x := n + 64 - 1) (by omega) (by omega), td (by omega), w64 (by omega) (by omega)]
 congr 1; omega
theorem Tops_eq {n : Int} (h0 : 0 ≤ n) (h1 : n ≤ 1000000000000) : place_Tops.f n = some (((n + 31) / 32 + 63) / 64) := by
 unfold place_Tops.f; rw [Leaves_eq h0 h1, Option.bind_some, up64 (by omega) (by omega)]; rfl
theorem Cells_eq {n : Int} (h0 : 0 ≤ n) (h1 : n ≤ 1000000000000) : place_Cells.f n = some ((n + 31) / 32 + ((n + 31) / 32 + 63) / 64 + 1) := by
 unfold place_Cells.f; rw [Leaves_eq h0 h1, Option.bind_some, Tops_eq h0 h1, Option.bind_some, w64 (x := (n + 31) / 32 + _) (by omega) (by omega), w64 (by omega) (by omega)]

/-- Is a bit set? (the word's) -/
theorem Has_b (w i : Int) : bits_Has.f w i = some (hasb_ w i) := by
 unfold bits_Has.f hasb_; rw [if_pos (by rw [wrapu]; omega)]
/-- A top that is worth a look: -/
def gt_ (wd lo hi t : Int) : Bool := decide (t * 64 < hi) && (decide (lo < hi) && !hasb_ wd t)
/-- the next one; 2: none. -/
def nt (wd lo hi t : Int) : Int := if t ≤ 0 ∧ gt_ wd lo hi 0 = true then 0 else if t ≤ 1 ∧ gt_ wd lo hi 1 = true then 1 else 2
theorem nt_step {wd lo hi t : Int} (h0 : 0 ≤ t) (h1 : t ≤ 1) : nt wd lo hi t = if gt_ wd lo hi t = true then t else nt wd lo hi (t + 1) := by
 unfold nt
 obtain rfl | rfl : t = 0 ∨ t = 1 := by omega
 ·by_cases c : gt_ wd lo hi 0 = true
  ·rw [if_pos ⟨by omega, c⟩, if_pos c]
  ·rw [if_neg (by simp [c]), if_neg c, if_neg (by omega : ¬ ((0 : Int) + 1 ≤ 0 ∧ _))]; simp
 ·by_cases c : gt_ wd lo hi 1 = true
  ·rw [if_neg (by omega), if_pos ⟨by omega, c⟩, if_pos c]
  ·rw [if_neg (by omega), if_neg (by simp [c]), if_neg c, if_neg (by omega), if_neg (by omega)]
theorem nt_stop {wd lo hi t : Int} (h0 : 0 ≤ t) (h2 : ¬ (t * 64 < hi ∧ lo < hi)) : nt wd lo hi t = 2 := by
 unfold nt gt_
 rw [if_neg (by simp only [Bool.and_eq_true, decide_eq_true_eq]; omega), if_neg (by simp only [Bool.and_eq_true, decide_eq_true_eq]; omega)]
def fin_ {α : Type} (a b c : α) (wd lo hi t s so : Int) : α := if nt wd lo hi t < 2 then a else if so + 1 ≥ s then b else c
theorem further_l0 {B p : Int} {H : List Int} {s w q tr : Int} (x0 : Int) (x1 : Int) (x2 : Int) (x3 : Int) (x4 : Int) (x5 : Bool) (x6 : Int) (x7 : Int) (x8 : Int) (x9 : Int) (x10 : Int) (x11 : Int) (x12 : Int) (x13 : Int) (x14 : Bool) (x15 : Int) (x16 : Int) (x17 : Int) (x18 : Int) (x19 : Int) (hs : s ≤ 64) (h10 : 0 ≤ x10) (h10' : x10 ≤ 1000) {lo hi : Int} (hhi : hi ≤ 128) : ∀ (d : Nat) (t : Int) (k : Nat), 0 ≤ t → 2 - t = d → 2 * d + 2 ≤ k → seek_further.l0 k t lo hi B p H s w q tr x0 x1 x2 x3 x4 x5 x6 x7 x8 x9 x10 x11 x12 x13 x14 x15 x16 x17 x18 x19 =
  some (fin_ (x0, x1, x2, x3, x4, x5, x6, x7, x8, x9, x10, x11, x12, x13, x14, x15, nt x13 lo hi t + 1, x17, x18, x19) (x0, x1, x2, x3, x4, x5, x6, x7, 6, x9, x10 + 1, x11, x12, 0, x14, 0, 0, x17, x18, x19) (x0, x1, x2, x3, x4, x5, x6, x7, x8, x9, x10 + 1, x11, x12, 0, x14, x15, 0, x17, x18, x19) x13 lo hi t s x10) := by
 intro d
 induction d with
 | zero =>
  intro t k h0 hd hk
  obtain ⟨k, rfl⟩ : ∃ m, k = m + 2 := ⟨k - 2, by omega⟩
  have hstop : nt x13 lo hi t = 2 := nt_stop h0 (by omega)
  simp only [seek_further.l0, seek_further.j1]
  rw [w64 (x := t * 64) (by omega) (by omega), if_neg (by omega), if_neg (by simp), w64 (x := x10 + 1) (by omega) (by omega)]
  unfold fin_; rw [hstop, if_neg (by omega : ¬ (2 : Int) < 2)]; split <;> rfl
 | succ d ih =>
  intro t k h0 hd hk
  obtain ⟨k, rfl⟩ : ∃ m, k = m + 2 := ⟨k - 2, by omega⟩
  simp only [seek_further.l0, seek_further.j1]
  rw [w64 (x := t * 64) (by omega) (by omega), w64 (x := t + 1) (by omega) (by omega), w64 (x := x10 + 1) (by omega) (by omega)]
  by_cases c : t * 64 < hi ∧ lo < hi
  ·rw [if_pos c.1, if_pos (decide_eq_true c.2), Has_b, Option.bind_some]
   have hn := nt_step (wd := x13) (lo := lo) (hi := hi) h0 (by omega)
   by_cases cb : hasb_ x13 t = true
   ·rw [if_pos cb, ih (t + 1) k (by omega) (by omega) (by omega)]
    unfold fin_; rw [hn, if_neg (by simp [gt_, cb] : ¬ gt_ x13 lo hi t = true)]
   ·rw [if_neg cb]; unfold fin_
    rw [if_pos (show gt_ x13 lo hi t = true by simp [gt_, cb, c.1, c.2])] at hn
    rw [hn, if_pos (by omega : t < 2)]
  ·have hstop : nt x13 lo hi t = 2 := nt_stop h0 c
   have e : seek_further.j1 (k + 1) t lo hi (decide (lo < hi)) B p H s w q tr x0 x1 x2 x3 x4 x5 x6 x7 x8 x9 x10 x11 x12 x13 x14 x15 x16 x17 x18 x19 = seek_further.j1 (k + 1) t lo hi (decide (lo < hi)) B p H s w q tr x0 x1 x2 x3 x4 x5 x6 x7 x8 x9 x10 x11 x12 x13 x14 x15 x16 x17 x18 x19 := rfl
   unfold fin_; rw [hstop, if_neg (by omega : ¬ (2 : Int) < 2)]
   by_cases c1 : t * 64 < hi
   ·rw [if_pos c1, if_neg (by simp; omega)]; split <;> rfl
   ·rw [if_neg c1, if_neg (by simp)]; split <;> rfl

theorem mul_b {i L s : Int} (h0 : 0 ≤ i) (h1 : i ≤ s) (hs : s ≤ 64) (l0 : 0 ≤ L) (l1 : L ≤ 128) : 0 ≤ i * L ∧ i * L ≤ s * L ∧ i * L ≤ 8192 := by
 have a := Int.mul_nonneg h0 l0
 have b : i * L ≤ s * L := Int.mul_le_mul_of_nonneg_right h1 l0
 have c : i * L ≤ 64 * 128 := Int.mul_le_mul (by omega) l1 l0 (by omega)
 exact ⟨a, b, by omega⟩
/-- a shard's first leaf -/
def lo_ (L s j : Int) : Int := j * L / s
theorem lo_b {L s j : Int} (h0 : 0 ≤ j) (h1 : j ≤ s) (s1 : 1 ≤ s) (s2 : s ≤ 64) (l0 : 0 ≤ L) (l1 : L ≤ 128) : 0 ≤ lo_ L s j ∧ lo_ L s j ≤ L := by
 have m := mul_b h0 h1 s2 l0 l1
 refine ⟨Int.ediv_nonneg m.1 (by omega), ?_⟩
 unfold lo_
 have : j * L / s ≤ s * L / s := Int.ediv_le_ediv (by omega) m.2.1
 rwa [Int.mul_ediv_cancel_left _ (by omega)] at this
theorem leaves_eq {B p : Int} {H : List Int} {s w q tr : Int} (x0 : Int) (x1 : Int) (x2 : Int) (x3 : Int) (x4 : Int) (x5 : Bool) (x6 : Int) (x7 : Int) (x8 : Int) (x9 : Int) (x10 : Int) (x11 : Int) (x12 : Int) (x13 : Int) (x14 : Bool) (x15 : Int) (x16 : Int) (x17 : Int) (x18 : Int) (x19 : Int) (p1 : 16 ≤ p) (p2 : p ≤ 32) (s1 : 1 ≤ s) (s2 : s ≤ 64) (a0 : 0 ≤ x9) (a1 : x9 ≤ 1000) (b0 : 0 ≤ x10) (b1 : x10 ≤ 1000) : seek_leaves.f B p H s w q tr x0 x1 x2 x3 x4 x5 x6 x7 x8 x9 x10 x11 x12 x13 x14 x15 x16 x17 x18 x19 =
  some (lo_ ((M p + 31) / 32) s ((x9 + x10) % s), lo_ ((M p + 31) / 32) s ((x9 + x10) % s + 1)) := by
 have hm := M_bounds p1 p2
 have hj := Int.emod_lt_of_pos (x9 + x10) (show 0 < s by omega)
 have hj0 := Int.emod_nonneg (x9 + x10) (show s ≠ 0 by omega)
 unfold seek_leaves.f
 rw [Many_eq B p1 p2, Option.bind_some, From_eq s1 a0 b0 (by omega) (by omega), Option.bind_some, Range_eq (by omega) hm.2 s1 hj0 (by omega), Option.bind_some]
 rfl
theorem Find_l0 (wd up : Int) (ht : up ≤ 100) : ∀ (d : Nat) (b : Int) (k : Nat), 0 ≤ b → up - b ≤ d → d < k → ∃ r ok, hint_Find.l0 k wd up b = some (r, ok) ∧
  (ok = true ∧ b ≤ r ∧ r < up ∧ hasb_ wd r = false ∧ (∀ c, b ≤ c → c < r → hasb_ wd c = true) ∨ ok = false ∧ ∀ c, b ≤ c → c < up → hasb_ wd c = true) := by
 intro d
 induction d with
 | zero =>
  intro b k h0 hd hk
  obtain ⟨k, rfl⟩ : ∃ m, k = m + 1 := ⟨k - 1, by omega⟩
  refine ⟨0, false, ?_, Or.inr ⟨rfl, fun c _ _ => by omega⟩⟩
  simp only [hint_Find.l0]; rw [if_neg (by omega)]
 | succ d ih =>
  intro b k h0 hd hk
  obtain ⟨k, rfl⟩ : ∃ m, k = m + 1 := ⟨k - 1, by omega⟩
  simp only [hint_Find.l0]
  by_cases c : b < up
  ·rw [if_pos c, Has_b, Option.bind_some]
   by_cases cb : hasb_ wd b = true
   ·rw [if_pos cb, w64 (by omega) (by omega)]
    obtain ⟨r, ok, h1, h2⟩ := ih (b + 1) k (by omega) (by omega) (by omega)
    refine ⟨r, ok, h1, ?_⟩
    rcases h2 with ⟨e, h3, h4, h5, h6⟩ | ⟨e, h3⟩
    ·refine Or.inl ⟨e, by omega, h4, h5, fun c hc1 hc2 => ?_⟩
     by_cases e : c = b
     ·rw [e]; exact cb
     ·exact h6 c (by omega) hc2
    ·refine Or.inr ⟨e, fun c hc1 hc2 => ?_⟩
     by_cases e : c = b
     ·rw [e]; exact cb
     ·exact h3 c (by omega) hc2
   ·rw [if_neg cb]
    exact ⟨b, true, rfl, Or.inl ⟨rfl, by omega, c, by simpa using cb, fun c _ _ => by omega⟩⟩
  ·rw [if_neg c]
   exact ⟨0, false, rfl, Or.inr ⟨rfl, fun c _ _ => by omega⟩⟩
theorem further_eq {B p : Int} {H : List Int} {s w q tr : Int} (x0 : Int) (x1 : Int) (x2 : Int) (x3 : Int) (x4 : Int) (x5 : Bool) (x6 : Int) (x7 : Int) (x8 : Int) (x9 : Int) (x10 : Int) (x11 : Int) (x12 : Int) (x13 : Int) (x14 : Bool) (x15 : Int) (x16 : Int) (x17 : Int) (x18 : Int) (x19 : Int) (p1 : 16 ≤ p) (p2 : p ≤ 32) (hM : M p ≤ 4096) (s1 : 1 ≤ s) (s2 : s ≤ 64) (a0 : 0 ≤ x9) (a1 : x9 ≤ 1000) (b0 : 0 ≤ x10) (b1 : x10 ≤ 1000) {t lo hi : Int} (t0 : 0 ≤ t) (t1 : t ≤ 2) (hlo : lo_ ((M p + 31) / 32) s ((x9 + x10) % s) = lo)
  (hhi : lo_ ((M p + 31) / 32) s ((x9 + x10) % s + 1) = hi) {k : Nat} (hk : 10 ≤ k) : seek_further.f k B p H s w q tr x0 x1 x2 x3 x4 x5 x6 x7 x8 x9 x10 x11 x12 x13 x14 x15 x16 x17 x18 x19 t = some (fin_ (x0, x1, x2, x3, x4, x5, x6, x7, x8, x9, x10, x11, x12, x13, x14, x15, nt x13 lo hi (mx t (lo / 64)) + 1, x17, x18, x19) (x0, x1, x2, x3, x4, x5, x6, x7, 6, x9, x10 + 1, x11, x12, 0, x14, 0, 0, x17, x18, x19) (x0, x1, x2, x3, x4, x5, x6, x7, x8, x9, x10 + 1, x11, x12, 0, x14, x15, 0, x17, x18, x19) x13 lo hi (mx t (lo / 64)) s x10) := by
 have hm := M_bounds p1 p2
 have hj := Int.emod_lt_of_pos (x9 + x10) (show 0 < s by omega)
 have hj0 := Int.emod_nonneg (x9 + x10) (show s ≠ 0 by omega)
 have c1 := lo_b (L := (M p + 31) / 32) hj0 (Int.le_of_lt hj) s1 s2 (by omega) (by omega)
 have c2 := lo_b (L := (M p + 31) / 32) (j := (x9 + x10) % s + 1) (by omega) (by omega) s1 s2 (by omega) (by omega)
 unfold seek_further.f
 rw [leaves_eq x0 x1 x2 x3 x4 x5 x6 x7 x8 x9 x10 x11 x12 x13 x14 x15 x16 x17 x18 x19 p1 p2 s1 s2 a0 a1 b0 b1, Option.bind_some]
 simp only [hlo, hhi] at *
 rw [if_pos (by omega), td (by omega), w64 (x := lo / 64) (by omega) (by omega)]
 have h1 : 0 ≤ mx t (lo / 64) ∧ mx t (lo / 64) ≤ 2 := by unfold mx; split <;> omega
 generalize mx t (lo / 64) = u at *
 exact further_l0 x0 x1 x2 x3 x4 x5 x6 x7 x8 x9 x10 x11 x12 x13 x14 x15 x16 x17 x18 x19 s2 b0 b1 (by omega) (2 - u).toNat u k h1.1 (by omega) (by omega)
theorem Step_0 {B p : Int} {H : List Int} {s w q tr : Int} (x0 : Int) (x1 : Int) (x2 : Int) (x3 : Int) (x4 : Int) (x5 : Bool) (x6 : Int) (x7 : Int) (x8 : Int) (x9 : Int) (x10 : Int) (x11 : Int) (x12 : Int) (x13 : Int) (x14 : Bool) (x15 : Int) (x16 : Int) (x17 : Int) (x18 : Int) (x19 : Int) (l : List Int) (p1 : 16 ≤ p) (p2 : p ≤ 32) (hM : M p ≤ 4096) (s1 : 1 ≤ s) (s2 : s ≤ 64) (a0 : 0 ≤ x9) (a1 : x9 ≤ 1000) (b0 : 0 ≤ x10) (b1 : x10 ≤ 1000) {lo hi wd : Int} (hlo : lo_ ((M p + 31) / 32) s ((x9 + x10) % s) = lo)
  (hhi : lo_ ((M p + 31) / 32) s ((x9 + x10) % s + 1) = hi) (hat : x16 = 0) (hwd : ld l ((M p + 31) / 32 + ((M p + 31) / 32 + 63) / 64) = wd) {k : Nat} (hk : 10 ≤ k) : seek_Step.f k B p H s w q tr l x0 x1 x2 x3 x4 x5 x6 x7 x8 x9 x10 x11 x12 x13 x14 x15 x16 x17 x18 x19 = some (fin_ (x0, x1, x2, x3, x4, x5, x6, x7, x8, x9, x10, x11, x12, wd, x14, x15, nt wd lo hi (mx 0 (lo / 64)) + 1, x17, x18, x19) (x0, x1, x2, x3, x4, x5, x6, x7, 6, x9, x10 + 1, x11, x12, 0, x14, 0, 0, x17, x18, x19) (x0, x1, x2, x3, x4, x5, x6, x7, x8, x9, x10 + 1, x11, x12, 0, x14, x15, 0, x17, x18, x19) wd lo hi (mx 0 (lo / 64)) s x10) := by
 have hm := M_bounds p1 p2
 unfold seek_Step.f
 rw [Many_eq B p1 p2, Option.bind_some, if_pos hat, Cells_eq (by omega) (by omega), Option.bind_some, w64 (by omega) (by omega), show (M p + 31) / 32 + ((M p + 31) / 32 + 63) / 64 + 1 - 1 = (M p + 31) / 32 + ((M p + 31) / 32 + 63) / 64 by omega, Load_eq, Option.bind_some, hwd,
  further_eq x0 x1 x2 x3 x4 x5 x6 x7 x8 x9 x10 x11 x12 wd x14 x15 x16 x17 x18 x19 p1 p2 hM s1 s2 a0 a1 b0 b1 (by omega) (by omega) hlo hhi hk]
 rfl
theorem Step_t {B p : Int} {H : List Int} {s w q tr : Int} (x0 : Int) (x1 : Int) (x2 : Int) (x3 : Int) (x4 : Int) (x5 : Bool) (x6 : Int) (x7 : Int) (x8 : Int) (x9 : Int) (x10 : Int) (x11 : Int) (x12 : Int) (x13 : Int) (x14 : Bool) (x15 : Int) (x16 : Int) (x17 : Int) (x18 : Int) (x19 : Int) (l : List Int) (p1 : 16 ≤ p) (p2 : p ≤ 32) (hM : M p ≤ 4096) (s1 : 1 ≤ s) (s2 : s ≤ 64) (a0 : 0 ≤ x9) (a1 : x9 ≤ 1000) (b0 : 0 ≤ x10) (b1 : x10 ≤ 1000) {lo hi t wd : Int} (hlo : lo_ ((M p + 31) / 32) s ((x9 + x10) % s) = lo)
  (hhi : lo_ ((M p + 31) / 32) s ((x9 + x10) % s + 1) = hi) (hat : x16 = t + 1) (t0 : 0 ≤ t) (t1 : t ≤ 1) (hwd : ld l ((M p + 31) / 32 + t) = wd) {k : Nat} (hk : 200 ≤ k) :
  (∃ x, lo ≤ x ∧ t * 64 ≤ x ∧ x < hi ∧ x < (t + 1) * 64 ∧ hasb_ wd (x - t * 64) = false ∧ (∀ y, lo ≤ y → t * 64 ≤ y → y < x → hasb_ wd (y - t * 64) = true) ∧ seek_Step.f k B p H s w q tr l x0 x1 x2 x3 x4 x5 x6 x7 x8 x9 x10 x11 x12 x13 x14 x15 x16 x17 x18 x19 = some (x0, x1, x2, x3, x4, x5, x6, x7, 2, x9, x10, x, x12, 0, x14, x15, 0, x17, x18, x19)) ∨
  (∀ y, lo ≤ y → t * 64 ≤ y → y < hi → y < (t + 1) * 64 → hasb_ wd (y - t * 64) = true) ∧ seek_Step.f k B p H s w q tr l x0 x1 x2 x3 x4 x5 x6 x7 x8 x9 x10 x11 x12 x13 x14 x15 x16 x17 x18 x19 = some (fin_ (x0, x1, x2, x3, x4, x5, x6, x7, x8, x9, x10, x11, x12, x13, x14, x15, nt x13 lo hi (mx (t + 1) (lo / 64)) + 1, x17, x18, x19) (x0, x1, x2, x3, x4, x5, x6, x7, 6, x9, x10 + 1, x11, x12, 0, x14, 0, 0, x17, x18, x19) (x0, x1, x2, x3, x4, x5, x6, x7, x8, x9, x10 + 1, x11, x12, 0, x14, x15, 0, x17, x18, x19) x13 lo hi (mx (t + 1) (lo / 64)) s x10) := by
 have hm := M_bounds p1 p2
 have hj := Int.emod_lt_of_pos (x9 + x10) (show 0 < s by omega)
 have hj0 := Int.emod_nonneg (x9 + x10) (show s ≠ 0 by omega)
 have c1 := lo_b (L := (M p + 31) / 32) hj0 (Int.le_of_lt hj) s1 s2 (by omega) (by omega)
 have c2 := lo_b (L := (M p + 31) / 32) (j := (x9 + x10) % s + 1) (by omega) (by omega) s1 s2 (by omega) (by omega)
 rw [hlo] at c1
 rw [hhi] at c2
 have hF : ∀ (b : Int) (ok : Bool), hint_Find.f k wd (mx lo (t * 64) - t * 64) (mn hi ((t + 1) * 64) - t * 64) = some (b, ok) → seek_Step.f k B p H s w q tr l x0 x1 x2 x3 x4 x5 x6 x7 x8 x9 x10 x11 x12 x13 x14 x15 x16 x17 x18 x19 = if ok = true then some (x0, x1, x2, x3, x4, x5, x6, x7, 2, x9, x10, wrap64 (t * 64 + b), x12, 0, x14, x15, 0, x17, x18, x19) else some (fin_ (x0, x1, x2, x3, x4, x5, x6, x7, x8, x9, x10, x11, x12, x13, x14, x15, nt x13 lo hi (mx (t + 1) (lo / 64)) + 1, x17, x18, x19) (x0, x1, x2, x3, x4, x5, x6, x7, 6, x9, x10 + 1, x11, x12, 0, x14, 0, 0, x17, x18, x19) (x0, x1, x2, x3, x4, x5, x6, x7, x8, x9, x10 + 1, x11, x12, 0, x14, x15, 0, x17, x18, x19) x13 lo hi (mx (t + 1) (lo / 64)) s x10) := by
  intro b ok hb
  unfold seek_Step.f
  rw [Many_eq B p1 p2, Option.bind_some, if_neg (by omega), leaves_eq x0 x1 x2 x3 x4 x5 x6 x7 x8 x9 x10 x11 x12 x13 x14 x15 x16 x17 x18 x19 p1 p2 s1 s2 a0 a1 b0 b1, Option.bind_some, Leaves_eq (by omega) (by omega), Option.bind_some, w64 (x := x16 - 1) (by omega) (by omega)]
  simp only [hlo, hhi]
  rw [show x16 - 1 = t by omega, w64 (x := t + 1) (by omega) (by omega), w64 (x := t * 64) (by omega) (by omega), w64 (x := (t + 1) * 64) (by omega) (by omega), w64 (x := (M p + 31) / 32 + t) (by omega) (by omega),
   w64 (x := mx lo (t * 64) - t * 64) (by unfold mx; split <;> omega) (by unfold mx; split <;> omega), w64 (x := mn hi ((t + 1) * 64) - t * 64) (by unfold mn; split <;> omega) (by unfold mn; split <;> omega), Load_eq, Option.bind_some, hwd, hb, Option.bind_some]
  cases ok with
  | true => rw [if_pos rfl, if_pos rfl]
  | false =>
   rw [if_neg (by simp), if_neg (by simp), further_eq x0 x1 x2 x3 x4 x5 x6 x7 x8 x9 x10 x11 x12 x13 x14 x15 x16 x17 x18 x19 p1 p2 hM s1 s2 a0 a1 b0 b1 (by omega) (by omega) hlo hhi (by omega)]
   rfl
 have e1 : 0 ≤ mx lo (t * 64) - t * 64 ∧ (∀ y, lo ≤ y → t * 64 ≤ y → mx lo (t * 64) - t * 64 ≤ y - t * 64) ∧ lo ≤ mx lo (t * 64) ∧ t * 64 ≤ mx lo (t * 64) := by unfold mx; split <;> (refine ⟨by omega, fun y _ _ => by omega, by omega, by omega⟩)
 have e2 : mn hi ((t + 1) * 64) - t * 64 ≤ 100 ∧ (∀ y, y < hi → y < (t + 1) * 64 → y - t * 64 < mn hi ((t + 1) * 64) - t * 64) ∧ mn hi ((t + 1) * 64) ≤ hi ∧ mn hi ((t + 1) * 64) ≤ (t + 1) * 64 := by unfold mn; split <;> (refine ⟨by omega, fun y _ _ => by omega, by omega, by omega⟩)
 obtain ⟨r, ok, h1, h2⟩ := Find_l0 wd (mn hi ((t + 1) * 64) - t * 64) e2.1 100 (mx lo (t * 64) - t * 64) k e1.1 (by omega) (by omega)
 rw [hF r ok h1]
 rcases h2 with ⟨rfl, h3, h4, h5, h6⟩ | ⟨rfl, h3⟩
 ·refine Or.inl ⟨t * 64 + r, by omega, by omega, by omega, by omega, by rw [show t * 64 + r - t * 64 = r by omega]; exact h5, fun y y1 y2 y3 => h6 _ (e1.2.1 y y1 y2) (by omega), ?_⟩
  rw [if_pos rfl, w64 (x := t * 64 + r) (by omega) (by omega)]
 ·exact Or.inr ⟨fun y y1 y2 y3 y4 => h3 _ (e1.2.1 y y1 y2) (e2.2.1 y y3 y4), by rw [if_neg (by simp)]⟩

theorem Same_l0 : ∀ (xs ys pre qre : List Int) (k : Nat), pre.length = qre.length → xs.length = ys.length → (pre ++ xs).length ≤ 9223372036854775807 → xs.length < k →
  lodgerref02_Same.l0 k (pre ++ xs) (qre ++ ys) (pre.length : Int) = some (decide (xs = ys)) := by
 intro xs
 induction xs with
 | nil =>
  intro ys pre qre k hp hx hm hk
  obtain ⟨k, rfl⟩ : ∃ m, k = m + 1 := ⟨k - 1, by omega⟩
  have : ys = [] := List.eq_nil_of_length_eq_zero hx.symm
  subst this
  simp only [lodgerref02_Same.l0]; rw [if_neg (by simp)]; simp
 | cons x xs ih =>
  intro ys pre qre k hp hx hm hk
  cases ys with
  | nil => simp at hx
  | cons y ys =>
   simp only [List.length_cons, List.length_append] at hk hx hm
   obtain ⟨k, rfl⟩ : ∃ m, k = m + 1 := ⟨k - 1, by omega⟩
   simp only [lodgerref02_Same.l0]
   have e1 : rd (pre ++ x :: xs) (pre.length : Int) = x := by simp [rd]
   have e2 : rd (qre ++ y :: ys) (pre.length : Int) = y := by rw [hp]; simp [rd]
   rw [if_pos (by simp; omega), if_pos (by omega), if_pos (by rw [hp]; simp; omega), e1, e2]
   by_cases e : x = y
   ·subst e
    rw [if_pos rfl, w64 (by omega) (by omega)]
    have := ih ys (pre ++ [x]) (qre ++ [x]) k (by simp [hp]) (by omega) (by simp; omega) (by omega)
    simp only [List.append_assoc, List.singleton_append, List.length_append, List.length_cons, List.length_nil, Nat.zero_add, Int.natCast_add, Int.natCast_one] at this
    rw [this]; simp
   ·rw [if_neg e]; simp [e]
theorem Same_eq (a b : List Int) (ha : a.length ≤ 100000) {k : Nat} (hk : a.length < k) : lodgerref02_Same.f k a b = some (decide (a = b)) := by
 unfold lodgerref02_Same.f
 by_cases h : (a.length : Int) = (b.length : Int)
 ·rw [if_pos h]
  exact Same_l0 a b [] [] k rfl (by omega) (by simp; omega) hk
 ·rw [if_neg h, decide_eq_false (fun e => h (by rw [e]))]

section
variable {B p : Int} {H : List Int} {s w q tr : Int}
theorem Fits15_gate (ln : Int → Int) (hH : H.length ≤ maxLen) (hB0 : 0 ≤ B) (hB1 : B ≤ 4294967295) (l : List Int) (x0 x1 x2 x3 x4 : Int) (x5 : Bool) (x6 x7 x8 x9 x10 x11 x12 x13 : Int) (x14 : Bool) (x15 x16 x17 x18 x19 : Int) {k : Nat} (hk : H.length + 6000 < k) :
  ∃ b, lodgerref15_Fits.f ln k B p H s w q tr l x0 x1 x2 x3 x4 x5 x6 x7 x8 x9 x10 x11 x12 x13 x14 x15 x16 x17 x18 x19 = some b ∧
  (b = true → cmay B p H s w q tr = true ∧ M p ≤ 4096 ∧ (l.length : Int) = (M p + 31) / 32 + ((M p + 31) / 32 + 63) / 64 + 1 ∧ x8 = 1 ∧ 0 ≤ x9 ∧ x9 < s ∧ 0 ≤ x10 ∧ x10 < s ∧ 0 ≤ x16 ∧ x16 ≤ ((M p + 31) / 32 + 63) / 64) := by
 unfold lodgerref15_Fits.f
 rw [refFits_eq H s w q tr hH hB0 hB1 l (by omega), Option.bind_some]
 by_cases c0 : (cmay B p H s w q tr && (decide (M p ≤ 4096) && decide ((l.length : Int) = (M p + 31) / 32 + ((M p + 31) / 32 + 63) / 64 + 1))) = true
 rotate_left
 ·exact ⟨false, by rw [if_neg c0], fun h => absurd h (by simp)⟩
 rw [if_pos c0]
 simp only [Bool.and_eq_true, decide_eq_true_eq] at c0
 obtain ⟨hc, hM, hn⟩ := c0
 obtain ⟨p1, p2, _, _, s1, s2, _⟩ := cmay_head hc
 have hm := M_bounds p1 p2
 by_cases c1 : x8 = 1
 rotate_left
 ·exact ⟨false, by rw [if_neg c1], fun h => absurd h (by simp)⟩
 by_cases c2 : x9 ≥ 0
 rotate_left
 ·exact ⟨false, by rw [if_pos c1, if_neg c2], fun h => absurd h (by simp)⟩
 by_cases c3 : x9 < s
 rotate_left
 ·exact ⟨false, by rw [if_pos c1, if_pos c2, if_neg c3], fun h => absurd h (by simp)⟩
 by_cases c4 : x10 ≥ 0
 rotate_left
 ·exact ⟨false, by rw [if_pos c1, if_pos c2, if_pos c3, if_neg c4], fun h => absurd h (by simp)⟩
 by_cases c5 : x10 < s
 rotate_left
 ·exact ⟨false, by rw [if_pos c1, if_pos c2, if_pos c3, if_pos c4, if_neg c5], fun h => absurd h (by simp)⟩
 by_cases c6 : x16 ≥ 0
 rotate_left
 ·exact ⟨false, by rw [if_pos c1, if_pos c2, if_pos c3, if_pos c4, if_pos c5, if_neg c6], fun h => absurd h (by simp)⟩
 rw [if_pos c1, if_pos c2, if_pos c3, if_pos c4, if_pos c5, if_pos c6, ref05Many_eq B p1 p2 (by omega), Option.bind_some, refTops (by omega) (by omega) (by omega), Option.bind_some]
 by_cases c7 : x16 ≤ ((M p + 31) / 32 + 63) / 64
 rotate_left
 ·exact ⟨false, by rw [if_neg c7], fun h => absurd h (by simp)⟩
 rw [if_pos c7]
 have facts : cmay B p H s w q tr = true ∧ M p ≤ 4096 ∧ (l.length : Int) = (M p + 31) / 32 + ((M p + 31) / 32 + 63) / 64 + 1 ∧ x8 = 1 ∧ 0 ≤ x9 ∧ x9 < s ∧ 0 ≤ x10 ∧ x10 < s ∧ 0 ≤ x16 ∧ x16 ≤ ((M p + 31) / 32 + 63) / 64 := ⟨hc, hM, hn, c1, c2, c3, c4, c5, c6, c7⟩
 by_cases d1 : ln x2 ≤ 100
 rotate_left
 ·exact ⟨false, by rw [if_neg d1], fun _ => facts⟩
 by_cases d2 : ln x15 ≤ 300
 rotate_left
 ·exact ⟨false, by rw [if_pos d1, if_neg d2], fun _ => facts⟩
 by_cases d3 : ln x6 ≤ 300
 rotate_left
 ·exact ⟨false, by rw [if_pos d1, if_pos d2, if_neg d3], fun _ => facts⟩
 exact ⟨_, by rw [if_pos d1, if_pos d2, if_pos d3], fun _ => facts⟩
/-- What a step leaves as it was, and where it then seeks. -/
theorem Step_stays {l : List Int} (x0 x1 x2 x3 x4 : Int) (x5 : Bool) (x6 x7 x9 x10 x11 x12 x13 : Int) (x14 : Bool) (x15 x16 x17 x18 x19 : Int) (p1 : 16 ≤ p) (p2 : p ≤ 32) (hM : M p ≤ 4096) (s1 : 1 ≤ s) (s2 : s ≤ 64) (a0 : 0 ≤ x9) (a1 : x9 < s) (b0 : 0 ≤ x10) (b1 : x10 < s) (t0 : 0 ≤ x16) (t1 : x16 ≤ 2) {k : Nat} (hk : 200 ≤ k) :
  ∃ ph so lf wd sn at_, seek_Step.f k B p H s w q tr l x0 x1 x2 x3 x4 x5 x6 x7 1 x9 x10 x11 x12 x13 x14 x15 x16 x17 x18 x19 = some (x0, x1, x2, x3, x4, x5, x6, x7, ph, x9, so, lf, x12, wd, x14, sn, at_, x17, x18, x19) ∧ (so = x10 ∨ so = x10 + 1) ∧ ((ph == 6) = decide (so ≥ s)) := by
 have fin : ∀ wd0 lo hi t, ∃ ph so lf wd sn at_, some (fin_ (x0, x1, x2, x3, x4, x5, x6, x7, (1 : Int), x9, x10, x11, x12, wd0, x14, x15, nt wd0 lo hi t + 1, x17, x18, x19) (x0, x1, x2, x3, x4, x5, x6, x7, 6, x9, x10 + 1, x11, x12, 0, x14, 0, 0, x17, x18, x19) (x0, x1, x2, x3, x4, x5, x6, x7, 1, x9, x10 + 1, x11, x12, 0, x14, x15, 0, x17, x18, x19) wd0 lo hi t s x10) = some (x0, x1, x2, x3, x4, x5, x6, x7, ph, x9, so, lf, x12, wd, x14, sn, at_, x17, x18, x19) ∧ (so = x10 ∨ so = x10 + 1) ∧ ((ph == 6) = decide (so ≥ s)) := by
  intro wd0 lo hi t
  unfold fin_
  by_cases c : nt wd0 lo hi t < 2
  ·rw [if_pos c]; exact ⟨1, x10, _, _, _, _, rfl, Or.inl rfl, by rw [decide_eq_false (by omega)]; rfl⟩
  ·rw [if_neg c]
   by_cases d : x10 + 1 ≥ s
   ·rw [if_pos d]; exact ⟨6, x10 + 1, _, _, _, _, rfl, Or.inr rfl, by rw [decide_eq_true d]; rfl⟩
   ·rw [if_neg d]; exact ⟨1, x10 + 1, _, _, _, _, rfl, Or.inr rfl, by rw [decide_eq_false d]; rfl⟩
 by_cases c : x16 = 0
 ·rw [Step_0 (B := B) (H := H) (w := w) (q := q) (tr := tr) x0 x1 x2 x3 x4 x5 x6 x7 1 x9 x10 x11 x12 x13 x14 x15 x16 x17 x18 x19 l p1 p2 hM s1 s2 a0 (by omega) b0 (by omega) rfl rfl c rfl (k := k) (by omega)]
  exact fin _ _ _ _
 ·rcases Step_t (B := B) (H := H) (w := w) (q := q) (tr := tr) x0 x1 x2 x3 x4 x5 x6 x7 1 x9 x10 x11 x12 x13 x14 x15 x16 x17 x18 x19 l p1 p2 hM s1 s2 a0 (by omega) b0 (by omega) rfl rfl (t := x16 - 1) (by omega) (by omega) (by omega) rfl (k := k) hk with ⟨x, _, _, _, _, _, _, e⟩ | ⟨_, e⟩
  ·rw [e]; exact ⟨2, x10, _, _, _, _, rfl, Or.inl rfl, by rw [decide_eq_false (by omega)]; rfl⟩
  ·rw [e]; exact fin _ _ _ _
end
theorem SeekStays : lodgerlaw15_SeekStays.Pure := by
 intro ln B p H s w q tr l x0 x1 x2 x3 x4 x5 x6 x7 x8 x9 x10 x11 x12 x13 x14 x15 x16 x17 x18 x19 wB wp hH wH ws ww wq wt hl hl8 wl v0 v1 e2 v3 v4 e6 e7 v8 v9 v10 v11 v12 v13 e15 v16 v17 v18 v19
 subst e2 e6 e7 e15
 have bB := wf_u32 wB
 refine ⟨H.length + 100000, ?_⟩
 generalize hK : H.length + 100000 = k
 obtain ⟨k, rfl⟩ : ∃ m, k = m + 1 := ⟨k - 1, by omega⟩
 unfold lodgerlaw15_SeekStays.f lodgerlaw15_awake.f
 obtain ⟨b, hf, hb⟩ := Fits15_gate (B := B) (p := p) (s := s) (w := w) (q := q) (tr := tr) ln hH bB.1 bB.2 l x0 x1 1 x3 x4 x5 2 3 x8 x9 x10 x11 x12 x13 x14 4 x16 x17 x18 x19 (k := k + 1) (by omega)
 rw [Option.bind_some, if_pos rfl, hf, Option.bind_some]
 cases b with
 | false => rw [lodgerlaw15_SeekStays.j0]; unfold lodgerlaw15_awake.f; rfl
 | true =>
  obtain ⟨hc, hM, hn, rfl, a0, a1, b0, b1, t0, t1⟩ := hb rfl
  obtain ⟨p1, p2, _, _, s1, s2, _⟩ := cmay_head hc
  have hm := M_bounds p1 p2
  obtain ⟨ph, so, lf, wd, sn, at_, hS, hso, hph⟩ := Step_stays (B := B) (p := p) (H := H) (s := s) (w := w) (q := q) (tr := tr) (l := l) x0 x1 1 x3 x4 x5 2 3 x9 x10 x11 x12 x13 x14 4 x16 x17 x18 x19 p1 p2 hM s1 s2 a0 a1 b0 b1 t0 (by omega) (k := k) (by omega)
  rw [show (!true) = false from rfl, lodgerlaw15_SeekStays.j0, if_neg (by simp), Option.bind_some, if_pos (by simp; omega), Option.bind_some, List.nil_append, hS, Option.bind_some, Same_eq l l (by omega) (by omega), Option.bind_some, if_pos (by simp)]
  have h8 : lodgerref08_Same.f x0 x1 1 x3 x4 x5 2 3 1 x9 x10 x11 x12 x13 x14 4 x16 x17 x18 x19 x0 x1 1 x3 x4 x5 2 3 1 x9 x10 x11 x12 x13 x14 4 x16 x17 x18 x19 = some true := by
   unfold lodgerref08_Same.f lodgerref08_Asks.f lodgerref08_Answers.f
   simp [qa_, qe_, qs_]
  show (lodgerref08_Same.f x0 x1 1 x3 x4 x5 2 3 1 x9 x10 x11 x12 x13 x14 4 x16 x17 x18 x19 x0 x1 1 x3 x4 x5 2 3 1 x9 x10 x11 x12 x13 x14 4 x16 x17 x18 x19).bind _ = _
  rw [h8, Option.bind_some, if_pos rfl]
  show (if so = x10 then some ((ph == 6) == decide (so ≥ s)) else if so = wrap64 (x10 + 1) then some ((ph == 6) == decide (so ≥ s)) else some false) = some true
  rw [w64 (x := x10 + 1) (by omega) (by omega), hph, beq_self_eq_true]
  rcases hso with e | e
  ·rw [if_pos e]
  ·rw [if_neg (by omega), if_pos e]

end Go.Proofs.Ytfhjeneegfmngaa.Pure
