/- GaugeBars answers true at every input: a bar has as many bytes as its width, first # and then . alone; it is all # just if all is used, or it has no bytes; with an offset more it has no fewer #; no condition. -/
import Derived.Test.YtepgjabpoabjnaaQGaugeBarsx7
namespace Go.Proofs.Ytepgjabpoabjnaa.Pure
open Go.RowKit Go.Proofs.Ytepgjabpoabjnaa.PGaugeBars Go.Proofs.YtepgjabpoabjnaaW.PrintWords Go.Proofs.YtepgjabpoabjnaaW.PrintLast Go.Proofs.YtepgjabpoabjnaaW.PrintMore
set_option linter.unusedVariables false
set_option linter.unusedSimpArgs false

theorem w64 {x : Int} (h1 : -9223372036854775808 ≤ x) (h2 : x ≤ 9223372036854775807) : wrap64 x = x := by unfold wrap64; omega
theorem td {a b : Int} (h : 0 ≤ a) : Int.tdiv a b = a / b := Int.tdiv_eq_ediv_of_nonneg h
theorem tm {a b : Int} (h : 0 ≤ a) : Int.tmod a b = a % b := Int.tmod_eq_emod_of_nonneg h
theorem more {k N : Nat} (h : N + 1 ≤ k) : ∃ m, k = m + 1 ∧ N ≤ m := ⟨k - 1, by omega, by omega⟩
theorem wf_u16 {a : Int} (h : (Lit.int .u16 a).wf = true) : 0 ≤ a ∧ a ≤ 65535 := by
 simp [Lit.wf, IntKind.min, IntKind.max, IntKind.signed, IntKind.bits] at h
 omega
theorem wf_u8 {a : Int} (h : (Lit.int .u8 a).wf = true) : 0 ≤ a ∧ a ≤ 255 := by
 simp [Lit.wf, IntKind.min, IntKind.max, IntKind.signed, IntKind.bits] at h
 omega
theorem wf_u32 {a : Int} (h : (Lit.int .u32 a).wf = true) : 0 ≤ a ∧ a ≤ 4294967295 := by
 simp [Lit.wf, IntKind.min, IntKind.max, IntKind.signed, IntKind.bits] at h
 omega
theorem wf_u64 {a : Int} (h : (Lit.int .u64 a).wf = true) : 0 ≤ a ∧ a ≤ 18446744073709551615 := by
 simp [Lit.wf, IntKind.min, IntKind.max, IntKind.signed, IntKind.bits] at h
 omega
theorem wf_i64 {a : Int} (h : (Lit.int .i64 a).wf = true) : -9223372036854775808 ≤ a ∧ a ≤ 9223372036854775807 := by
 simp [Lit.wf, IntKind.min, IntKind.max, IntKind.signed, IntKind.bits] at h
 omega

/-- A word, as the machine's number. -/
def U (x : BitVec 64) : Int := (x.toNat : Int)
theorem U_lt (x : BitVec 64) : 0 ≤ U x ∧ U x < 18446744073709551616 := by have := x.isLt; unfold U; omega
theorem U_of {a : Int} (h0 : 0 ≤ a) (h1 : a ≤ 18446744073709551615) : ∃ x : BitVec 64, a = U x := by
 refine ⟨BitVec.ofNat 64 a.toNat, ?_⟩
 unfold U
 rw [BitVec.toNat_ofNat, Nat.mod_eq_of_lt (by omega)]
 omega
theorem U_inj {x y : BitVec 64} (h : U x = U y) : x = y := by unfold U at h; exact BitVec.eq_of_toNat_eq (by omega)
theorem U_eq {x y : BitVec 64} : (U x == U y) = (x == y) := by
 rw [Bool.eq_iff_iff, beq_iff_eq, beq_iff_eq]; exact ⟨U_inj, fun h => by rw [h]⟩
theorem wrapu (n : Int) : IntKind.u64.wrap n = n % 18446744073709551616 := by simp [IntKind.wrap, IntKind.bits, IntKind.signed]
theorem wrapu_small {n : Int} (h0 : 0 ≤ n) (h1 : n < 18446744073709551616) : IntKind.u64.wrap n = n := by rw [wrapu]; omega
theorem wrapu_U (x : BitVec 64) : IntKind.u64.wrap ((x.toNat : Nat) : Int) = U x := by have := x.isLt; unfold U; rw [wrapu]; omega
theorem ofInt_U (x : BitVec 64) : BitVec.ofInt 64 (U x) = x := by unfold U; rw [BitVec.ofInt_natCast]; simp
theorem bits_or_U (x y : BitVec 64) : Go.bits .or .u64 (U x) (U y) = U (x ||| y) := by
 show IntKind.u64.wrap ((BitVec.ofInt 64 (U x) ||| BitVec.ofInt 64 (U y)).toNat : Nat) = _
 rw [ofInt_U, ofInt_U, wrapu_U]
theorem bits_and_U (x y : BitVec 64) : Go.bits .and .u64 (U x) (U y) = U (x &&& y) := by
 show IntKind.u64.wrap ((BitVec.ofInt 64 (U x) &&& BitVec.ofInt 64 (U y)).toNat : Nat) = _
 rw [ofInt_U, ofInt_U, wrapu_U]
theorem bits_xor_U (x y : BitVec 64) : Go.bits .xor .u64 (U x) (U y) = U (x ^^^ y) := by
 show IntKind.u64.wrap ((BitVec.ofInt 64 (U x) ^^^ BitVec.ofInt 64 (U y)).toNat : Nat) = _
 rw [ofInt_U, ofInt_U, wrapu_U]
theorem bits_andNot_U (x y : BitVec 64) : Go.bits .andNot .u64 (U x) (U y) = U (x &&& ~~~y) := by
 show IntKind.u64.wrap ((BitVec.ofInt 64 (U x) &&& ~~~BitVec.ofInt 64 (U y)).toNat : Nat) = _
 rw [ofInt_U, ofInt_U, wrapu_U]
theorem shl_U {i : Int} (h0 : 0 ≤ i) (h1 : i < 64) : shl .u64 1 i = U (BitVec.twoPow 64 i.toNat) := by
 unfold shl U
 rw [Nat.min_eq_left (by simp [IntKind.bits]; omega), BitVec.toNat_twoPow, wrapu, Int.one_mul]
 simp
theorem shr_U (x : BitVec 64) {i : Int} (h0 : 0 ≤ i) (h1 : i < 64) : shr .u64 (U x) i = U (x >>> i.toNat) := by
 unfold shr U
 rw [Nat.min_eq_left (by simp [IntKind.bits]; omega), BitVec.toNat_ushiftRight, Nat.shiftRight_eq_div_pow]
 simp
theorem one_U : (1 : Int) = U 1#64 := rfl
theorem bit_U (x : BitVec 64) (i : Nat) : (Go.bits .and .u64 (U (x >>> i)) 1 == 1) = x.getLsbD i := by
 rw [one_U, bits_and_U, U_eq, Bool.eq_iff_iff, beq_iff_eq]
 constructor
 ·intro h
  have := congrArg (fun z => z.getLsbD 0) h
  simpa using this
 ·intro h
  apply BitVec.eq_of_getLsbD_eq
  intro j hj
  rw [BitVec.getLsbD_and, BitVec.getLsbD_one, BitVec.getLsbD_ushiftRight]
  by_cases hz : j = 0
  ·subst hz; simp [h]
  ·simp [hz]
theorem bitn_U (x : BitVec 64) (i : Nat) : Go.bits .and .u64 (U (x >>> i)) 1 = (if x.getLsbD i = true then 1 else 0) := by
 have h := bit_U x i
 have hb : Go.bits .and .u64 (U (x >>> i)) 1 = 0 ∨ Go.bits .and .u64 (U (x >>> i)) 1 = 1 := by
  rw [one_U, bits_and_U]
  unfold U
  rw [BitVec.toNat_and]
  have : (x >>> i).toNat &&& (1#64).toNat ≤ 1 := Nat.and_le_right
  simp at this ⊢
  omega
 split
 ·rename_i hg; rw [hg] at h; exact eq_of_beq h
 ·rename_i hg
  rcases hb with hb | hb
  ·exact hb
  ·rw [hb] at h; exact absurd h.symm hg
/-- The word of the lowest bits. -/
def mask (n : Nat) : BitVec 64 := BitVec.ofNat 64 (2 ^ n - 1)
theorem mask_bit (n j : Nat) (hj : j < 64) : (mask n).getLsbD j = decide (j < n) := by
 unfold mask
 rw [BitVec.getLsbD_ofNat, Nat.testBit_two_pow_sub_one]
 simp [hj]
/-- How many of the first n bits are set. -/
def cnt (x : BitVec 64) : Nat → Nat
 | 0 => 0
 | n + 1 => cnt x n + (if x.getLsbD n = true then 1 else 0)
theorem cnt_le (x : BitVec 64) (n : Nat) : cnt x n ≤ n := by
 induction n with
 | zero => simp [cnt]
 | succ n ih => simp only [cnt]; split <;> omega
theorem cnt_mono (x : BitVec 64) {n m : Nat} (h : n ≤ m) : cnt x n ≤ cnt x m := by
 induction h with
 | refl => omega
 | step _ ih => simp only [cnt]; omega
theorem cnt_all (x : BitVec 64) (n : Nat) (h : ∀ j, j < n → x.getLsbD j = true) : cnt x n = n := by
 induction n with
 | zero => simp [cnt]
 | succ n ih => simp only [cnt]; rw [ih (fun j hj => h j (by omega)), if_pos (h n (by omega))]
theorem cnt_lt (x : BitVec 64) (n i : Nat) (hi : i < n) (h : x.getLsbD i = false) : cnt x n < n := by
 induction n with
 | zero => omega
 | succ n ih =>
  simp only [cnt]
  by_cases he : i = n
  ·subst he; rw [h]; have := cnt_le x i; simp; omega
  ·have := ih (by omega); split <;> omega
theorem cnt_congr (x y : BitVec 64) (n : Nat) (h : ∀ j, j < n → x.getLsbD j = y.getLsbD j) : cnt x n = cnt y n := by
 induction n with
 | zero => simp [cnt]
 | succ n ih => simp only [cnt]; rw [ih (fun j hj => h j (by omega)), h n (by omega)]
theorem cnt_set (x : BitVec 64) (n i : Nat) (hi : i < n) (hn : n ≤ 64) (h : x.getLsbD i = false) : cnt (x ||| BitVec.twoPow 64 i) n = cnt x n + 1 := by
 induction n with
 | zero => omega
 | succ n ih =>
  simp only [cnt, BitVec.getLsbD_or, BitVec.getLsbD_twoPow]
  by_cases he : i = n
  ·subst he
   rw [cnt_congr (x ||| BitVec.twoPow 64 i) x i (fun j hj => by simp [BitVec.getLsbD_or, BitVec.getLsbD_twoPow]; omega), h]
   simp; omega
  ·rw [ih (by omega) (by omega)]
   simp [he]; omega

/-- How many addresses a block of this prefix has. -/
def M (p : Int) : Int := 2 ^ (32 - p).toNat
theorem p_cases {p : Int} (h1 : 16 ≤ p) (h2 : p ≤ 32) : p = 16 ∨ p = 17 ∨ p = 18 ∨ p = 19 ∨ p = 20 ∨ p = 21 ∨ p = 22 ∨ p = 23 ∨ p = 24 ∨ p = 25 ∨ p = 26 ∨ p = 27 ∨ p = 28 ∨ p = 29 ∨ p = 30 ∨ p = 31 ∨ p = 32 := by omega
theorem M_bounds {p : Int} (h1 : 16 ≤ p) (h2 : p ≤ 32) : 1 ≤ M p ∧ M p ≤ 65536 := by
 rcases p_cases h1 h2 with rfl | rfl | rfl | rfl | rfl | rfl | rfl | rfl | rfl | rfl | rfl | rfl | rfl | rfl | rfl | rfl | rfl <;> decide
theorem M_fits {p B : Int} (h1 : 16 ≤ p) (h2 : p ≤ 32) (hB0 : 0 ≤ B) (hB1 : B ≤ 4294967295) (hm : B % M p = 0) : B + M p ≤ 4294967296 := by
 rcases p_cases h1 h2 with rfl | rfl | rfl | rfl | rfl | rfl | rfl | rfl | rfl | rfl | rfl | rfl | rfl | rfl | rfl | rfl | rfl
 ·rw [show M 16 = 65536 by decide] at *; omega
 ·rw [show M 17 = 32768 by decide] at *; omega
 ·rw [show M 18 = 16384 by decide] at *; omega
 ·rw [show M 19 = 8192 by decide] at *; omega
 ·rw [show M 20 = 4096 by decide] at *; omega
 ·rw [show M 21 = 2048 by decide] at *; omega
 ·rw [show M 22 = 1024 by decide] at *; omega
 ·rw [show M 23 = 512 by decide] at *; omega
 ·rw [show M 24 = 256 by decide] at *; omega
 ·rw [show M 25 = 128 by decide] at *; omega
 ·rw [show M 26 = 64 by decide] at *; omega
 ·rw [show M 27 = 32 by decide] at *; omega
 ·rw [show M 28 = 16 by decide] at *; omega
 ·rw [show M 29 = 8 by decide] at *; omega
 ·rw [show M 30 = 4 by decide] at *; omega
 ·rw [show M 31 = 2 by decide] at *; omega
 ·rw [show M 32 = 1 by decide] at *; omega
theorem wraps_u64 (n : Int) (h0 : 0 ≤ n) (h1 : n < 2 ^ 64) : IntKind.u64.wrap n = n := by rw [wrapu]; omega
theorem Many_eq (B : Int) {p : Int} (h1 : 16 ≤ p) (h2 : p ≤ 32) : block_Many.f B p = some (M p) := by
 have hb := M_bounds h1 h2
 unfold block_Many.f
 rw [w64 (x := 32 - p) (by omega) (by omega), wrapu_small (by omega) (by omega), if_pos (by omega)]
 unfold M at hb
 unfold shl M
 rw [Nat.min_eq_left (by simp [IntKind.bits]; omega), Int.one_mul, IntKind.wrap_i64]
 generalize (2 : Int) ^ (32 - p).toNat = q at *
 congr 1; omega
/-- May such a block be? -/
def bmay (B p : Int) : Bool := decide (16 ≤ p ∧ p ≤ 32 ∧ B % M p = 0)

theorem ref04Many_eq {p : Int} (h1 : 16 ≤ p) (h2 : p ≤ 32) {k : Nat} (hk : 20 ≤ k) : lodgerref04_Many.f k p = some (M p) := by
 rcases p_cases h1 h2 with rfl | rfl | rfl | rfl | rfl | rfl | rfl | rfl | rfl | rfl | rfl | rfl | rfl | rfl | rfl | rfl | rfl <;> exact at_rounds (fun k => lodgerref04_Many.mono _ k) hk (by decide +kernel)
theorem ref04May_eq {B p : Int} (hB0 : 0 ≤ B) (hB1 : B ≤ 4294967295) {k : Nat} (hk : 20 ≤ k) : lodgerref04_May.f k B p = some (bmay B p) := by
 unfold lodgerref04_May.f bmay
 by_cases c1 : p ≥ 16
 ·rw [if_pos c1]
  by_cases c2 : p ≤ 32
  ·have hb := M_bounds (p := p) (by omega) (by omega)
   rw [if_pos c2, ref04Many_eq (by omega) (by omega) hk, Option.bind_some, if_neg (by omega), w64 (by omega) (by omega), tm hB0]
   congr 1
   rw [Bool.eq_iff_iff, beq_iff_eq, decide_eq_true_eq]
   omega
  ·rw [if_neg c2, decide_eq_false (by omega)]
 ·rw [if_neg c1, decide_eq_false (by omega)]

theorem rd_mid (pre xs : List Int) (x : Int) : rd (pre ++ x :: xs) (pre.length : Int) = x := by simp [rd]

/-- Does a list rise, from behind a number on, below a bound? -/
def rises (last m : Int) : List Int → Bool
 | [] => true
 | x :: xs => decide (last < x) && decide (x < m) && rises x m xs
/-- What a configuration's numbers must be. -/
def chead (B p : Int) (l : List Int) (s w q t : Int) : Bool := decide (16 ≤ p ∧ p ≤ 32 ∧ B % M p = 0 ∧ (l.length : Int) ≤ 64 ∧ 1 ≤ s ∧ s ≤ 64 ∧ 1 ≤ w ∧ w ≤ 64 ∧ 1 ≤ q ∧ q ≤ 64 ∧ 1 ≤ t ∧ t ≤ 8)
/-- May such a configuration be? -/
def cmay (B p : Int) (l : List Int) (s w q t : Int) : Bool := chead B p l s w q t && rises (-1) (M p) l
theorem cmay_head {B p : Int} {l : List Int} {s w q t : Int} (h : cmay B p l s w q t = true) : 16 ≤ p ∧ p ≤ 32 ∧ B % M p = 0 ∧ (l.length : Int) ≤ 64 ∧ 1 ≤ s ∧ s ≤ 64 ∧ 1 ≤ w ∧ w ≤ 64 ∧ 1 ≤ q ∧ q ≤ 64 ∧ 1 ≤ t ∧ t ≤ 8 := by
 unfold cmay chead at h
 rw [Bool.and_eq_true, decide_eq_true_eq] at h
 exact h.1
theorem cmay_rises {B p : Int} {l : List Int} {s w q t : Int} (h : cmay B p l s w q t = true) : rises (-1) (M p) l = true := by
 unfold cmay at h
 rw [Bool.and_eq_true] at h
 exact h.2

theorem rises_bounds {last m : Int} {l : List Int} (h : rises last m l = true) : ∀ x ∈ l, last < x ∧ x < m := by
 induction l generalizing last with
 | nil => intro x hx; cases hx
 | cons y ys ih =>
  simp only [rises, Bool.and_eq_true, decide_eq_true_eq] at h
  intro x hx
  rcases List.mem_cons.1 hx with rfl | hx
  ·exact h.1
  ·have := ih h.2 x hx
   omega
theorem rises_drop {last m : Int} {xs ys : List Int} {y : Int} (h : rises last m (xs ++ y :: ys) = true) : rises last m (xs ++ ys) = true := by
 induction xs generalizing last with
 | nil =>
  simp only [List.nil_append, rises, Bool.and_eq_true, decide_eq_true_eq] at h ⊢
  cases ys with
  | nil => rfl
  | cons z zs =>
   simp only [rises, Bool.and_eq_true, decide_eq_true_eq] at h ⊢
   exact ⟨⟨by omega, h.2.1.2⟩, h.2.2⟩
 | cons x xs ih =>
  simp only [List.cons_append, rises, Bool.and_eq_true] at h ⊢
  exact ⟨h.1, ih h.2⟩
theorem rises_notin {last m : Int} {xs ys : List Int} {y : Int} (h : rises last m (xs ++ y :: ys) = true) : y ∉ xs ++ ys := by
 induction xs generalizing last with
 | nil =>
  simp only [List.nil_append, rises, Bool.and_eq_true, decide_eq_true_eq] at h ⊢
  intro hy
  have := rises_bounds h.2 y hy
  omega
 | cons x xs ih =>
  simp only [List.cons_append, rises, Bool.and_eq_true] at h ⊢
  have h1 := rises_bounds h.2 y (by simp)
  intro hy
  rcases List.mem_cons.1 hy with rfl | hy
  ·omega
  ·exact ih h.2 hy
/-- How many of a list lie below a number. -/
def below (l : List Int) (n : Int) : Nat := (l.filter (fun x => decide (x < n))).length
theorem below_le (l : List Int) (n : Int) : below l n ≤ l.length := List.length_filter_le _ _
theorem below_all {l : List Int} {n : Int} (h : ∀ x ∈ l, x < n) : below l n = l.length := by
 unfold below
 rw [List.filter_eq_self.2 (fun x hx => by simpa using h x hx)]
theorem below_none {l : List Int} {n : Int} (h : ∀ x ∈ l, n ≤ x) : below l n = 0 := by
 unfold below
 rw [List.filter_eq_nil_iff.2 (fun x hx => by have := h x hx; simp; omega)]; rfl
theorem below_succ {last m : Int} {l : List Int} (h : rises last m l = true) (n : Int) : below l (n + 1) = below l n + (if n ∈ l then 1 else 0) := by
 induction l generalizing last with
 | nil => simp [below]
 | cons x xs ih =>
  simp only [rises, Bool.and_eq_true, decide_eq_true_eq] at h
  have h2 := ih h.2
  have hb := rises_bounds h.2
  unfold below at h2 ⊢
  simp only [List.filter_cons]
  by_cases c1 : x < n
  ·have : ¬ n = x := by omega
   simp only [show x < n + 1 by omega, c1, decide_true, if_true, List.length_cons, List.mem_cons, this, false_or]
   omega
  ·by_cases c2 : x = n
   ·subst c2
    have hn : x ∉ xs := fun hx => by have := (hb x hx).1; omega
    simp only [show x < x + 1 by omega, show ¬ x < x by omega, decide_true, decide_false, if_true, List.length_cons, List.mem_cons, true_or, if_neg hn] at h2 ⊢
    simp; omega
   ·have : ¬ n = x := fun e => c2 e.symm
    simp only [show ¬ x < n + 1 by omega, c1, decide_false, List.mem_cons, this, false_or]
    simpa using h2

theorem refHeld_l0 (B p : Int) (l : List Int) (s w q t : Int) (hl : l.length ≤ maxLen) (a : Int) : ∀ (xs pre : List Int) (k : Nat), l = pre ++ xs → xs.length < k →
  lodgerref05_Held.l0 k a (pre.length : Int) B p l s w q t = some (decide (a ∈ xs)) := by
 unfold maxLen at hl
 intro xs
 induction xs with
 | nil =>
  intro pre k hp hk
  obtain ⟨k, rfl⟩ : ∃ m, k = m + 1 := ⟨k - 1, by omega⟩
  simp only [lodgerref05_Held.l0]; rw [if_neg (by rw [hp]; simp)]; simp
 | cons x xs ih =>
  intro pre k hp hk
  simp only [List.length_cons] at hk
  obtain ⟨k, rfl⟩ : ∃ m, k = m + 1 := ⟨k - 1, by omega⟩
  have hlt : pre.length < l.length := by rw [hp]; simp
  simp only [lodgerref05_Held.l0]
  rw [if_pos (by omega), if_pos (by omega)]
  have hx : rd l (pre.length : Int) = x := by rw [hp]; exact rd_mid ..
  rw [hx]
  by_cases e : x = a
  ·rw [if_pos e]; simp [e]
  ·rw [if_neg e, w64 (by omega) (by omega)]
   have h1 := ih (pre ++ [x]) k (by rw [hp]; simp) (by omega)
   simp only [List.length_append, List.length_cons, List.length_nil, Nat.zero_add, Int.natCast_add, Int.natCast_one] at h1
   rw [h1]
   have : ¬ a = x := fun h => e h.symm
   simp [this]
theorem refHeld_eq (B p : Int) (l : List Int) (s w q t : Int) (hl : l.length ≤ maxLen) (a : Int) {k : Nat} (hk : l.length < k) : lodgerref05_Held.f k B p l s w q t a = some (decide (a ∈ l)) := by
 unfold lodgerref05_Held.f
 exact refHeld_l0 B p l s w q t hl a l [] k rfl hk

theorem ref05Many_eq (B : Int) {p : Int} (h1 : 16 ≤ p) (h2 : p ≤ 32) {k : Nat} (hk : 20 ≤ k) : lodgerref05_Many.f k B p = some (M p) := by
 unfold lodgerref05_Many.f; rw [ref04Many_eq h1 h2 hk]; rfl

theorem refMay_l0 (B p : Int) (l : List Int) (s w q t : Int) (hl : l.length ≤ maxLen) (h1 : 16 ≤ p) (h2 : p ≤ 32) : ∀ (xs pre : List Int) (last : Int) (k : Nat), l = pre ++ xs → (pre = [] ∧ last = -1 ∨ (∃ pr, pre = pr ++ [last]) ∧ 0 ≤ last) → xs.length + 30 < k →
  lodgerref05_May.l0 k (pre.length : Int) B p l s w q t = some (rises last (M p) xs) := by
 unfold maxLen at hl
 intro xs
 induction xs with
 | nil =>
  intro pre last k hp hpre hk
  obtain ⟨k, rfl⟩ : ∃ m, k = m + 1 := ⟨k - 1, by omega⟩
  simp only [lodgerref05_May.l0]; rw [if_neg (by rw [hp]; simp)]; rfl
 | cons x xs ih =>
  intro pre last k hp hpre hk
  simp only [List.length_cons] at hk
  obtain ⟨k, rfl⟩ : ∃ m, k = m + 1 := ⟨k - 1, by omega⟩
  have hlt : pre.length < l.length := by rw [hp]; simp
  simp only [lodgerref05_May.l0, rises]
  have hx : rd l (pre.length : Int) = x := by rw [hp]; exact rd_mid ..
  rw [if_pos (by omega), if_pos (by omega), hx]
  by_cases c1 : x < 0
  ·rw [if_pos c1, decide_eq_false (p := last < x) (by rcases hpre with ⟨_, h⟩ | ⟨_, h⟩ <;> omega)]; rfl
  rw [if_neg c1, ref05Many_eq B h1 h2 (by omega), Option.bind_some]
  by_cases c2 : x ≥ M p
  ·rw [if_pos c2, decide_eq_false (p := x < M p) (by omega)]; simp
  have h := ih (pre ++ [x]) x k (by rw [hp]; simp) (.inr ⟨⟨pre, rfl⟩, by omega⟩) (by omega)
  simp only [List.length_append, List.length_cons, List.length_nil, Nat.zero_add, Int.natCast_add, Int.natCast_one] at h
  rw [if_neg c2, decide_eq_true (p := x < M p) (by omega), w64 (x := (pre.length : Int) + 1) (by omega) (by omega), h]
  rcases hpre with ⟨rfl, rfl⟩ | ⟨⟨pr, rfl⟩, h0⟩
  ·rw [if_neg (by simp), decide_eq_true (p := -1 < x) (by omega)]; rfl
  ·have hy : rd l (((pr ++ [last]).length : Int) - 1) = last := by
    rw [hp]; simp [rd]
   have hl1 : (pr ++ [last]).length = pr.length + 1 := by simp
   rw [if_pos (by omega), w64 (by omega) (by omega), if_pos (by omega), if_pos (by omega), hy]
   by_cases c3 : x ≤ last
   ·rw [if_pos c3, decide_eq_false (p := last < x) (by omega)]; rfl
   ·rw [if_neg c3, decide_eq_true (p := last < x) (by omega)]; rfl
theorem ref05May_eq {B p : Int} (l : List Int) (s w q t : Int) (hl : l.length ≤ maxLen) (hB0 : 0 ≤ B) (hB1 : B ≤ 4294967295) {k : Nat} (hk : l.length + 40 < k) : lodgerref05_May.f k B p l s w q t = some (cmay B p l s w q t) := by
 obtain ⟨k, rfl⟩ : ∃ m, k = m + 1 := ⟨k - 1, by omega⟩
 have hj : lodgerref05_May.j0 (k + 1) true B p l s w q t = some false := by simp only [lodgerref05_May.j0, ↓reduceIte]
 unfold lodgerref05_May.f cmay
 rw [ref04May_eq hB0 hB1 (by omega), Option.bind_some]
 by_cases h : chead B p l s w q t = true
 ·have h' := h
  unfold chead at h'
  rw [decide_eq_true_eq] at h'
  have hb : bmay B p = true := by unfold bmay; rw [decide_eq_true_eq]; omega
  rw [h, hb, if_pos rfl, if_neg (by omega), if_neg (by omega), if_neg (by omega), if_neg (by omega), if_neg (by omega), if_neg (by omega), if_neg (by omega), if_neg (by omega), decide_eq_false (p := t > 8) (by omega)]
  simp only [lodgerref05_May.j0]
  rw [if_neg (by simp)]
  have := refMay_l0 B p l s w q t hl (by omega) (by omega) l [] (-1) k rfl (.inl ⟨rfl, rfl⟩) (by omega)
  rw [show (([] : List Int).length : Int) = 0 from rfl] at this
  rw [this]; rfl
 ·rw [Bool.not_eq_true] at h
  rw [h, hj]
  by_cases hb : bmay B p = true
  ·rw [hb, if_pos rfl]
   have hb' := hb
   unfold bmay at hb'
   rw [decide_eq_true_eq] at hb'
   unfold chead at h
   rw [decide_eq_false_iff_not] at h
   by_cases c1 : (l.length : Int) > 64
   ·rw [if_pos c1]; rfl
   rw [if_neg c1]
   by_cases c2 : s < 1
   ·rw [if_pos c2]; rfl
   rw [if_neg c2]
   by_cases c3 : s > 64
   ·rw [if_pos c3]; rfl
   rw [if_neg c3]
   by_cases c4 : w < 1
   ·rw [if_pos c4]; rfl
   rw [if_neg c4]
   by_cases c5 : w > 64
   ·rw [if_pos c5]; rfl
   rw [if_neg c5]
   by_cases c6 : q < 1
   ·rw [if_pos c6]; rfl
   rw [if_neg c6]
   by_cases c7 : q > 64
   ·rw [if_pos c7]; rfl
   rw [if_neg c7]
   by_cases c8 : t < 1
   ·rw [if_pos c8]; rfl
   rw [if_neg c8, decide_eq_true (p := t > 8) (by omega), hj]; rfl
  ·rw [if_neg hb]; rfl

/-! Lists that rise, as sets: two with the same members are one. -/
abbrev Sd (l : List Int) : Prop := l.Pairwise (fun a b => a < b)
theorem sext : ∀ {l m : List Int}, Sd l → Sd m → (∀ x, x ∈ l ↔ x ∈ m) → l = m
 | [], [], _, _, _ => rfl
 | [], y :: ys, _, _, h => absurd ((h y).2 (by simp)) (by simp)
 | x :: xs, [], _, _, h => absurd ((h x).1 (by simp)) (by simp)
 | x :: xs, y :: ys, hl, hm, h => by
  rw [Sd, List.pairwise_cons] at hl hm
  have e : x = y := by
   rcases List.mem_cons.1 ((h x).1 (by simp)) with e | e
   ·exact e
   ·rcases List.mem_cons.1 ((h y).2 (by simp)) with e2 | e2
    ·exact e2.symm
    ·have := hm.1 x e; have := hl.1 y e2; omega
  subst e
  congr 1
  refine sext hl.2 hm.2 (fun z => ⟨fun hz => ?_, fun hz => ?_⟩)
  ·have := hl.1 z hz
   rcases List.mem_cons.1 ((h z).1 (List.mem_cons_of_mem _ hz)) with e | e
   ·omega
   ·exact e
  ·have := hm.1 z hz
   rcases List.mem_cons.1 ((h z).2 (List.mem_cons_of_mem _ hz)) with e | e
   ·omega
   ·exact e
/-- A set and a number. -/
def ins (a : Int) (l : List Int) : List Int := l.filter (fun x => decide (x < a)) ++ a :: l.filter (fun x => decide (a < x))
/-- A set without a number. -/
def del (a : Int) (l : List Int) : List Int := l.filter (fun x => !decide (x = a))
theorem mem_ins {a x : Int} {l : List Int} : x ∈ ins a l ↔ x = a ∨ x ∈ l := by
 unfold ins
 simp only [List.mem_append, List.mem_cons, List.mem_filter, decide_eq_true_eq]
 constructor
 ·rintro (h | h | h)
  ·exact .inr h.1
  ·exact .inl h
  ·exact .inr h.1
 ·rintro (h | h)
  ·exact .inr (.inl h)
  ·by_cases c1 : x < a
   ·exact .inl ⟨h, c1⟩
   by_cases c2 : x = a
   ·exact .inr (.inl c2)
   ·exact .inr (.inr ⟨h, by omega⟩)
theorem mem_del {a x : Int} {l : List Int} : x ∈ del a l ↔ x ∈ l ∧ x ≠ a := by
 unfold del
 simp [List.mem_filter]
theorem Sd_ins {a : Int} {l : List Int} (h : Sd l) : Sd (ins a l) := by
 unfold ins Sd
 rw [List.pairwise_append, List.pairwise_cons]
 refine ⟨h.filter _, ⟨fun x hx => by simpa using (List.mem_filter.1 hx).2, h.filter _⟩, fun x hx y hy => ?_⟩
 have h1 : x < a := by simpa using (List.mem_filter.1 hx).2
 rcases List.mem_cons.1 hy with rfl | hy
 ·exact h1
 ·have h2 : a < y := by simpa using (List.mem_filter.1 hy).2
  omega
theorem Sd_del {a : Int} {l : List Int} (h : Sd l) : Sd (del a l) := h.filter _
theorem ins_len {a : Int} {l : List Int} (h : a ∉ l) : (ins a l).length = l.length + 1 := by
 unfold ins
 rw [List.length_append, List.length_cons]
 induction l with
 | nil => rfl
 | cons x xs ih =>
  have hx : ¬ x = a := fun e => h (by simp [e])
  have ih := ih (fun hh => h (List.mem_cons_of_mem _ hh))
  by_cases c : x < a
  ·simp only [List.filter_cons, decide_eq_true c, decide_eq_false (show ¬ a < x by omega), if_true, List.length_cons]; simp; omega
  ·simp only [List.filter_cons, decide_eq_false c, decide_eq_true (show a < x by omega), if_true, List.length_cons]; simp; omega
theorem ins_of_mem {a : Int} {l : List Int} (hs : Sd l) (h : a ∈ l) : ins a l = l := sext (Sd_ins hs) hs (fun x => by rw [mem_ins]; exact ⟨fun e => e.elim (fun e => e ▸ h) id, .inr⟩)
theorem del_of_not {a : Int} {l : List Int} (h : a ∉ l) : del a l = l := by
 unfold del
 rw [List.filter_eq_self]
 intro x hx
 simp only [Bool.not_eq_true', decide_eq_false_iff_not]
 rintro rfl
 exact h hx
theorem del_ins {a : Int} {l : List Int} (hs : Sd l) : del a (ins a l) = del a l := sext (Sd_del (Sd_ins hs)) (Sd_del hs) (fun x => by rw [mem_del, mem_del, mem_ins]; exact ⟨fun ⟨h, g⟩ => ⟨h.elim (fun e => absurd e g) id, g⟩, fun ⟨h, g⟩ => ⟨.inr h, g⟩⟩)
theorem ins_del {a : Int} {l : List Int} (hs : Sd l) : ins a (del a l) = ins a l := sext (Sd_ins (Sd_del hs)) (Sd_ins hs) (fun x => by
 rw [mem_ins, mem_ins, mem_del]
 by_cases e : x = a
 ·simp [e]
 ·simp [e])
theorem ins_len_le (a : Int) {l : List Int} (hs : Sd l) : (ins a l).length ≤ l.length + 1 := by
 by_cases h : a ∈ l
 ·rw [ins_of_mem hs h]; omega
 ·rw [ins_len h]; omega
theorem del_len_le (a : Int) (l : List Int) : (del a l).length ≤ l.length := List.length_filter_le _ _
/-- Does a list rise? -/
def rise : List Int → Bool
 | [] => true
 | x :: xs => (match xs with | [] => true | y :: _ => decide (x < y)) && rise xs
theorem rise_iff (l : List Int) : rise l = true ↔ Sd l := by
 induction l with
 | nil => simp [rise, Sd]
 | cons x xs ih =>
  cases xs with
  | nil => simp [rise, Sd]
  | cons y ys =>
   unfold rise
   rw [Bool.and_eq_true, ih, decide_eq_true_eq]
   constructor
   ·rintro ⟨h1, h2⟩
    refine List.pairwise_cons.2 ⟨fun z hz => ?_, h2⟩
    rcases List.mem_cons.1 hz with rfl | hz
    ·exact h1
    ·have := (List.pairwise_cons.1 h2).1 z hz; omega
   ·intro h
    exact ⟨(List.pairwise_cons.1 h).1 y (by simp), (List.pairwise_cons.1 h).2⟩
theorem rises_Sd {last m : Int} {l : List Int} (h : rises last m l = true) : Sd l := by
 induction l generalizing last with
 | nil => exact List.Pairwise.nil
 | cons x xs ih =>
  simp only [rises, Bool.and_eq_true, decide_eq_true_eq] at h
  exact List.pairwise_cons.2 ⟨fun y hy => (rises_bounds h.2 y hy).1, ih h.2⟩
theorem rises_of {last m : Int} {l : List Int} (hs : Sd l) (hb : ∀ x ∈ l, last < x ∧ x < m) : rises last m l = true := by
 induction l generalizing last with
 | nil => rfl
 | cons x xs ih =>
  rw [Sd, List.pairwise_cons] at hs
  simp only [rises, Bool.and_eq_true, decide_eq_true_eq]
  exact ⟨hb x (by simp), ih hs.2 (fun y hy => ⟨hs.1 y hy, (hb y (List.mem_cons_of_mem _ hy)).2⟩)⟩
theorem rd_get {l : List Int} {i : Nat} (h : i < l.length) : rd l (i : Int) = l[i] := by unfold rd; simp [List.getD_eq_getElem?_getD, h]

/-- Is it a set that may be? -/
def mset (n : Int) (H l : List Int) : Bool := rises (-1) n l && l.all (fun x => !decide (x ∈ H))
theorem mset_iff {n : Int} {H l : List Int} : mset n H l = true ↔ Sd l ∧ ∀ x ∈ l, 0 ≤ x ∧ x < n ∧ x ∉ H := by
 unfold mset
 rw [Bool.and_eq_true, List.all_eq_true]
 constructor
 ·rintro ⟨h1, h2⟩
  refine ⟨rises_Sd h1, fun x hx => ?_⟩
  have := rises_bounds h1 x hx
  exact ⟨by omega, this.2, by simpa using h2 x hx⟩
 ·rintro ⟨h1, h2⟩
  refine ⟨rises_of h1 (fun x hx => ?_), fun x hx => by simpa using (h2 x hx).2.2⟩
  have := h2 x hx
  exact ⟨by omega, this.2.1⟩

theorem Usable_eq {B p : Int} (l : List Int) (s w q t : Int) (hl : l.length ≤ maxLen) (h1 : 16 ≤ p) (h2 : p ≤ 32) : block_Usable.f B p l s w q t = some (M p - l.length) := by
 unfold maxLen at hl
 have hb := M_bounds h1 h2
 unfold block_Usable.f; rw [Many_eq B h1 h2, Option.bind_some, w64 (by omega) (by omega)]

theorem ref09May_l0 (B p : Int) (H : List Int) (s w q t : Int) (hH : H.length ≤ maxLen) {l : List Int} (hl : l.length ≤ maxLen) (h1 : 16 ≤ p) (h2 : p ≤ 32) : ∀ (xs pre : List Int) (last : Int) (k : Nat), l = pre ++ xs → (pre = [] ∧ last = -1 ∨ (∃ pr, pre = pr ++ [last]) ∧ 0 ≤ last) → xs.length + H.length + 30 < k →
  lodgerref09_May.l0 k l (pre.length : Int) B p H s w q t = some (rises last (M p) xs && xs.all (fun x => !decide (x ∈ H))) := by
 unfold maxLen at hl
 intro xs
 induction xs with
 | nil =>
  intro pre last k hp hpre hk
  obtain ⟨k, rfl⟩ : ∃ m, k = m + 1 := ⟨k - 1, by omega⟩
  simp only [lodgerref09_May.l0]; rw [if_neg (by rw [hp]; simp)]; rfl
 | cons x xs ih =>
  intro pre last k hp hpre hk
  simp only [List.length_cons] at hk
  obtain ⟨k, rfl⟩ : ∃ m, k = m + 1 := ⟨k - 1, by omega⟩
  have hlt : pre.length < l.length := by rw [hp]; simp
  simp only [lodgerref09_May.l0, rises, List.all_cons]
  have hx : rd l (pre.length : Int) = x := by rw [hp]; exact rd_mid ..
  rw [if_pos (by omega), if_pos (by omega), hx]
  by_cases c1 : x < 0
  ·rw [if_pos c1, decide_eq_false (p := last < x) (by rcases hpre with ⟨_, h⟩ | ⟨_, h⟩ <;> omega)]; rfl
  rw [if_neg c1, ref05Many_eq B h1 h2 (by omega), Option.bind_some]
  by_cases c2 : x ≥ M p
  ·rw [if_pos c2, decide_eq_false (p := x < M p) (by omega)]; simp
  rw [if_neg c2, refHeld_eq B p H s w q t hH x (by omega), Option.bind_some]
  by_cases c3 : x ∈ H
  ·rw [if_pos (by simpa using c3)]; simp [c3]
  have h := ih (pre ++ [x]) x k (by rw [hp]; simp) (.inr ⟨⟨pre, rfl⟩, by omega⟩) (by omega)
  simp only [List.length_append, List.length_cons, List.length_nil, Nat.zero_add, Int.natCast_add, Int.natCast_one] at h
  rw [if_neg (by simpa using c3), decide_eq_true (p := x < M p) (by omega), w64 (x := (pre.length : Int) + 1) (by omega) (by omega), h, decide_eq_false c3]
  rcases hpre with ⟨rfl, rfl⟩ | ⟨⟨pr, rfl⟩, h0⟩
  ·rw [if_neg (by simp), decide_eq_true (p := -1 < x) (by omega)]; simp
  ·have hy : rd l (((pr ++ [last]).length : Int) - 1) = last := by
    rw [hp]; simp [rd]
   have hl1 : (pr ++ [last]).length = pr.length + 1 := by simp
   rw [if_pos (by omega), w64 (by omega) (by omega), if_pos (by omega), if_pos (by omega), hy]
   by_cases c4 : x ≤ last
   ·rw [if_pos c4, decide_eq_false (p := last < x) (by omega)]; simp
   ·rw [if_neg c4, decide_eq_true (p := last < x) (by omega)]; simp
theorem ref09May_eq (B : Int) {p : Int} (H : List Int) (s w q t : Int) (hH : H.length ≤ maxLen) {l : List Int} (hl : l.length ≤ maxLen) (h1 : 16 ≤ p) (h2 : p ≤ 32) {k : Nat} (hk : l.length + H.length + 30 < k) :
  lodgerref09_May.f k B p H s w q t l = some (mset (M p) H l) := by
 unfold lodgerref09_May.f mset
 exact ref09May_l0 B p H s w q t hH hl h1 h2 l [] (-1) k rfl (.inl ⟨rfl, rfl⟩) hk

theorem below_zero {last m : Int} {H : List Int} (h : rises last m H = true) (hl : -1 ≤ last) : below H 0 = 0 := below_none (fun x hx => by have := rises_bounds h x hx; omega)

/-- Of a set, and of what is reserved: as many as there are offsets just if each offset is of one of the two. -/
theorem full_below {n : Int} {H l : List Int} (hr : rises (-1) n H = true) (hl : rises (-1) n l = true) (hd : ∀ x ∈ l, x ∉ H) (y : Nat) :
  below l y + below H y ≤ y ∧ (below l y + below H y = y ↔ ∀ z : Nat, z < y → (z : Int) ∈ H ∨ (z : Int) ∈ l) := by
 induction y with
 | zero => rw [show ((0 : Nat) : Int) = 0 from rfl, below_zero hr (by omega), below_zero hl (by omega)]; exact ⟨Nat.le_refl _, ⟨fun _ z hz => absurd hz (by omega), fun _ => rfl⟩⟩
 | succ y ih =>
  obtain ⟨i1, i2⟩ := ih
  have a := below_succ hr (y : Int)
  have b := below_succ hl (y : Int)
  rw [show ((y + 1 : Nat) : Int) = (y : Int) + 1 by omega]
  have hnot : (y : Int) ∈ l → (y : Int) ∉ H := hd _
  constructor
  ·by_cases c1 : (y : Int) ∈ l
   ·rw [if_neg (hnot c1)] at a; rw [if_pos c1] at b; omega
   ·rw [if_neg c1] at b; split at a <;> omega
  ·constructor
   ·intro h z hz
    by_cases c1 : (y : Int) ∈ l
    ·rw [if_neg (hnot c1)] at a; rw [if_pos c1] at b
     by_cases e : z = y
     ·subst e; exact .inr c1
     ·exact i2.1 (by omega) z (by omega)
    ·rw [if_neg c1] at b
     by_cases c2 : (y : Int) ∈ H
     ·rw [if_pos c2] at a
      by_cases e : z = y
      ·subst e; exact .inl c2
      ·exact i2.1 (by omega) z (by omega)
     ·rw [if_neg c2] at a; omega
   ·intro h
    have g := i2.2 (fun z hz => h z (by omega))
    by_cases c1 : (y : Int) ∈ l
    ·rw [if_neg (hnot c1)] at a; rw [if_pos c1] at b; omega
    ·have c2 := (h y (by omega)).resolve_right c1
     rw [if_neg c1] at b; rw [if_pos c2] at a; omega
theorem fullset_iff {n : Nat} {H l : List Int} (hr : rises (-1) (n : Int) H = true) (hl : mset (n : Int) H l = true) : l.length + H.length ≤ n ∧ (l.length + H.length = n ↔ ∀ z : Nat, z < n → (z : Int) ∈ H ∨ (z : Int) ∈ l) := by
 have hm := mset_iff.1 hl
 have hl' := hl
 unfold mset at hl'
 rw [Bool.and_eq_true] at hl'
 have := full_below hr hl'.1 (fun x hx => (hm.2 x hx).2.2) n
 rwa [below_all (fun x hx => (rises_bounds hr x hx).2), below_all (fun x hx => (hm.2 x hx).2.1)] at this

theorem ref09Has_l0 {l : List Int} (hl : l.length ≤ maxLen) (a : Int) : ∀ (xs pre : List Int) (k : Nat), l = pre ++ xs → xs.length < k →
  lodgerref09_Has.l0 k l a (pre.length : Int) = some (decide (a ∈ xs)) := by
 unfold maxLen at hl
 intro xs
 induction xs with
 | nil =>
  intro pre k hp hk
  obtain ⟨k, rfl⟩ : ∃ m, k = m + 1 := ⟨k - 1, by omega⟩
  simp only [lodgerref09_Has.l0]; rw [if_neg (by rw [hp]; simp)]; simp
 | cons x xs ih =>
  intro pre k hp hk
  simp only [List.length_cons] at hk
  obtain ⟨k, rfl⟩ : ∃ m, k = m + 1 := ⟨k - 1, by omega⟩
  have hlt : pre.length < l.length := by rw [hp]; simp
  simp only [lodgerref09_Has.l0]
  have hx : rd l (pre.length : Int) = x := by rw [hp]; exact rd_mid ..
  rw [if_pos (by omega), if_pos (by omega), hx]
  by_cases e : x = a
  ·rw [if_pos e]; simp [e]
  ·rw [if_neg e, w64 (by omega) (by omega)]
   have h1 := ih (pre ++ [x]) k (by rw [hp]; simp) (by omega)
   simp only [List.length_append, List.length_cons, List.length_nil, Nat.zero_add, Int.natCast_add, Int.natCast_one] at h1
   rw [h1]
   have : ¬ a = x := fun h => e h.symm
   simp [this]
theorem ref09Has_eq {l : List Int} (hl : l.length ≤ maxLen) (a : Int) {k : Nat} (hk : l.length < k) : lodgerref09_Has.f k l a = some (decide (a ∈ l)) := by
 unfold lodgerref09_Has.f
 exact ref09Has_l0 hl a l [] k rfl hk

theorem refFull_l0 (B : Int) {p : Int} (H : List Int) (s w q t : Int) (hH : H.length ≤ maxLen) (h1 : 16 ≤ p) (h2 : p ≤ 32) {l : List Int} (hl : l.length ≤ maxLen) {n : Nat} (hM : M p = n) (hn : n ≤ 70000) (d : Nat) : ∀ (k i : Nat), i ≤ n → n - i = d → d + H.length + l.length + 100 < k →
  ∃ b, lodgerref09_Full.l0 k l i B p H s w q t = some b ∧ (b = true ↔ ∀ z : Nat, i ≤ z → z < n → (z : Int) ∈ H ∨ (z : Int) ∈ l) := by
 induction d with
 | zero =>
  intro k i hi hd hk
  obtain ⟨k, rfl⟩ : ∃ m, k = m + 1 := ⟨k - 1, by omega⟩
  refine ⟨true, ?_, fun _ z hz hz2 => absurd hz2 (by omega), fun _ => rfl⟩
  simp only [lodgerref09_Full.l0]; rw [ref05Many_eq B h1 h2 (by omega), Option.bind_some, if_neg (by omega)]
 | succ d ih =>
  intro k i hi hd hk
  obtain ⟨k, rfl⟩ : ∃ m, k = m + 1 := ⟨k - 1, by omega⟩
  obtain ⟨b, g1, g2⟩ := ih k (i + 1) (by omega) (by omega) (by omega)
  rw [show ((i + 1 : Nat) : Int) = (i : Int) + 1 by omega] at g1
  have hup : ((i : Int) ∈ H ∨ (i : Int) ∈ l) → ((∀ z : Nat, i + 1 ≤ z → z < n → (z : Int) ∈ H ∨ (z : Int) ∈ l) ↔ ∀ z : Nat, i ≤ z → z < n → (z : Int) ∈ H ∨ (z : Int) ∈ l) := by
   intro hi2
   constructor
   ·intro h z hz hz2
    by_cases e : z = i
    ·subst e; exact hi2
    ·exact h z (by omega) hz2
   ·intro h z hz hz2; exact h z (by omega) hz2
  simp only [lodgerref09_Full.l0]
  rw [ref05Many_eq B h1 h2 (by omega), Option.bind_some, if_pos (by omega), refHeld_eq B p H s w q t hH _ (by omega), Option.bind_some, w64 (x := (i : Int) + 1) (by omega) (by omega)]
  by_cases c : (i : Int) ∈ H
  ·rw [decide_eq_true c, if_pos rfl]
   exact ⟨b, g1, by rw [g2, hup (.inl c)]⟩
  ·rw [decide_eq_false c, if_neg (by simp), ref09Has_eq hl _ (by omega), Option.bind_some]
   by_cases c2 : (i : Int) ∈ l
   ·rw [decide_eq_true c2, if_pos rfl]
    exact ⟨b, g1, by rw [g2, hup (.inr c2)]⟩
   ·rw [decide_eq_false c2, if_neg (by simp)]
    refine ⟨false, rfl, fun h => absurd h (by simp), fun h => ?_⟩
    rcases h i (Nat.le_refl _) (by omega) with h | h
    ·exact absurd h c
    ·exact absurd h c2
theorem refFull_eq (B : Int) {p : Int} (H : List Int) (s w q t : Int) (hH : H.length ≤ maxLen) (h1 : 16 ≤ p) (h2 : p ≤ 32) (hr : rises (-1) (M p) H = true) {l : List Int} (hl : l.length ≤ maxLen) (hs : mset (M p) H l = true) {k : Nat} (hk : 70000 + H.length + l.length + 100 < k) :
  lodgerref09_Full.f k B p H s w q t l = some (decide ((l.length : Int) = M p - H.length)) := by
 have hb := M_bounds h1 h2
 obtain ⟨n, hn⟩ : ∃ n : Nat, M p = n := ⟨(M p).toNat, by omega⟩
 unfold lodgerref09_Full.f
 obtain ⟨b, g1, g2⟩ := refFull_l0 B H s w q t hH h1 h2 hl hn (by omega) n k 0 (by omega) (by omega) (by omega)
 rw [show ((0 : Nat) : Int) = 0 from rfl] at g1
 rw [g1]
 congr 1
 rw [hn] at hr hs ⊢
 have hf := fullset_iff hr hs
 rw [Bool.eq_iff_iff, g2, decide_eq_true_eq]
 constructor
 ·intro h
  have := hf.2.2 (fun z hz => h z (by omega) hz)
  omega
 ·intro h z _ hz
  exact hf.2.1 (by omega) z hz

/-- a bar: so many of one sign, then the other -/
def bl (m : Int) (w : Nat) : List Int := (List.range w).map (fun (i : Nat) => if (i : Int) < m then 35 else 46)
theorem bl_len (m : Int) (w : Nat) : (bl m w).length = w := by simp [bl]
theorem bl_succ (m : Int) (w : Nat) : bl m (w + 1) = bl m w ++ [if (w : Int) < m then 35 else 46] := by simp [bl, List.range_succ]
theorem bl_rd {m i : Int} {w : Nat} (h0 : 0 ≤ i) (h1 : i < w) : rd (bl m w) i = if i < m then 35 else 46 := by
 have e : i.toNat < w := by omega
 have : ((i.toNat : Nat) : Int) = i := by omega
 simp [rd, bl, e, this]
theorem bt_nums {xs : List Int} {i : Int} (h0 : 0 ≤ i) (h1 : i < (xs.length : Int)) (h : 0 ≤ rd xs i ∧ rd xs i ≤ 255) : bt (strOfNums xs) i = rd xs i := by
 have e : i.toNat < xs.length := by omega
 have hr : rd xs i = xs[i.toNat] := by unfold rd; simp [e]
 unfold bt
 rw [dif_pos (by rw [strOfNums_size]; exact e)]
 have : (strOfNums xs)[i.toNat]'(by rw [strOfNums_size]; exact e) = UInt8.ofNat (xs[i.toNat]).toNat := by
  show (strOfNums xs).data[i.toNat]'_ = _
  simp [strOfNums]
 rw [this, ← hr]
 simp
 omega
theorem bt_bl {m i : Int} {w : Nat} (h0 : 0 ≤ i) (h1 : i < w) : bt (strOfNums (bl m w)) i = if i < m then 35 else 46 := by
 rw [bt_nums h0 (by rw [bl_len]; exact h1) (by rw [bl_rd h0 h1]; split <;> omega), bl_rd h0 h1]
theorem sz_bl (m : Int) (w : Nat) : ((strOfNums (bl m w)).size : Int) = w := by rw [strOfNums_size, bl_len]
theorem Bar_l0 {m : Int} {w : Nat} (hw : w ≤ 1000) : ∀ (d i k : Nat), i + d = w → d < k → gauge_Bar.l0 k m (bl m i) w i = some (strOfNums (bl m w)) := by
 intro d
 induction d with
 | zero =>
  intro i k hd hk
  obtain ⟨k, rfl⟩ : ∃ m, k = m + 1 := ⟨k - 1, by omega⟩
  obtain rfl : i = w := by omega
  rw [gauge_Bar.l0, if_neg (by omega)]
 | succ d ih =>
  intro i k hd hk
  obtain ⟨k, rfl⟩ : ∃ m, k = m + 1 := ⟨k - 1, by omega⟩
  have h := ih (i + 1) k (by omega) (by omega)
  rw [bl_succ] at h
  rw [show ((i + 1 : Nat) : Int) = (i : Int) + 1 by omega] at h
  rw [gauge_Bar.l0, if_pos (by omega), w64 (x := (i : Int) + 1) (by omega) (by omega)]
  by_cases c : (i : Int) < m
  ·rw [if_pos c] at h; rw [if_pos c, if_pos (by rw [bl_len]; omega)]; exact h
  ·rw [if_neg c] at h; rw [if_neg c, if_pos (by rw [bl_len]; omega)]; exact h
/-- how much of a bar is full -/
def mk_ (U n W : Int) : Int := if U > 0 then W * n / U else W
theorem Bar_eq {B p : Int} {H : List Int} (s w q t : Int) (hH : H.length ≤ 64) (h1 : 16 ≤ p) (h2 : p ≤ 32) (hM : M p ≤ 256) (S : List Int) (hS : S.length ≤ 300) {W : Nat} (hW : W ≤ 200) {k : Nat} (hk : W + 10 ≤ k) :
  gauge_Bar.f k B p H s w q t S W = some (strOfNums (bl (mk_ (M p - H.length) S.length W) W)) := by
 have hb := M_bounds h1 h2
 obtain ⟨k, rfl⟩ : ∃ m, k = m + 1 := ⟨k - 1, by omega⟩
 have j : ∀ m : Int, gauge_Bar.j0 (k + 1) W m = some (strOfNums (bl m W)) := by
  intro m
  rw [gauge_Bar.j0, if_pos (by omega), if_pos (by omega)]
  exact Bar_l0 (w := W) (by omega) W 0 k (by omega) (by omega)
 unfold gauge_Bar.f mk_
 rw [Usable_eq H s w q t (by unfold maxLen; omega) h1 h2, Option.bind_some]
 generalize hU : M p - (H.length : Int) = U
 by_cases c : U > 0
 ·have a0 : 0 ≤ (W : Int) * S.length := Int.mul_nonneg (by omega) (by omega)
  have a1 : (W : Int) * S.length ≤ 200 * 300 := Int.mul_le_mul (by omega) (by omega) (by omega) (by omega)
  have a2 := Int.ediv_nonneg a0 (show 0 ≤ U by omega)
  have a3 := Int.ediv_le_self U a0
  rw [if_pos c, if_neg (by omega), if_pos c, w64 (x := (W : Int) * S.length) (by omega) (by omega), td a0, w64 (by omega) (by omega), j]
 ·rw [if_neg c, if_neg c, j]
theorem mk_b {U n : Int} {W : Nat} (h0 : 0 ≤ n) (hW : (W : Int) ≤ 200) : 0 ≤ mk_ U n W := by
 unfold mk_
 split
 ·exact Int.ediv_nonneg (Int.mul_nonneg (by omega) h0) (by omega)
 ·omega
/-- so many full ones below a place -/
def ct (m i : Int) : Int := if i ≤ m then i else m

theorem awake_true {k : Nat} (hk : 100 ≤ k) : lodgerlaw26_awake.f k = some true := at_rounds lodgerlaw26_awake.mono hk (by decide +kernel)
section
variable {B p : Int} {H : List Int} {s w q t : Int}
theorem bars_l0 {S : List Int} {W : Nat} {m : Int} (hW : W ≤ 200) (m0 : 0 ≤ m) {k0 : Nat} {y : Option Bool} (fin : ∀ k, k0 ≤ k → lodgerlaw26_GaugeBars.l0 k S W (strOfNums (bl m W)) (ct m W) W B p H s w q t = y) :
  ∀ (d i k : Nat), i + d = W → k0 + 2 * d ≤ k → lodgerlaw26_GaugeBars.l0 k S W (strOfNums (bl m W)) (ct m i) i B p H s w q t = y := by
 intro d
 induction d with
 | zero =>
  intro i k hd hk
  obtain rfl : i = W := by omega
  exact fin k (by omega)
 | succ d ih =>
  intro i k hd hk
  obtain ⟨k, rfl⟩ : ∃ m, k = m + 2 := ⟨k - 2, by omega⟩
  have h := ih (i + 1) k (by omega) (by omega)
  rw [show ((i + 1 : Nat) : Int) = (i : Int) + 1 by omega] at h
  have hb := bt_bl (m := m) (i := i) (w := W) (by omega) (by omega)
  have e : lodgerlaw26_GaugeBars.j2 (k + 1) S W (strOfNums (bl m W)) (ct m i) i false B p H s w q t = y := by
   rw [lodgerlaw26_GaugeBars.j2, if_neg (by simp), if_pos (by omega), sz_bl, if_pos (by omega), hb, w64 (x := (i : Int) + 1) (by omega) (by omega)]
   by_cases c : (i : Int) < m
   ·have e1 : ct m i = i := by unfold ct; rw [if_pos (by omega)]
    have e2 : ct m ((i : Int) + 1) = (i : Int) + 1 := by unfold ct; rw [if_pos (by omega)]
    rw [if_pos c, if_pos rfl, e1, w64 (x := (i : Int) + 1) (by omega) (by omega)]; rw [e2] at h; exact h
   ·have e1 : ct m i = m := by unfold ct; split <;> omega
    have e2 : ct m ((i : Int) + 1) = m := by unfold ct; rw [if_neg (by omega)]
    rw [if_neg c, if_neg (by omega), e1]; rw [e2] at h; exact h
  rw [lodgerlaw26_GaugeBars.l0, sz_bl, if_pos (by omega), if_pos (by omega), hb]
  by_cases c : (i : Int) < m
  ·rw [if_pos c, if_pos rfl]
   by_cases c0 : (i : Int) > 0
   ·rw [if_pos c0, w64 (x := (i : Int) - 1) (by omega) (by omega), if_pos (by omega), if_pos (by omega), bt_bl (by omega) (by omega), if_pos (by omega)]
    exact e
   ·rw [if_neg c0]; exact e
  ·rw [if_neg c, if_neg (by omega), if_pos rfl]
   by_cases c0 : (i : Int) > 0
   ·rw [if_pos c0]; exact e
   ·rw [if_neg c0]; exact e
theorem bars_l1 {W : Nat} {m n : Int} (hW : W ≤ 200) (m0 : 0 ≤ m) (hn : ct m W ≤ n) : ∀ (d i k : Nat), i + d = W → d < k → lodgerlaw26_GaugeBars.l1 k n (strOfNums (bl m W)) (ct m i) i = some true := by
 intro d
 induction d with
 | zero =>
  intro i k hd hk
  obtain ⟨k, rfl⟩ : ∃ m, k = m + 1 := ⟨k - 1, by omega⟩
  obtain rfl : i = W := by omega
  rw [lodgerlaw26_GaugeBars.l1, sz_bl, if_neg (by omega), decide_eq_true hn]
 | succ d ih =>
  intro i k hd hk
  obtain ⟨k, rfl⟩ : ∃ m, k = m + 1 := ⟨k - 1, by omega⟩
  have h := ih (i + 1) k (by omega) (by omega)
  rw [show ((i + 1 : Nat) : Int) = (i : Int) + 1 by omega] at h
  rw [lodgerlaw26_GaugeBars.l1, sz_bl, if_pos (by omega), if_pos (by omega), bt_bl (by omega) (by omega), w64 (x := (i : Int) + 1) (by omega) (by omega)]
  by_cases c : (i : Int) < m
  ·have e1 : ct m i = i := by unfold ct; rw [if_pos (by omega)]
   have e2 : ct m ((i : Int) + 1) = (i : Int) + 1 := by unfold ct; rw [if_pos (by omega)]
   rw [if_pos c, if_pos rfl, e1, w64 (x := (i : Int) + 1) (by omega) (by omega)]; rw [e2] at h; exact h
  ·have e1 : ct m i = m := by unfold ct; split <;> omega
   have e2 : ct m ((i : Int) + 1) = m := by unfold ct; rw [if_neg (by omega)]
   rw [if_neg c, if_neg (by omega), e1]; rw [e2] at h; exact h
end
theorem mk_full {U n : Int} {W : Nat} (h0 : 0 ≤ n) (h1 : n ≤ U) (hW : W ≠ 0) : (ct (mk_ U n W) W == (W : Int)) = decide (n = U) := by
 rw [Bool.eq_iff_iff, beq_iff_eq, decide_eq_true_eq]
 unfold mk_ ct
 by_cases c : U > 0
 ·rw [if_pos c]
  have k1 : (W : Int) ≤ W * n / U ↔ (W : Int) * U ≤ W * n := Int.le_ediv_iff_mul_le c
  have k2 : (W : Int) * U ≤ W * n ↔ U ≤ n := ⟨fun h => Int.le_of_mul_le_mul_left h (by omega), fun h => Int.mul_le_mul_of_nonneg_left h (by omega)⟩
  constructor
  ·intro h
   have : (W : Int) ≤ W * n / U := by split at h <;> omega
   have := k2.1 (k1.1 this); omega
  ·intro h
   rw [if_pos (k1.2 (k2.2 (by omega)))]
 ·rw [if_neg c, if_pos (by omega)]
  constructor
  ·intro _; omega
  ·intro _; rfl
theorem GaugeBars : lodgerlaw26_GaugeBars.Pure := by
 intro B p H s w q t S a w0 w1 hH w2 w3 w4 w5 w6 hS hS8 wS wa
 have b0 := wf_u32 w0
 have ba := wf_u8 wa
 refine ⟨H.length + 900000, ?_⟩
 generalize hK : H.length + 900000 = k
 obtain ⟨z, rfl, hz⟩ := more (k := k) (N := H.length + 899999) (by omega)
 have hj : lodgerlaw26_GaugeBars.j0 (z + 1) S a true B p H s w q t = some true := by
  rw [lodgerlaw26_GaugeBars.j0, if_pos rfl, awake_true (by omega)]; rfl
 unfold lodgerlaw26_GaugeBars.f lodgerref11_Fits.f
 rw [awake_true (by omega), Option.bind_some, if_pos rfl, ref05May_eq H s w q t hH b0.1 b0.2 (by omega), Option.bind_some]
 cases hc : cmay B p H s w q t with
 | false => rw [if_neg (by simp), Option.bind_some]; exact hj
 | true =>
  obtain ⟨h1, h2, h3, h4, _⟩ := cmay_head hc
  have hb := M_bounds h1 h2
  rw [if_pos rfl, ref05Many_eq B h1 h2 (by omega), Option.bind_some]
  by_cases hM : M p ≤ 256
  rotate_left
  ·rw [if_neg hM, Option.bind_some]; exact hj
  rw [if_pos hM]
  by_cases hS3 : (S.length : Int) ≤ 300
  rotate_left
  ·rw [if_neg hS3, Option.bind_some]; exact hj
  rw [if_pos hS3, ref09May_eq B H s w q t hH hS h1 h2 (by omega), Option.bind_some, Option.bind_some]
  by_cases hms : mset (M p) H S = true
  rotate_left
  ·rw [Bool.not_eq_true] at hms; rw [hms, if_neg (by simp)]; exact hj
  rw [hms, if_pos rfl]
  by_cases hw2 : a > 200
  ·rw [decide_eq_true hw2]; exact hj
  rw [decide_eq_false hw2]
  obtain ⟨n, hn⟩ : ∃ n : Nat, M p = n := ⟨(M p).toNat, by omega⟩
  have hr := cmay_rises hc
  have hf := (fullset_iff (n := n) (by rw [← hn]; exact hr) (by rw [← hn]; exact hms)).1
  obtain ⟨W, rfl⟩ := Int.eq_ofNat_of_zero_le ba.1
  rw [lodgerlaw26_GaugeBars.j0, if_neg (by simp), w64 (x := (W : Int)) (by omega) (by omega), Bar_eq s w q t (by omega) h1 h2 hM S (by omega) (by omega) (by omega), Option.bind_some]
  generalize hm : mk_ (M p - H.length) S.length W = m
  have m0 : 0 ≤ m := by rw [← hm]; exact mk_b (by omega) (by omega)
  have fin : ∀ k, 800000 + H.length ≤ k → lodgerlaw26_GaugeBars.l0 k S W (strOfNums (bl m W)) (ct m W) W B p H s w q t = some true := by
   intro k hk
   obtain ⟨k, rfl⟩ : ∃ m, k = m + 2 := ⟨k - 2, by omega⟩
   have j3 : lodgerlaw26_GaugeBars.j3 (k + 1) S W (ct m W) false B p H s w q t = some true := by
    rw [lodgerlaw26_GaugeBars.j3, if_neg (by simp)]
    by_cases c : (S.length : Int) = 0
    ·rw [if_pos c]
    ·rw [if_neg c, w64 (x := (S.length : Int) - 1) (by omega) (by omega), if_pos (by omega), if_pos (by omega), w64 (x := (W : Int)) (by omega) (by omega), Bar_eq s w q t (by omega) h1 h2 hM _ (by simp; omega) (by omega) (by omega), Option.bind_some]
     have el : ((S.take ((S.length : Int) - 1).toNat).length : Int) = S.length - 1 := by simp; omega
     rw [el]
     have cU : M p - (H.length : Int) > 0 := by omega
     have mm : mk_ (M p - H.length) (S.length - 1) W ≤ m := by
      rw [← hm]; unfold mk_; rw [if_pos cU, if_pos cU]
      exact Int.ediv_le_ediv (by omega) (Int.mul_le_mul_of_nonneg_left (by omega) (by omega))
     have := bars_l1 (W := W) (m := mk_ (M p - H.length) (S.length - 1) W) (n := ct m W) (by omega) (mk_b (by omega) (by omega)) (by unfold ct; split <;> split <;> omega) W 0 k (by omega) (by omega)
     have z0 : ct (mk_ (M p - H.length) (S.length - 1) W) ((0 : Nat) : Int) = 0 := by
      have := mk_b (U := M p - H.length) (n := S.length - 1) (W := W) (by omega) (by omega)
      unfold ct; rw [if_pos (by omega)]; rfl
     rw [z0] at this; exact this
   rw [lodgerlaw26_GaugeBars.l0, sz_bl, if_neg (by omega), w64 (x := (W : Int)) (by omega) (by omega), if_pos rfl]
   by_cases c : (W : Int) = 0
   ·rw [if_pos c]
    have : (ct m W == (W : Int)) = true := by rw [beq_iff_eq]; unfold ct; rw [if_pos (by omega)]
    rw [this]; exact j3
   ·rw [if_neg c, refFull_eq B H s w q t hH h1 h2 hr hS hms (by omega), Option.bind_some, ← hm, mk_full (by omega) (by omega) (by omega)]
    rw [hm]
    have : (decide ((S.length : Int) = M p - H.length) != decide ((S.length : Int) = M p - H.length)) = false := by simp
    rw [this]; exact j3
  have g := bars_l0 (B := B) (p := p) (H := H) (s := s) (w := w) (q := q) (t := t) (S := S) (W := W) (m := m) (by omega) m0 (k0 := 800000 + H.length) (y := some true) fin W 0 z (by omega) (by omega)
  have z0 : ct m ((0 : Nat) : Int) = 0 := by unfold ct; rw [if_pos (by omega)]; rfl
  rw [z0] at g; exact g

end Go.Proofs.Ytepgjabpoabjnaa.Pure
