/- GaugeOrder answers true at every input: with an offset more a set is fuller, with all it is 1, with none 0; it is above a mark just if it has as many offsets as the least that are; above a greater mark it is above the lesser one; no condition. -/
import Derived.Test.YtepgjabpoabjnaaQGaugeOrderx7
namespace Go.Proofs.Ytepgjabpoabjnaa.Pure
open Go.RowKit Go.Proofs.Ytepgjabpoabjnaa.PGaugeOrder Go.Proofs.YtepgjabpoabjnaaW.PrintWords Go.Proofs.YtepgjabpoabjnaaW.PrintLast Go.Proofs.YtepgjabpoabjnaaW.PrintMore
set_option linter.unusedVariables false
set_option linter.unusedSimpArgs false

theorem w64 {x : Int} (h1 : -9223372036854775808 ≤ x) (h2 : x ≤ 9223372036854775807) : wrap64 x = x := by unfold wrap64; omega
theorem td {a b : Int} (h : 0 ≤ a) : Int.tdiv a b = a / b := Int.tdiv_eq_ediv_of_nonneg h
theorem tm {a b : Int} (h : 0 ≤ a) : Int.tmod a b = a % b := Int.tmod_eq_emod_of_nonneg h
theorem more {k N : Nat} (h : N + 1 ≤ k) : ∃ m, k = m + 1 ∧ N ≤ m := ⟨k - 1, by omega, by omega⟩
theorem wf_u16 {a : Int} (h : (Lit.int .u16 a).wf = true) : 0 ≤ a ∧ a ≤ 65535 := by
 simp [Lit.wf, IntKind.min, IntKind.max, IntKind.signed, IntKind.bits] at h
 omega
theorem wf_u8 {a : Int} (h : (Lit.int .u8 a).wf = true) : 0 ≤ a ∧ a ≤ 255 := by
 simp [Lit.wf, IntKind.min, IntKind.max, IntKind.signed, IntKind.bits] at h
 omega
theorem wf_u32 {a : Int} (h : (Lit.int .u32 a).wf = true) : 0 ≤ a ∧ a ≤ 4294967295 := by
 simp [Lit.wf, IntKind.min, IntKind.max, IntKind.signed, IntKind.bits] at h
 omega
theorem wf_u64 {a : Int} (h : (Lit.int .u64 a).wf = true) : 0 ≤ a ∧ a ≤ 18446744073709551615 := by
 simp [Lit.wf, IntKind.min, IntKind.max, IntKind.signed, IntKind.bits] at h
 omega
theorem wf_i64 {a : Int} (h : (Lit.int .i64 a).wf = true) : -9223372036854775808 ≤ a ∧ a ≤ 9223372036854775807 := by
 simp [Lit.wf, IntKind.min, IntKind.max, IntKind.signed, IntKind.bits] at h
 omega

/-- A word, as the machine's number. -/
def U (x : BitVec 64) : Int := (x.toNat : Int)
theorem U_lt (x : BitVec 64) : 0 ≤ U x ∧ U x < 18446744073709551616 := by have := x.isLt; unfold U; omega
theorem U_of {a : Int} (h0 : 0 ≤ a) (h1 : a ≤ 18446744073709551615) : ∃ x : BitVec 64, a = U x := by
 refine ⟨BitVec.ofNat 64 a.toNat, ?_⟩
 unfold U
 rw [BitVec.toNat_ofNat, Nat.mod_eq_of_lt (by omega)]
 omega
theorem U_inj {x y : BitVec 64} (h : U x = U y) : x = y := by unfold U at h; exact BitVec.eq_of_toNat_eq (by omega)
theorem U_eq {x y : BitVec 64} : (U x == U y) = (x == y) := by
 rw [Bool.eq_iff_iff, beq_iff_eq, beq_iff_eq]; exact ⟨U_inj, fun h => by rw [h]⟩
theorem wrapu (n : Int) : IntKind.u64.wrap n = n % 18446744073709551616 := by simp [IntKind.wrap, IntKind.bits, IntKind.signed]
theorem wrapu_small {n : Int} (h0 : 0 ≤ n) (h1 : n < 18446744073709551616) : IntKind.u64.wrap n = n := by rw [wrapu]; omega
theorem wrapu_U (x : BitVec 64) : IntKind.u64.wrap ((x.toNat : Nat) : Int) = U x := by have := x.isLt; unfold U; rw [wrapu]; omega
theorem ofInt_U (x : BitVec 64) : BitVec.ofInt 64 (U x) = x := by unfold U; rw [BitVec.ofInt_natCast]; simp
theorem bits_or_U (x y : BitVec 64) : Go.bits .or .u64 (U x) (U y) = U (x ||| y) := by
 show IntKind.u64.wrap ((BitVec.ofInt 64 (U x) ||| BitVec.ofInt 64 (U y)).toNat : Nat) = _
 rw [ofInt_U, ofInt_U, wrapu_U]
theorem bits_and_U (x y : BitVec 64) : Go.bits .and .u64 (U x) (U y) = U (x &&& y) := by
 show IntKind.u64.wrap ((BitVec.ofInt 64 (U x) &&& BitVec.ofInt 64 (U y)).toNat : Nat) = _
 rw [ofInt_U, ofInt_U, wrapu_U]
theorem bits_xor_U (x y : BitVec 64) : Go.bits .xor .u64 (U x) (U y) = U (x ^^^ y) := by
 show IntKind.u64.wrap ((BitVec.ofInt 64 (U x) ^^^ BitVec.ofInt 64 (U y)).toNat : Nat) = _
 rw [ofInt_U, ofInt_U, wrapu_U]
theorem bits_andNot_U (x y : BitVec 64) : Go.bits .andNot .u64 (U x) (U y) = U (x &&& ~~~y) := by
 show IntKind.u64.wrap ((BitVec.ofInt 64 (U x) &&& ~~~BitVec.ofInt 64 (U y)).toNat : Nat) = _
 rw [ofInt_U, ofInt_U, wrapu_U]
theorem shl_U {i : Int} (h0 : 0 ≤ i) (h1 : i < 64) : shl .u64 1 i = U (BitVec.twoPow 64 i.toNat) := by
 unfold shl U
 rw [Nat.min_eq_left (by simp [IntKind.bits]; omega), BitVec.toNat_twoPow, wrapu, Int.one_mul]
 simp
theorem shr_U (x : BitVec 64) {i : Int} (h0 : 0 ≤ i) (h1 : i < 64) : shr .u64 (U x) i = U (x >>> i.toNat) := by
 unfold shr U
 rw [Nat.min_eq_left (by simp [IntKind.bits]; omega), BitVec.toNat_ushiftRight, Nat.shiftRight_eq_div_pow]
 simp
theorem one_U : (1 : Int) = U 1#64 := rfl
theorem bit_U (x : BitVec 64) (i : Nat) : (Go.bits .and .u64 (U (x >>> i)) 1 == 1) = x.getLsbD i := by
 rw [one_U, bits_and_U, U_eq, Bool.eq_iff_iff, beq_iff_eq]
 constructor
 ·intro h
  have := congrArg (fun z => z.getLsbD 0) h
  simpa using this
 ·intro h
  apply BitVec.eq_of_getLsbD_eq
  intro j hj
  rw [BitVec.getLsbD_and, BitVec.getLsbD_one, BitVec.getLsbD_ushiftRight]
  by_cases hz : j = 0
  ·subst hz; simp [h]
  ·simp [hz]
theorem bitn_U (x : BitVec 64) (i : Nat) : Go.bits .and .u64 (U (x >>> i)) 1 = (if x.getLsbD i = true then 1 else 0) := by
 have h := bit_U x i
 have hb : Go.bits .and .u64 (U (x >>> i)) 1 = 0 ∨ Go.bits .and .u64 (U (x >>> i)) 1 = 1 := by
  rw [one_U, bits_and_U]
  unfold U
  rw [BitVec.toNat_and]
  have : (x >>> i).toNat &&& (1#64).toNat ≤ 1 := Nat.and_le_right
  simp at this ⊢
  omega
 split
 ·rename_i hg; rw [hg] at h; exact eq_of_beq h
 ·rename_i hg
  rcases hb with hb | hb
  ·exact hb
  ·rw [hb] at h; exact absurd h.symm hg
/-- The word of the lowest bits. -/
def mask (n : Nat) : BitVec 64 := BitVec.ofNat 64 (2 ^ n - 1)
theorem mask_bit (n j : Nat) (hj : j < 64) : (mask n).getLsbD j = decide (j < n) := by
 unfold mask
 rw [BitVec.getLsbD_ofNat, Nat.testBit_two_pow_sub_one]
 simp [hj]
/-- How many of the first n bits are set. -/
def cnt (x : BitVec 64) : Nat → Nat
 | 0 => 0
 | n + 1 => cnt x n + (if x.getLsbD n = true then 1 else 0)
theorem cnt_le (x : BitVec 64) (n : Nat) : cnt x n ≤ n := by
 induction n with
 | zero => simp [cnt]
 | succ n ih => simp only [cnt]; split <;> omega
theorem cnt_mono (x : BitVec 64) {n m : Nat} (h : n ≤ m) : cnt x n ≤ cnt x m := by
 induction h with
 | refl => omega
 | step _ ih => simp only [cnt]; omega
theorem cnt_all (x : BitVec 64) (n : Nat) (h : ∀ j, j < n → x.getLsbD j = true) : cnt x n = n := by
 induction n with
 | zero => simp [cnt]
 | succ n ih => simp only [cnt]; rw [ih (fun j hj => h j (by omega)), if_pos (h n (by omega))]
theorem cnt_lt (x : BitVec 64) (n i : Nat) (hi : i < n) (h : x.getLsbD i = false) : cnt x n < n := by
 induction n with
 | zero => omega
 | succ n ih =>
  simp only [cnt]
  by_cases he : i = n
  ·subst he; rw [h]; have := cnt_le x i; simp; omega
  ·have := ih (by omega); split <;> omega
theorem cnt_congr (x y : BitVec 64) (n : Nat) (h : ∀ j, j < n → x.getLsbD j = y.getLsbD j) : cnt x n = cnt y n := by
 induction n with
 | zero => simp [cnt]
 | succ n ih => simp only [cnt]; rw [ih (fun j hj => h j (by omega)), h n (by omega)]
theorem cnt_set (x : BitVec 64) (n i : Nat) (hi : i < n) (hn : n ≤ 64) (h : x.getLsbD i = false) : cnt (x ||| BitVec.twoPow 64 i) n = cnt x n + 1 := by
 induction n with
 | zero => omega
 | succ n ih =>
  simp only [cnt, BitVec.getLsbD_or, BitVec.getLsbD_twoPow]
  by_cases he : i = n
  ·subst he
   rw [cnt_congr (x ||| BitVec.twoPow 64 i) x i (fun j hj => by simp [BitVec.getLsbD_or, BitVec.getLsbD_twoPow]; omega), h]
   simp; omega
  ·rw [ih (by omega) (by omega)]
   simp [he]; omega

/-- How many addresses a block of this prefix has. -/
def M (p : Int) : Int := 2 ^ (32 - p).toNat
theorem p_cases {p : Int} (h1 : 16 ≤ p) (h2 : p ≤ 32) : p = 16 ∨ p = 17 ∨ p = 18 ∨ p = 19 ∨ p = 20 ∨ p = 21 ∨ p = 22 ∨ p = 23 ∨ p = 24 ∨ p = 25 ∨ p = 26 ∨ p = 27 ∨ p = 28 ∨ p = 29 ∨ p = 30 ∨ p = 31 ∨ p = 32 := by omega
theorem M_bounds {p : Int} (h1 : 16 ≤ p) (h2 : p ≤ 32) : 1 ≤ M p ∧ M p ≤ 65536 := by
 rcases p_cases h1 h2 with rfl | rfl | rfl | rfl | rfl | rfl | rfl | rfl | rfl | rfl | rfl | rfl | rfl | rfl | rfl | rfl | rfl <;> decide
theorem M_fits {p B : Int} (h1 : 16 ≤ p) (h2 : p ≤ 32) (hB0 : 0 ≤ B) (hB1 : B ≤ 4294967295) (hm : B % M p = 0) : B + M p ≤ 4294967296 := by
 rcases p_cases h1 h2 with rfl | rfl | rfl | rfl | rfl | rfl | rfl | rfl | rfl | rfl | rfl | rfl | rfl | rfl | rfl | rfl | rfl
 ·rw [show M 16 = 65536 by decide] at *; omega
 ·rw [show M 17 = 32768 by decide] at *; omega
 ·rw [show M 18 = 16384 by decide] at *; omega
 ·rw [show M 19 = 8192 by decide] at *; omega
 ·rw [show M 20 = 4096 by decide] at *; omega
 ·rw [show M 21 = 2048 by decide] at *; omega
 ·rw [show M 22 = 1024 by decide] at *; omega
 ·rw [show M 23 = 512 by decide] at *; omega
 ·rw [show M 24 = 256 by decide] at *; omega
 ·rw [show M 25 = 128 by decide] at *; omega
 ·rw [show M 26 = 64 by decide] at *; omega
 ·rw [show M 27 = 32 by decide] at *; omega
 ·rw [show M 28 = 16 by decide] at *; omega
 ·rw [show M 29 = 8 by decide] at *; omega
 ·rw [show M 30 = 4 by decide] at *; omega
 ·rw [show M 31 = 2 by decide] at *; omega
 ·rw [show M 32 = 1 by decide] at *; omega
theorem wraps_u64 (n : Int) (h0 : 0 ≤ n) (h1 : n < 2 ^ 64) : IntKind.u64.wrap n = n := by rw [wrapu]; omega
theorem Many_eq (B : Int) {p : Int} (h1 : 16 ≤ p) (h2 : p ≤ 32) : block_Many.f B p = some (M p) := by
 have hb := M_bounds h1 h2
 unfold block_Many.f
 rw [w64 (x := 32 - p) (by omega) (by omega), wrapu_small (by omega) (by omega), if_pos (by omega)]
 unfold M at hb
 unfold shl M
 rw [Nat.min_eq_left (by simp [IntKind.bits]; omega), Int.one_mul, IntKind.wrap_i64]
 generalize (2 : Int) ^ (32 - p).toNat = q at *
 congr 1; omega
/-- May such a block be? -/
def bmay (B p : Int) : Bool := decide (16 ≤ p ∧ p ≤ 32 ∧ B % M p = 0)

theorem ref04Many_eq {p : Int} (h1 : 16 ≤ p) (h2 : p ≤ 32) {k : Nat} (hk : 20 ≤ k) : lodgerref04_Many.f k p = some (M p) := by
 rcases p_cases h1 h2 with rfl | rfl | rfl | rfl | rfl | rfl | rfl | rfl | rfl | rfl | rfl | rfl | rfl | rfl | rfl | rfl | rfl <;> exact at_rounds (fun k => lodgerref04_Many.mono _ k) hk (by decide +kernel)
theorem ref04May_eq {B p : Int} (hB0 : 0 ≤ B) (hB1 : B ≤ 4294967295) {k : Nat} (hk : 20 ≤ k) : lodgerref04_May.f k B p = some (bmay B p) := by
 unfold lodgerref04_May.f bmay
 by_cases c1 : p ≥ 16
 ·rw [if_pos c1]
  by_cases c2 : p ≤ 32
  ·have hb := M_bounds (p := p) (by omega) (by omega)
   rw [if_pos c2, ref04Many_eq (by omega) (by omega) hk, Option.bind_some, if_neg (by omega), w64 (by omega) (by omega), tm hB0]
   congr 1
   rw [Bool.eq_iff_iff, beq_iff_eq, decide_eq_true_eq]
   omega
  ·rw [if_neg c2, decide_eq_false (by omega)]
 ·rw [if_neg c1, decide_eq_false (by omega)]

theorem rd_mid (pre xs : List Int) (x : Int) : rd (pre ++ x :: xs) (pre.length : Int) = x := by simp [rd]

/-- Does a list rise, from behind a number on, below a bound? -/
def rises (last m : Int) : List Int → Bool
 | [] => true
 | x :: xs => decide (last < x) && decide (x < m) && rises x m xs
/-- What a configuration's numbers must be. -/
def chead (B p : Int) (l : List Int) (s w q t : Int) : Bool := decide (16 ≤ p ∧ p ≤ 32 ∧ B % M p = 0 ∧ (l.length : Int) ≤ 64 ∧ 1 ≤ s ∧ s ≤ 64 ∧ 1 ≤ w ∧ w ≤ 64 ∧ 1 ≤ q ∧ q ≤ 64 ∧ 1 ≤ t ∧ t ≤ 8)
/-- May such a configuration be? -/
def cmay (B p : Int) (l : List Int) (s w q t : Int) : Bool := chead B p l s w q t && rises (-1) (M p) l
theorem cmay_head {B p : Int} {l : List Int} {s w q t : Int} (h : cmay B p l s w q t = true) : 16 ≤ p ∧ p ≤ 32 ∧ B % M p = 0 ∧ (l.length : Int) ≤ 64 ∧ 1 ≤ s ∧ s ≤ 64 ∧ 1 ≤ w ∧ w ≤ 64 ∧ 1 ≤ q ∧ q ≤ 64 ∧ 1 ≤ t ∧ t ≤ 8 := by
 unfold cmay chead at h
 rw [Bool.and_eq_true, decide_eq_true_eq] at h
 exact h.1
theorem cmay_rises {B p : Int} {l : List Int} {s w q t : Int} (h : cmay B p l s w q t = true) : rises (-1) (M p) l = true := by
 unfold cmay at h
 rw [Bool.and_eq_true] at h
 exact h.2

theorem rises_bounds {last m : Int} {l : List Int} (h : rises last m l = true) : ∀ x ∈ l, last < x ∧ x < m := by
 induction l generalizing last with
 | nil => intro x hx; cases hx
 | cons y ys ih =>
  simp only [rises, Bool.and_eq_true, decide_eq_true_eq] at h
  intro x hx
  rcases List.mem_cons.1 hx with rfl | hx
  ·exact h.1
  ·have := ih h.2 x hx
   omega
theorem rises_drop {last m : Int} {xs ys : List Int} {y : Int} (h : rises last m (xs ++ y :: ys) = true) : rises last m (xs ++ ys) = true := by
 induction xs generalizing last with
 | nil =>
  simp only [List.nil_append, rises, Bool.and_eq_true, decide_eq_true_eq] at h ⊢
  cases ys with
  | nil => rfl
  | cons z zs =>
   simp only [rises, Bool.and_eq_true, decide_eq_true_eq] at h ⊢
   exact ⟨⟨by omega, h.2.1.2⟩, h.2.2⟩
 | cons x xs ih =>
  simp only [List.cons_append, rises, Bool.and_eq_true] at h ⊢
  exact ⟨h.1, ih h.2⟩
theorem rises_notin {last m : Int} {xs ys : List Int} {y : Int} (h : rises last m (xs ++ y :: ys) = true) : y ∉ xs ++ ys := by
 induction xs generalizing last with
 | nil =>
  simp only [List.nil_append, rises, Bool.and_eq_true, decide_eq_true_eq] at h ⊢
  intro hy
  have := rises_bounds h.2 y hy
  omega
 | cons x xs ih =>
  simp only [List.cons_append, rises, Bool.and_eq_true] at h ⊢
  have h1 := rises_bounds h.2 y (by simp)
  intro hy
  rcases List.mem_cons.1 hy with rfl | hy
  ·omega
  ·exact ih h.2 hy
/-- How many of a list lie below a number. -/
def below (l : List Int) (n : Int) : Nat := (l.filter (fun x => decide (x < n))).length
theorem below_le (l : List Int) (n : Int) : below l n ≤ l.length := List.length_filter_le _ _
theorem below_all {l : List Int} {n : Int} (h : ∀ x ∈ l, x < n) : below l n = l.length := by
 unfold below
 rw [List.filter_eq_self.2 (fun x hx => by simpa using h x hx)]
theorem below_none {l : List Int} {n : Int} (h : ∀ x ∈ l, n ≤ x) : below l n = 0 := by
 unfold below
 rw [List.filter_eq_nil_iff.2 (fun x hx => by have := h x hx; simp; omega)]; rfl
theorem below_succ {last m : Int} {l : List Int} (h : rises last m l = true) (n : Int) : below l (n + 1) = below l n + (if n ∈ l then 1 else 0) := by
 induction l generalizing last with
 | nil => simp [below]
 | cons x xs ih =>
  simp only [rises, Bool.and_eq_true, decide_eq_true_eq] at h
  have h2 := ih h.2
  have hb := rises_bounds h.2
  unfold below at h2 ⊢
  simp only [List.filter_cons]
  by_cases c1 : x < n
  ·have : ¬ n = x := by omega
   simp only [show x < n + 1 by omega, c1, decide_true, if_true, List.length_cons, List.mem_cons, this, false_or]
   omega
  ·by_cases c2 : x = n
   ·subst c2
    have hn : x ∉ xs := fun hx => by have := (hb x hx).1; omega
    simp only [show x < x + 1 by omega, show ¬ x < x by omega, decide_true, decide_false, if_true, List.length_cons, List.mem_cons, true_or, if_neg hn] at h2 ⊢
    simp; omega
   ·have : ¬ n = x := fun e => c2 e.symm
    simp only [show ¬ x < n + 1 by omega, c1, decide_false, List.mem_cons, this, false_or]
    simpa using h2

theorem refHeld_l0 (B p : Int) (l : List Int) (s w q t : Int) (hl : l.length ≤ maxLen) (a : Int) : ∀ (xs pre : List Int) (k : Nat), l = pre ++ xs → xs.length < k →
  lodgerref05_Held.l0 k a (pre.length : Int) B p l s w q t = some (decide (a ∈ xs)) := by
 unfold maxLen at hl
 intro xs
 induction xs with
 | nil =>
  intro pre k hp hk
  obtain ⟨k, rfl⟩ : ∃ m, k = m + 1 := ⟨k - 1, by omega⟩
  simp only [lodgerref05_Held.l0]; rw [if_neg (by rw [hp]; simp)]; simp
 | cons x xs ih =>
  intro pre k hp hk
  simp only [List.length_cons] at hk
  obtain ⟨k, rfl⟩ : ∃ m, k = m + 1 := ⟨k - 1, by omega⟩
  have hlt : pre.length < l.length := by rw [hp]; simp
  simp only [lodgerref05_Held.l0]
  rw [if_pos (by omega), if_pos (by omega)]
  have hx : rd l (pre.length : Int) = x := by rw [hp]; exact rd_mid ..
  rw [hx]
  by_cases e : x = a
  ·rw [if_pos e]; simp [e]
  ·rw [if_neg e, w64 (by omega) (by omega)]
   have h1 := ih (pre ++ [x]) k (by rw [hp]; simp) (by omega)
   simp only [List.length_append, List.length_cons, List.length_nil, Nat.zero_add, Int.natCast_add, Int.natCast_one] at h1
   rw [h1]
   have : ¬ a = x := fun h => e h.symm
   simp [this]
theorem refHeld_eq (B p : Int) (l : List Int) (s w q t : Int) (hl : l.length ≤ maxLen) (a : Int) {k : Nat} (hk : l.length < k) : lodgerref05_Held.f k B p l s w q t a = some (decide (a ∈ l)) := by
 unfold lodgerref05_Held.f
 exact refHeld_l0 B p l s w q t hl a l [] k rfl hk

theorem ref05Many_eq (B : Int) {p : Int} (h1 : 16 ≤ p) (h2 : p ≤ 32) {k : Nat} (hk : 20 ≤ k) : lodgerref05_Many.f k B p = some (M p) := by
 unfold lodgerref05_Many.f; rw [ref04Many_eq h1 h2 hk]; rfl

theorem refMay_l0 (B p : Int) (l : List Int) (s w q t : Int) (hl : l.length ≤ maxLen) (h1 : 16 ≤ p) (h2 : p ≤ 32) : ∀ (xs pre : List Int) (last : Int) (k : Nat), l = pre ++ xs → (pre = [] ∧ last = -1 ∨ (∃ pr, pre = pr ++ [last]) ∧ 0 ≤ last) → xs.length + 30 < k →
  lodgerref05_May.l0 k (pre.length : Int) B p l s w q t = some (rises last (M p) xs) := by
 unfold maxLen at hl
 intro xs
 induction xs with
 | nil =>
  intro pre last k hp hpre hk
  obtain ⟨k, rfl⟩ : ∃ m, k = m + 1 := ⟨k - 1, by omega⟩
  simp only [lodgerref05_May.l0]; rw [if_neg (by rw [hp]; simp)]; rfl
 | cons x xs ih =>
  intro pre last k hp hpre hk
  simp only [List.length_cons] at hk
  obtain ⟨k, rfl⟩ : ∃ m, k = m + 1 := ⟨k - 1, by omega⟩
  have hlt : pre.length < l.length := by rw [hp]; simp
  simp only [lodgerref05_May.l0, rises]
  have hx : rd l (pre.length : Int) = x := by rw [hp]; exact rd_mid ..
  rw [if_pos (by omega), if_pos (by omega), hx]
  by_cases c1 : x < 0
  ·rw [if_pos c1, decide_eq_false (p := last < x) (by rcases hpre with ⟨_, h⟩ | ⟨_, h⟩ <;> omega)]; rfl
  rw [if_neg c1, ref05Many_eq B h1 h2 (by omega), Option.bind_some]
  by_cases c2 : x ≥ M p
  ·rw [if_pos c2, decide_eq_false (p := x < M p) (by omega)]; simp
  have h := ih (pre ++ [x]) x k (by rw [hp]; simp) (.inr ⟨⟨pre, rfl⟩, by omega⟩) (by omega)
  simp only [List.length_append, List.length_cons, List.length_nil, Nat.zero_add, Int.natCast_add, Int.natCast_one] at h
  rw [if_neg c2, decide_eq_true (p := x < M p) (by omega), w64 (x := (pre.length : Int) + 1) (by omega) (by omega), h]
  rcases hpre with ⟨rfl, rfl⟩ | ⟨⟨pr, rfl⟩, h0⟩
  ·rw [if_neg (by simp), decide_eq_true (p := -1 < x) (by omega)]; rfl
  ·have hy : rd l (((pr ++ [last]).length : Int) - 1) = last := by
    rw [hp]; simp [rd]
   have hl1 : (pr ++ [last]).length = pr.length + 1 := by simp
   rw [if_pos (by omega), w64 (by omega) (by omega), if_pos (by omega), if_pos (by omega), hy]
   by_cases c3 : x ≤ last
   ·rw [if_pos c3, decide_eq_false (p := last < x) (by omega)]; rfl
   ·rw [if_neg c3, decide_eq_true (p := last < x) (by omega)]; rfl
theorem ref05May_eq {B p : Int} (l : List Int) (s w q t : Int) (hl : l.length ≤ maxLen) (hB0 : 0 ≤ B) (hB1 : B ≤ 4294967295) {k : Nat} (hk : l.length + 40 < k) : lodgerref05_May.f k B p l s w q t = some (cmay B p l s w q t) := by
 obtain ⟨k, rfl⟩ : ∃ m, k = m + 1 := ⟨k - 1, by omega⟩
 have hj : lodgerref05_May.j0 (k + 1) true B p l s w q t = some false := by simp only [lodgerref05_May.j0, ↓reduceIte]
 unfold lodgerref05_May.f cmay
 rw [ref04May_eq hB0 hB1 (by omega), Option.bind_some]
 by_cases h : chead B p l s w q t = true
 ·have h' := h
  unfold chead at h'
  rw [decide_eq_true_eq] at h'
  have hb : bmay B p = true := by unfold bmay; rw [decide_eq_true_eq]; omega
  rw [h, hb, if_pos rfl, if_neg (by omega), if_neg (by omega), if_neg (by omega), if_neg (by omega), if_neg (by omega), if_neg (by omega), if_neg (by omega), if_neg (by omega), decide_eq_false (p := t > 8) (by omega)]
  simp only [lodgerref05_May.j0]
  rw [if_neg (by simp)]
  have := refMay_l0 B p l s w q t hl (by omega) (by omega) l [] (-1) k rfl (.inl ⟨rfl, rfl⟩) (by omega)
  rw [show (([] : List Int).length : Int) = 0 from rfl] at this
  rw [this]; rfl
 ·rw [Bool.not_eq_true] at h
  rw [h, hj]
  by_cases hb : bmay B p = true
  ·rw [hb, if_pos rfl]
   have hb' := hb
   unfold bmay at hb'
   rw [decide_eq_true_eq] at hb'
   unfold chead at h
   rw [decide_eq_false_iff_not] at h
   by_cases c1 : (l.length : Int) > 64
   ·rw [if_pos c1]; rfl
   rw [if_neg c1]
   by_cases c2 : s < 1
   ·rw [if_pos c2]; rfl
   rw [if_neg c2]
   by_cases c3 : s > 64
   ·rw [if_pos c3]; rfl
   rw [if_neg c3]
   by_cases c4 : w < 1
   ·rw [if_pos c4]; rfl
   rw [if_neg c4]
   by_cases c5 : w > 64
   ·rw [if_pos c5]; rfl
   rw [if_neg c5]
   by_cases c6 : q < 1
   ·rw [if_pos c6]; rfl
   rw [if_neg c6]
   by_cases c7 : q > 64
   ·rw [if_pos c7]; rfl
   rw [if_neg c7]
   by_cases c8 : t < 1
   ·rw [if_pos c8]; rfl
   rw [if_neg c8, decide_eq_true (p := t > 8) (by omega), hj]; rfl
  ·rw [if_neg hb]; rfl

/-! Lists that rise, as sets: two with the same members are one. -/
abbrev Sd (l : List Int) : Prop := l.Pairwise (fun a b => a < b)
theorem sext : ∀ {l m : List Int}, Sd l → Sd m → (∀ x, x ∈ l ↔ x ∈ m) → l = m
 | [], [], _, _, _ => rfl
 | [], y :: ys, _, _, h => absurd ((h y).2 (by simp)) (by simp)
 | x :: xs, [], _, _, h => absurd ((h x).1 (by simp)) (by simp)
 | x :: xs, y :: ys, hl, hm, h => by
  rw [Sd, List.pairwise_cons] at hl hm
  have e : x = y := by
   rcases List.mem_cons.1 ((h x).1 (by simp)) with e | e
   ·exact e
   ·rcases List.mem_cons.1 ((h y).2 (by simp)) with e2 | e2
    ·exact e2.symm
    ·have := hm.1 x e; have := hl.1 y e2; omega
  subst e
  congr 1
  refine sext hl.2 hm.2 (fun z => ⟨fun hz => ?_, fun hz => ?_⟩)
  ·have := hl.1 z hz
   rcases List.mem_cons.1 ((h z).1 (List.mem_cons_of_mem _ hz)) with e | e
   ·omega
   ·exact e
  ·have := hm.1 z hz
   rcases List.mem_cons.1 ((h z).2 (List.mem_cons_of_mem _ hz)) with e | e
   ·omega
   ·exact e
/-- A set and a number. -/
def ins (a : Int) (l : List Int) : List Int := l.filter (fun x => decide (x < a)) ++ a :: l.filter (fun x => decide (a < x))
/-- A set without a number. -/
def del (a : Int) (l : List Int) : List Int := l.filter (fun x => !decide (x = a))
theorem mem_ins {a x : Int} {l : List Int} : x ∈ ins a l ↔ x = a ∨ x ∈ l := by
 unfold ins
 simp only [List.mem_append, List.mem_cons, List.mem_filter, decide_eq_true_eq]
 constructor
 ·rintro (h | h | h)
  ·exact .inr h.1
  ·exact .inl h
  ·exact .inr h.1
 ·rintro (h | h)
  ·exact .inr (.inl h)
  ·by_cases c1 : x < a
   ·exact .inl ⟨h, c1⟩
   by_cases c2 : x = a
   ·exact .inr (.inl c2)
   ·exact .inr (.inr ⟨h, by omega⟩)
theorem mem_del {a x : Int} {l : List Int} : x ∈ del a l ↔ x ∈ l ∧ x ≠ a := by
 unfold del
 simp [List.mem_filter]
theorem Sd_ins {a : Int} {l : List Int} (h : Sd l) : Sd (ins a l) := by
 unfold ins Sd
 rw [List.pairwise_append, List.pairwise_cons]
 refine ⟨h.filter _, ⟨fun x hx => by simpa using (List.mem_filter.1 hx).2, h.filter _⟩, fun x hx y hy => ?_⟩
 have h1 : x < a := by simpa using (List.mem_filter.1 hx).2
 rcases List.mem_cons.1 hy with rfl | hy
 ·exact h1
 ·have h2 : a < y := by simpa using (List.mem_filter.1 hy).2
  omega
theorem Sd_del {a : Int} {l : List Int} (h : Sd l) : Sd (del a l) := h.filter _
theorem ins_len {a : Int} {l : List Int} (h : a ∉ l) : (ins a l).length = l.length + 1 := by
 unfold ins
 rw [List.length_append, List.length_cons]
 induction l with
 | nil => rfl
 | cons x xs ih =>
  have hx : ¬ x = a := fun e => h (by simp [e])
  have ih := ih (fun hh => h (List.mem_cons_of_mem _ hh))
  by_cases c : x < a
  ·simp only [List.filter_cons, decide_eq_true c, decide_eq_false (show ¬ a < x by omega), if_true, List.length_cons]; simp; omega
  ·simp only [List.filter_cons, decide_eq_false c, decide_eq_true (show a < x by omega), if_true, List.length_cons]; simp; omega
theorem ins_of_mem {a : Int} {l : List Int} (hs : Sd l) (h : a ∈ l) : ins a l = l := sext (Sd_ins hs) hs (fun x => by rw [mem_ins]; exact ⟨fun e => e.elim (fun e => e ▸ h) id, .inr⟩)
theorem del_of_not {a : Int} {l : List Int} (h : a ∉ l) : del a l = l := by
 unfold del
 rw [List.filter_eq_self]
 intro x hx
 simp only [Bool.not_eq_true', decide_eq_false_iff_not]
 rintro rfl
 exact h hx
theorem del_ins {a : Int} {l : List Int} (hs : Sd l) : del a (ins a l) = del a l := sext (Sd_del (Sd_ins hs)) (Sd_del hs) (fun x => by rw [mem_del, mem_del, mem_ins]; exact ⟨fun ⟨h, g⟩ => ⟨h.elim (fun e => absurd e g) id, g⟩, fun ⟨h, g⟩ => ⟨.inr h, g⟩⟩)
theorem ins_del {a : Int} {l : List Int} (hs : Sd l) : ins a (del a l) = ins a l := sext (Sd_ins (Sd_del hs)) (Sd_ins hs) (fun x => by
 rw [mem_ins, mem_ins, mem_del]
 by_cases e : x = a
 ·simp [e]
 ·simp [e])
theorem ins_len_le (a : Int) {l : List Int} (hs : Sd l) : (ins a l).length ≤ l.length + 1 := by
 by_cases h : a ∈ l
 ·rw [ins_of_mem hs h]; omega
 ·rw [ins_len h]; omega
theorem del_len_le (a : Int) (l : List Int) : (del a l).length ≤ l.length := List.length_filter_le _ _
/-- Does a list rise? -/
def rise : List Int → Bool
 | [] => true
 | x :: xs => (match xs with | [] => true | y :: _ => decide (x < y)) && rise xs
theorem rise_iff (l : List Int) : rise l = true ↔ Sd l := by
 induction l with
 | nil => simp [rise, Sd]
 | cons x xs ih =>
  cases xs with
  | nil => simp [rise, Sd]
  | cons y ys =>
   unfold rise
   rw [Bool.and_eq_true, ih, decide_eq_true_eq]
   constructor
   ·rintro ⟨h1, h2⟩
    refine List.pairwise_cons.2 ⟨fun z hz => ?_, h2⟩
    rcases List.mem_cons.1 hz with rfl | hz
    ·exact h1
    ·have := (List.pairwise_cons.1 h2).1 z hz; omega
   ·intro h
    exact ⟨(List.pairwise_cons.1 h).1 y (by simp), (List.pairwise_cons.1 h).2⟩
theorem rises_Sd {last m : Int} {l : List Int} (h : rises last m l = true) : Sd l := by
 induction l generalizing last with
 | nil => exact List.Pairwise.nil
 | cons x xs ih =>
  simp only [rises, Bool.and_eq_true, decide_eq_true_eq] at h
  exact List.pairwise_cons.2 ⟨fun y hy => (rises_bounds h.2 y hy).1, ih h.2⟩
theorem rises_of {last m : Int} {l : List Int} (hs : Sd l) (hb : ∀ x ∈ l, last < x ∧ x < m) : rises last m l = true := by
 induction l generalizing last with
 | nil => rfl
 | cons x xs ih =>
  rw [Sd, List.pairwise_cons] at hs
  simp only [rises, Bool.and_eq_true, decide_eq_true_eq]
  exact ⟨hb x (by simp), ih hs.2 (fun y hy => ⟨hs.1 y hy, (hb y (List.mem_cons_of_mem _ hy)).2⟩)⟩
theorem rd_get {l : List Int} {i : Nat} (h : i < l.length) : rd l (i : Int) = l[i] := by unfold rd; simp [List.getD_eq_getElem?_getD, h]

/-- Is it a set that may be? -/
def mset (n : Int) (H l : List Int) : Bool := rises (-1) n l && l.all (fun x => !decide (x ∈ H))
theorem mset_iff {n : Int} {H l : List Int} : mset n H l = true ↔ Sd l ∧ ∀ x ∈ l, 0 ≤ x ∧ x < n ∧ x ∉ H := by
 unfold mset
 rw [Bool.and_eq_true, List.all_eq_true]
 constructor
 ·rintro ⟨h1, h2⟩
  refine ⟨rises_Sd h1, fun x hx => ?_⟩
  have := rises_bounds h1 x hx
  exact ⟨by omega, this.2, by simpa using h2 x hx⟩
 ·rintro ⟨h1, h2⟩
  refine ⟨rises_of h1 (fun x hx => ?_), fun x hx => by simpa using (h2 x hx).2.2⟩
  have := h2 x hx
  exact ⟨by omega, this.2.1⟩

theorem Usable_eq {B p : Int} (l : List Int) (s w q t : Int) (hl : l.length ≤ maxLen) (h1 : 16 ≤ p) (h2 : p ≤ 32) : block_Usable.f B p l s w q t = some (M p - l.length) := by
 unfold maxLen at hl
 have hb := M_bounds h1 h2
 unfold block_Usable.f; rw [Many_eq B h1 h2, Option.bind_some, w64 (by omega) (by omega)]

theorem ref09May_l0 (B p : Int) (H : List Int) (s w q t : Int) (hH : H.length ≤ maxLen) {l : List Int} (hl : l.length ≤ maxLen) (h1 : 16 ≤ p) (h2 : p ≤ 32) : ∀ (xs pre : List Int) (last : Int) (k : Nat), l = pre ++ xs → (pre = [] ∧ last = -1 ∨ (∃ pr, pre = pr ++ [last]) ∧ 0 ≤ last) → xs.length + H.length + 30 < k →
  lodgerref09_May.l0 k l (pre.length : Int) B p H s w q t = some (rises last (M p) xs && xs.all (fun x => !decide (x ∈ H))) := by
 unfold maxLen at hl
 intro xs
 induction xs with
 | nil =>
  intro pre last k hp hpre hk
  obtain ⟨k, rfl⟩ : ∃ m, k = m + 1 := ⟨k - 1, by omega⟩
  simp only [lodgerref09_May.l0]; rw [if_neg (by rw [hp]; simp)]; rfl
 | cons x xs ih =>
  intro pre last k hp hpre hk
  simp only [List.length_cons] at hk
  obtain ⟨k, rfl⟩ : ∃ m, k = m + 1 := ⟨k - 1, by omega⟩
  have hlt : pre.length < l.length := by rw [hp]; simp
  simp only [lodgerref09_May.l0, rises, List.all_cons]
  have hx : rd l (pre.length : Int) = x := by rw [hp]; exact rd_mid ..
  rw [if_pos (by omega), if_pos (by omega), hx]
  by_cases c1 : x < 0
  ·rw [if_pos c1, decide_eq_false (p := last < x) (by rcases hpre with ⟨_, h⟩ | ⟨_, h⟩ <;> omega)]; rfl
  rw [if_neg c1, ref05Many_eq B h1 h2 (by omega), Option.bind_some]
  by_cases c2 : x ≥ M p
  ·rw [if_pos c2, decide_eq_false (p := x < M p) (by omega)]; simp
  rw [if_neg c2, refHeld_eq B p H s w q t hH x (by omega), Option.bind_some]
  by_cases c3 : x ∈ H
  ·rw [if_pos (by simpa using c3)]; simp [c3]
  have h := ih (pre ++ [x]) x k (by rw [hp]; simp) (.inr ⟨⟨pre, rfl⟩, by omega⟩) (by omega)
  simp only [List.length_append, List.length_cons, List.length_nil, Nat.zero_add, Int.natCast_add, Int.natCast_one] at h
  rw [if_neg (by simpa using c3), decide_eq_true (p := x < M p) (by omega), w64 (x := (pre.length : Int) + 1) (by omega) (by omega), h, decide_eq_false c3]
  rcases hpre with ⟨rfl, rfl⟩ | ⟨⟨pr, rfl⟩, h0⟩
  ·rw [if_neg (by simp), decide_eq_true (p := -1 < x) (by omega)]; simp
  ·have hy : rd l (((pr ++ [last]).length : Int) - 1) = last := by
    rw [hp]; simp [rd]
   have hl1 : (pr ++ [last]).length = pr.length + 1 := by simp
   rw [if_pos (by omega), w64 (by omega) (by omega), if_pos (by omega), if_pos (by omega), hy]
   by_cases c4 : x ≤ last
   ·rw [if_pos c4, decide_eq_false (p := last < x) (by omega)]; simp
   ·rw [if_neg c4, decide_eq_true (p := last < x) (by omega)]; simp
theorem ref09May_eq (B : Int) {p : Int} (H : List Int) (s w q t : Int) (hH : H.length ≤ maxLen) {l : List Int} (hl : l.length ≤ maxLen) (h1 : 16 ≤ p) (h2 : p ≤ 32) {k : Nat} (hk : l.length + H.length + 30 < k) :
  lodgerref09_May.f k B p H s w q t l = some (mset (M p) H l) := by
 unfold lodgerref09_May.f mset
 exact ref09May_l0 B p H s w q t hH hl h1 h2 l [] (-1) k rfl (.inl ⟨rfl, rfl⟩) hk

theorem below_zero {last m : Int} {H : List Int} (h : rises last m H = true) (hl : -1 ≤ last) : below H 0 = 0 := below_none (fun x hx => by have := rises_bounds h x hx; omega)

/-- Of a set, and of what is reserved: as many as there are offsets just if each offset is of one of the two. -/
theorem full_below {n : Int} {H l : List Int} (hr : rises (-1) n H = true) (hl : rises (-1) n l = true) (hd : ∀ x ∈ l, x ∉ H) (y : Nat) :
  below l y + below H y ≤ y ∧ (below l y + below H y = y ↔ ∀ z : Nat, z < y → (z : Int) ∈ H ∨ (z : Int) ∈ l) := by
 induction y with
 | zero => rw [show ((0 : Nat) : Int) = 0 from rfl, below_zero hr (by omega), below_zero hl (by omega)]; exact ⟨Nat.le_refl _, ⟨fun _ z hz => absurd hz (by omega), fun _ => rfl⟩⟩
 | succ y ih =>
  obtain ⟨i1, i2⟩ := ih
  have a := below_succ hr (y : Int)
  have b := below_succ hl (y : Int)
  rw [show ((y + 1 : Nat) : Int) = (y : Int) + 1 by omega]
  have hnot : (y : Int) ∈ l → (y : Int) ∉ H := hd _
  constructor
  ·by_cases c1 : (y : Int) ∈ l
   ·rw [if_neg (hnot c1)] at a; rw [if_pos c1] at b; omega
   ·rw [if_neg c1] at b; split at a <;> omega
  ·constructor
   ·intro h z hz
    by_cases c1 : (y : Int) ∈ l
    ·rw [if_neg (hnot c1)] at a; rw [if_pos c1] at b
     by_cases e : z = y
     ·subst e; exact .inr c1
     ·exact i2.1 (by omega) z (by omega)
    ·rw [if_neg c1] at b
     by_cases c2 : (y : Int) ∈ H
     ·rw [if_pos c2] at a
      by_cases e : z = y
      ·subst e; exact .inl c2
      ·exact i2.1 (by omega) z (by omega)
     ·rw [if_neg c2] at a; omega
   ·intro h
    have g := i2.2 (fun z hz => h z (by omega))
    by_cases c1 : (y : Int) ∈ l
    ·rw [if_neg (hnot c1)] at a; rw [if_pos c1] at b; omega
    ·have c2 := (h y (by omega)).resolve_right c1
     rw [if_neg c1] at b; rw [if_pos c2] at a; omega
theorem fullset_iff {n : Nat} {H l : List Int} (hr : rises (-1) (n : Int) H = true) (hl : mset (n : Int) H l = true) : l.length + H.length ≤ n ∧ (l.length + H.length = n ↔ ∀ z : Nat, z < n → (z : Int) ∈ H ∨ (z : Int) ∈ l) := by
 have hm := mset_iff.1 hl
 have hl' := hl
 unfold mset at hl'
 rw [Bool.and_eq_true] at hl'
 have := full_below hr hl'.1 (fun x hx => (hm.2 x hx).2.2) n
 rwa [below_all (fun x hx => (rises_bounds hr x hx).2), below_all (fun x hx => (hm.2 x hx).2.1)] at this

theorem ref09Has_l0 {l : List Int} (hl : l.length ≤ maxLen) (a : Int) : ∀ (xs pre : List Int) (k : Nat), l = pre ++ xs → xs.length < k →
  lodgerref09_Has.l0 k l a (pre.length : Int) = some (decide (a ∈ xs)) := by
 unfold maxLen at hl
 intro xs
 induction xs with
 | nil =>
  intro pre k hp hk
  obtain ⟨k, rfl⟩ : ∃ m, k = m + 1 := ⟨k - 1, by omega⟩
  simp only [lodgerref09_Has.l0]; rw [if_neg (by rw [hp]; simp)]; simp
 | cons x xs ih =>
  intro pre k hp hk
  simp only [List.length_cons] at hk
  obtain ⟨k, rfl⟩ : ∃ m, k = m + 1 := ⟨k - 1, by omega⟩
  have hlt : pre.length < l.length := by rw [hp]; simp
  simp only [lodgerref09_Has.l0]
  have hx : rd l (pre.length : Int) = x := by rw [hp]; exact rd_mid ..
  rw [if_pos (by omega), if_pos (by omega), hx]
  by_cases e : x = a
  ·rw [if_pos e]; simp [e]
  ·rw [if_neg e, w64 (by omega) (by omega)]
   have h1 := ih (pre ++ [x]) k (by rw [hp]; simp) (by omega)
   simp only [List.length_append, List.length_cons, List.length_nil, Nat.zero_add, Int.natCast_add, Int.natCast_one] at h1
   rw [h1]
   have : ¬ a = x := fun h => e h.symm
   simp [this]
theorem ref09Has_eq {l : List Int} (hl : l.length ≤ maxLen) (a : Int) {k : Nat} (hk : l.length < k) : lodgerref09_Has.f k l a = some (decide (a ∈ l)) := by
 unfold lodgerref09_Has.f
 exact ref09Has_l0 hl a l [] k rfl hk

theorem refFull_l0 (B : Int) {p : Int} (H : List Int) (s w q t : Int) (hH : H.length ≤ maxLen) (h1 : 16 ≤ p) (h2 : p ≤ 32) {l : List Int} (hl : l.length ≤ maxLen) {n : Nat} (hM : M p = n) (hn : n ≤ 70000) (d : Nat) : ∀ (k i : Nat), i ≤ n → n - i = d → d + H.length + l.length + 100 < k →
  ∃ b, lodgerref09_Full.l0 k l i B p H s w q t = some b ∧ (b = true ↔ ∀ z : Nat, i ≤ z → z < n → (z : Int) ∈ H ∨ (z : Int) ∈ l) := by
 induction d with
 | zero =>
  intro k i hi hd hk
  obtain ⟨k, rfl⟩ : ∃ m, k = m + 1 := ⟨k - 1, by omega⟩
  refine ⟨true, ?_, fun _ z hz hz2 => absurd hz2 (by omega), fun _ => rfl⟩
  simp only [lodgerref09_Full.l0]; rw [ref05Many_eq B h1 h2 (by omega), Option.bind_some, if_neg (by omega)]
 | succ d ih =>
  intro k i hi hd hk
  obtain ⟨k, rfl⟩ : ∃ m, k = m + 1 := ⟨k - 1, by omega⟩
  obtain ⟨b, g1, g2⟩ := ih k (i + 1) (by omega) (by omega) (by omega)
  rw [show ((i + 1 : Nat) : Int) = (i : Int) + 1 by omega] at g1
  have hup : ((i : Int) ∈ H ∨ (i : Int) ∈ l) → ((∀ z : Nat, i + 1 ≤ z → z < n → (z : Int) ∈ H ∨ (z : Int) ∈ l) ↔ ∀ z : Nat, i ≤ z → z < n → (z : Int) ∈ H ∨ (z : Int) ∈ l) := by
   intro hi2
   constructor
   ·intro h z hz hz2
    by_cases e : z = i
    ·subst e; exact hi2
    ·exact h z (by omega) hz2
   ·intro h z hz hz2; exact h z (by omega) hz2
  simp only [lodgerref09_Full.l0]
  rw [ref05Many_eq B h1 h2 (by omega), Option.bind_some, if_pos (by omega), refHeld_eq B p H s w q t hH _ (by omega), Option.bind_some, w64 (x := (i : Int) + 1) (by omega) (by omega)]
  by_cases c : (i : Int) ∈ H
  ·rw [decide_eq_true c, if_pos rfl]
   exact ⟨b, g1, by rw [g2, hup (.inl c)]⟩
  ·rw [decide_eq_false c, if_neg (by simp), ref09Has_eq hl _ (by omega), Option.bind_some]
   by_cases c2 : (i : Int) ∈ l
   ·rw [decide_eq_true c2, if_pos rfl]
    exact ⟨b, g1, by rw [g2, hup (.inr c2)]⟩
   ·rw [decide_eq_false c2, if_neg (by simp)]
    refine ⟨false, rfl, fun h => absurd h (by simp), fun h => ?_⟩
    rcases h i (Nat.le_refl _) (by omega) with h | h
    ·exact absurd h c
    ·exact absurd h c2
theorem refFull_eq (B : Int) {p : Int} (H : List Int) (s w q t : Int) (hH : H.length ≤ maxLen) (h1 : 16 ≤ p) (h2 : p ≤ 32) (hr : rises (-1) (M p) H = true) {l : List Int} (hl : l.length ≤ maxLen) (hs : mset (M p) H l = true) {k : Nat} (hk : 70000 + H.length + l.length + 100 < k) :
  lodgerref09_Full.f k B p H s w q t l = some (decide ((l.length : Int) = M p - H.length)) := by
 have hb := M_bounds h1 h2
 obtain ⟨n, hn⟩ : ∃ n : Nat, M p = n := ⟨(M p).toNat, by omega⟩
 unfold lodgerref09_Full.f
 obtain ⟨b, g1, g2⟩ := refFull_l0 B H s w q t hH h1 h2 hl hn (by omega) n k 0 (by omega) (by omega) (by omega)
 rw [show ((0 : Nat) : Int) = 0 from rfl] at g1
 rw [g1]
 congr 1
 rw [hn] at hr hs ⊢
 have hf := fullset_iff hr hs
 rw [Bool.eq_iff_iff, g2, decide_eq_true_eq]
 constructor
 ·intro h
  have := hf.2.2 (fun z hz => h z (by omega) hz)
  omega
 ·intro h z _ hz
  exact hf.2.1 (by omega) z hz

def lg_ (mag : Nat) : Nat := if mag < 36028797018963968 then 54 else if mag < 72057594037927936 then 55 else 56
def gp_ (mag : Nat) : Nat := if mag < 36028797018963968 then 4 else if mag < 72057594037927936 then 8 else 16
def kp_ (mag : Nat) : Nat := mag / gp_ mag + (decide (gp_ mag < 2 * (mag % gp_ mag)) || (gp_ mag == 2 * (mag % gp_ mag) && mag / gp_ mag % 2 == 1)).toNat
theorem log_of {x k : Nat} (h0 : 2 ^ k ≤ x) (h1 : x < 2 ^ (k + 1)) : x.log2 = k := by
 have hx : x ≠ 0 := by have := Nat.two_pow_pos k; omega
 have a := (Nat.le_log2 hx (k := k)).2 h0
 have b := (Nat.log2_lt hx (k := k + 1)).2 h1
 omega
theorem lg_eq {mag : Nat} (h0 : 18014398509481984 ≤ mag) (h1 : mag < 144115188075855872) : mag.log2 = lg_ mag := by
 unfold lg_
 split
 ·exact log_of (k := 54) h0 (by omega)
 ·split
  ·exact log_of (k := 55) (by omega) (by omega)
  ·exact log_of (k := 56) (by omega) (by omega)
theorem cut_eq {mag : Nat} (h0 : 18014398509481984 ≤ mag) (h1 : mag < 144115188075855872) : Ieee.Toward.even.cut false mag (lg_ mag - 52) = kp_ mag := by
 have e : 1 <<< min (lg_ mag - 52) (mag.log2 + 2) = gp_ mag := by
  rw [lg_eq h0 h1]; unfold lg_ gp_
  split
  ·rfl
  ·split <;> rfl
 unfold Ieee.Toward.cut kp_
 rw [e]
/-- rounding, of what a quotient of small numbers is -/
theorem near_of {mag : Nat} {place : Int} (h0 : 18014398509481984 ≤ mag) (h1 : mag < 144115188075855872) (hp : -1000 ≤ place) (hp1 : place ≤ 0) : Ieee.double.nearest false mag place = (place + 1022 + lg_ mag).toNat * 4503599627370496 + kp_ mag := by
 have hl : 54 ≤ lg_ mag ∧ lg_ mag ≤ 56 := by unfold lg_; split; (exact ⟨by omega, by omega⟩); split <;> exact ⟨by omega, by omega⟩
 have hg : 4 ≤ gp_ mag ∧ mag / gp_ mag ≤ 9007199254740992 := by unfold gp_; split; (exact ⟨by omega, by omega⟩); split <;> exact ⟨by omega, by omega⟩
 have hk : kp_ mag ≤ 9007199254740993 := by
  unfold kp_
  have : (decide (gp_ mag < 2 * (mag % gp_ mag)) || (gp_ mag == 2 * (mag % gp_ mag) && mag / gp_ mag % 2 == 1)).toNat ≤ 1 := Bool.toNat_le _
  omega
 unfold Ieee.Format.nearest Ieee.Format.word
 simp only [show Ieee.double.fractionBits = 52 from rfl, show Ieee.double.leastPlace = -1074 from rfl, show Ieee.double.binade = 4503599627370496 from rfl, show Ieee.double.infRung = 9218868437227405312 from rfl, Bool.false_eq_true, ↓reduceIte]
 rw [if_neg (by omega), lg_eq h0 h1, show ((52 : Nat) : Int) = 52 from rfl, show max (place + (lg_ mag : Int) - 52) (-1074) = place + lg_ mag - 52 from Int.max_eq_left (by omega), show (place - (place + (lg_ mag : Int) - 52)).toNat = 0 by omega, show (place + (lg_ mag : Int) - 52 - place).toNat = lg_ mag - 52 by omega, Nat.shiftLeft_zero, cut_eq h0 h1, show place + (lg_ mag : Int) - 52 - -1074 = place + 1022 + lg_ mag by omega]
 exact Nat.min_eq_left (by omega)
/-- a finite word that is not below nothing -/
def rdm (x : Nat) : Nat := if x < 4503599627370496 then x else 4503599627370496 + x % 4503599627370496
def rde (x : Nat) : Nat := if x < 4503599627370496 then 0 else x / 4503599627370496 - 1
theorem read_eq {x : Nat} (h : x < 9218868437227405312) : Ieee.double.read x = .number false (rdm x) (-1074 + (rde x : Nat)) := by
 unfold Ieee.Format.read rdm rde
 simp only [show Ieee.double.signWeight = 9223372036854775808 from rfl, show Ieee.double.leastPlace = -1074 from rfl, show Ieee.double.binade = 4503599627370496 from rfl, show Ieee.double.infRung = 9218868437227405312 from rfl]
 have e1 : x / 9223372036854775808 % 2 = 0 := by omega
 have e2 : x % 9223372036854775808 = x := by omega
 rw [e1, e2]
 by_cases c : x < 4503599627370496
 ·rw [if_pos c, if_pos c, if_pos c]; simp
 ·rw [if_neg c, if_pos h, if_neg c, if_neg c]; simp
/-- the quotient of two numbers whose digits are these -/
def mg_ (m n : Nat) : Nat := 2 * (m * 18014398509481984 / n) + (m * 18014398509481984 % n != 0).toNat
theorem div_eq {x y : Nat} (hx : x < 9218868437227405312) (hy : y < 9218868437227405312) (m0 : 4503599627370496 ≤ rdm x) (m1 : rdm x < 9007199254740992) (n0 : 4503599627370496 ≤ rdm y) (n1 : rdm y < 9007199254740992) (e0 : rde y ≤ rde x + 900) (e1 : rde x ≤ rde y + 50) :
  FloatKind.f64.format.div x y = some (((rde x : Int) - rde y + 967 + lg_ (mg_ (rdm x) (rdm y))).toNat * 4503599627370496 + kp_ (mg_ (rdm x) (rdm y))) := by
 show Ieee.double.div x y = _
 unfold Ieee.Format.div
 rw [read_eq hx, read_eq hy]
 unfold Ieee.Datum.quotient
 simp only [show Ieee.double.fractionBits = 52 from rfl]
 rw [if_neg (by omega), log_of (x := rdm x) (k := 52) m0 m1, log_of (x := rdm y) (k := 52) n0 n1, show 52 + 2 + 52 - 52 = 54 from rfl, Nat.shiftLeft_eq, show 2 ^ 54 = 18014398509481984 from rfl]
 simp only [Option.map_some, Ieee.Format.write, Bool.xor_false]
 rw [show 2 * (rdm x * 18014398509481984 / rdm y) + (rdm x * 18014398509481984 % rdm y != 0).toNat = mg_ (rdm x) (rdm y) from rfl]
 have b0 : 9007199254740992 ≤ rdm x * 18014398509481984 / rdm y := (Nat.le_div_iff_mul_le (by omega)).2 (by
  exact Nat.le_trans (Nat.mul_le_mul_left 9007199254740992 (Nat.le_of_lt n1)) (Nat.le_trans (by decide) (Nat.mul_le_mul_right 18014398509481984 m0)))
 have b1 : rdm x * 18014398509481984 / rdm y < 36028797018963968 := (Nat.div_lt_iff_lt_mul (by omega)).2 (by
  exact Nat.lt_of_lt_of_le (Nat.mul_lt_mul_of_pos_right m1 (show 0 < 18014398509481984 by decide)) (Nat.le_trans (by decide) (Nat.mul_le_mul_left 36028797018963968 n0)))
 have b2 : (rdm x * 18014398509481984 % rdm y != 0).toNat ≤ 1 := Bool.toNat_le _
 rw [near_of (by unfold mg_; omega) (by unfold mg_; omega) (by omega) (by omega)]
 congr 3
 omega
/-- small numbers: their digits and places -/
def EL : List (Nat × Nat) := [(4503599627370496, 1022), (4503599627370496, 1023), (6755399441055744, 1023), (4503599627370496, 1024), (5629499534213120, 1024), (6755399441055744, 1024), (7881299347898368, 1024), (4503599627370496, 1025), (5066549580791808, 1025), (5629499534213120, 1025), (6192449487634432, 1025), (6755399441055744, 1025), (7318349394477056, 1025), (7881299347898368, 1025), (8444249301319680, 1025), (4503599627370496, 1026), (4785074604081152, 1026), (5066549580791808, 1026), (5348024557502464, 1026), (5629499534213120, 1026), (5910974510923776, 1026), (6192449487634432, 1026), (6473924464345088, 1026), (6755399441055744, 1026), (7036874417766400, 1026), (7318349394477056, 1026), (7599824371187712, 1026), (7881299347898368, 1026), (8162774324609024, 1026), (8444249301319680, 1026), (8725724278030336, 1026), (4503599627370496, 1027), (4644337115725824, 1027), (4785074604081152, 1027), (4925812092436480, 1027), (5066549580791808, 1027), (5207287069147136, 1027), (5348024557502464, 1027), (5488762045857792, 1027), (5629499534213120, 1027), (5770237022568448, 1027), (5910974510923776, 1027), (6051711999279104, 1027), (6192449487634432, 1027), (6333186975989760, 1027), (6473924464345088, 1027), (6614661952700416, 1027), (6755399441055744, 1027), (6896136929411072, 1027), (7036874417766400, 1027), (7177611906121728, 1027), (7318349394477056, 1027), (7459086882832384, 1027), (7599824371187712, 1027), (7740561859543040, 1027), (7881299347898368, 1027), (8022036836253696, 1027), (8162774324609024, 1027), (8303511812964352, 1027), (8444249301319680, 1027), (8584986789675008, 1027), (8725724278030336, 1027), (8866461766385664, 1027), (4503599627370496, 1028), (4573968371548160, 1028), (4644337115725824, 1028), (4714705859903488, 1028), (4785074604081152, 1028), (4855443348258816, 1028), (4925812092436480, 1028), (4996180836614144, 1028), (5066549580791808, 1028), (5136918324969472, 1028), (5207287069147136, 1028), (5277655813324800, 1028), (5348024557502464, 1028), (5418393301680128, 1028), (5488762045857792, 1028), (5559130790035456, 1028), (5629499534213120, 1028), (5699868278390784, 1028), (5770237022568448, 1028), (5840605766746112, 1028), (5910974510923776, 1028), (5981343255101440, 1028), (6051711999279104, 1028), (6122080743456768, 1028), (6192449487634432, 1028), (6262818231812096, 1028), (6333186975989760, 1028), (6403555720167424, 1028), (6473924464345088, 1028), (6544293208522752, 1028), (6614661952700416, 1028), (6685030696878080, 1028), (6755399441055744, 1028), (6825768185233408, 1028), (6896136929411072, 1028), (6966505673588736, 1028), (7036874417766400, 1028), (7107243161944064, 1028), (7177611906121728, 1028), (7247980650299392, 1028), (7318349394477056, 1028), (7388718138654720, 1028), (7459086882832384, 1028), (7529455627010048, 1028), (7599824371187712, 1028), (7670193115365376, 1028), (7740561859543040, 1028), (7810930603720704, 1028), (7881299347898368, 1028), (7951668092076032, 1028), (8022036836253696, 1028), (8092405580431360, 1028), (8162774324609024, 1028), (8233143068786688, 1028), (8303511812964352, 1028), (8373880557142016, 1028), (8444249301319680, 1028), (8514618045497344, 1028), (8584986789675008, 1028), (8655355533852672, 1028), (8725724278030336, 1028), (8796093022208000, 1028), (8866461766385664, 1028), (8936830510563328, 1028), (4503599627370496, 1029), (4538783999459328, 1029), (4573968371548160, 1029), (4609152743636992, 1029), (4644337115725824, 1029), (4679521487814656, 1029), (4714705859903488, 1029), (4749890231992320, 1029), (4785074604081152, 1029), (4820258976169984, 1029), (4855443348258816, 1029), (4890627720347648, 1029), (4925812092436480, 1029), (4960996464525312, 1029), (4996180836614144, 1029), (5031365208702976, 1029), (5066549580791808, 1029), (5101733952880640, 1029), (5136918324969472, 1029), (5172102697058304, 1029), (5207287069147136, 1029), (5242471441235968, 1029), (5277655813324800, 1029), (5312840185413632, 1029), (5348024557502464, 1029), (5383208929591296, 1029), (5418393301680128, 1029), (5453577673768960, 1029), (5488762045857792, 1029), (5523946417946624, 1029), (5559130790035456, 1029), (5594315162124288, 1029), (5629499534213120, 1029), (5664683906301952, 1029), (5699868278390784, 1029), (5735052650479616, 1029), (5770237022568448, 1029), (5805421394657280, 1029), (5840605766746112, 1029), (5875790138834944, 1029), (5910974510923776, 1029), (5946158883012608, 1029), (5981343255101440, 1029), (6016527627190272, 1029), (6051711999279104, 1029), (6086896371367936, 1029), (6122080743456768, 1029), (6157265115545600, 1029), (6192449487634432, 1029), (6227633859723264, 1029), (6262818231812096, 1029), (6298002603900928, 1029), (6333186975989760, 1029), (6368371348078592, 1029), (6403555720167424, 1029), (6438740092256256, 1029), (6473924464345088, 1029), (6509108836433920, 1029), (6544293208522752, 1029), (6579477580611584, 1029), (6614661952700416, 1029), (6649846324789248, 1029), (6685030696878080, 1029), (6720215068966912, 1029), (6755399441055744, 1029), (6790583813144576, 1029), (6825768185233408, 1029), (6860952557322240, 1029), (6896136929411072, 1029), (6931321301499904, 1029), (6966505673588736, 1029), (7001690045677568, 1029), (7036874417766400, 1029), (7072058789855232, 1029), (7107243161944064, 1029), (7142427534032896, 1029), (7177611906121728, 1029), (7212796278210560, 1029), (7247980650299392, 1029), (7283165022388224, 1029), (7318349394477056, 1029), (7353533766565888, 1029), (7388718138654720, 1029), (7423902510743552, 1029), (7459086882832384, 1029), (7494271254921216, 1029), (7529455627010048, 1029), (7564639999098880, 1029), (7599824371187712, 1029), (7635008743276544, 1029), (7670193115365376, 1029), (7705377487454208, 1029), (7740561859543040, 1029), (7775746231631872, 1029), (7810930603720704, 1029), (7846114975809536, 1029), (7881299347898368, 1029), (7916483719987200, 1029), (7951668092076032, 1029), (7986852464164864, 1029), (8022036836253696, 1029), (8057221208342528, 1029), (8092405580431360, 1029), (8127589952520192, 1029), (8162774324609024, 1029), (8197958696697856, 1029), (8233143068786688, 1029), (8268327440875520, 1029), (8303511812964352, 1029), (8338696185053184, 1029), (8373880557142016, 1029), (8409064929230848, 1029), (8444249301319680, 1029), (8479433673408512, 1029), (8514618045497344, 1029), (8549802417586176, 1029), (8584986789675008, 1029), (8620171161763840, 1029), (8655355533852672, 1029), (8690539905941504, 1029), (8725724278030336, 1029), (8760908650119168, 1029), (8796093022208000, 1029), (8831277394296832, 1029), (8866461766385664, 1029), (8901646138474496, 1029), (8936830510563328, 1029), (8972014882652160, 1029), (4503599627370496, 1030)]
def ew_ (x : Nat × Nat) : Nat := x.1 + x.2 * 4503599627370496
def fl_ (x y : Nat × Nat) : Nat := (x.2 + 967 - y.2 + lg_ (mg_ x.1 y.1)) * 4503599627370496 + kp_ (mg_ x.1 y.1)
/-- from a value on they rise, and the last one is 1 -/
def up_ (y : Nat × Nat) : Nat → Nat → List (Nat × Nat) → Bool
 | prev, 0, _ => prev == 4607182418800017408
 | _, _ + 1, [] => false
 | prev, k + 1, x :: xs => Nat.blt prev (fl_ x y) && up_ y (fl_ x y) k xs
def ups_ : Nat → List (Nat × Nat) → Bool
 | _, [] => true
 | n, y :: ys => up_ y 0 n EL && ups_ (n + 1) ys
def V_ (y : Nat × Nat) (prev : Nat) (xs : List (Nat × Nat)) : Nat → Nat
 | 0 => prev
 | i + 1 => fl_ (xs.getD i (0, 0)) y
theorem up_spec (y : Nat × Nat) : ∀ (k prev : Nat) (xs : List (Nat × Nat)), up_ y prev k xs = true → (∀ i, i < k → V_ y prev xs i < V_ y prev xs (i + 1)) ∧ V_ y prev xs k = 4607182418800017408 := by
 intro k
 induction k with
 | zero => intro prev xs h; exact ⟨fun i hi => by omega, by simpa [up_, V_] using h⟩
 | succ k ih =>
  intro prev xs h
  cases xs with
  | nil => simp [up_] at h
  | cons x xs =>
   rw [up_] at h
   simp only [Bool.and_eq_true, Nat.blt_eq] at h
   obtain ⟨g1, g2⟩ := ih (fl_ x y) xs h.2
   have e0 : V_ y prev (x :: xs) 0 = prev := rfl
   have e1 : ∀ i, V_ y prev (x :: xs) (i + 1) = V_ y (fl_ x y) xs i := by
    intro i
    cases i with
    | zero => rfl
    | succ i => rfl
   refine ⟨fun i hi => ?_, by rw [e1]; exact g2⟩
   cases i with
   | zero => rw [e0, e1]; exact h.1
   | succ i => rw [e1, e1]; exact g1 i (by omega)
theorem ups_spec : ∀ (ys : List (Nat × Nat)) (n : Nat), ups_ n ys = true → ∀ i, i < ys.length → up_ (ys.getD i (0, 0)) 0 (n + i) EL = true := by
 intro ys
 induction ys with
 | nil => intro n _ i hi; simp at hi
 | cons y ys ih =>
  intro n h i hi
  simp only [ups_, Bool.and_eq_true] at h
  cases i with
  | zero => exact h.1
  | succ i => rw [show n + (i + 1) = n + 1 + i by omega]; exact ih (n + 1) h.2 i (by simpa using hi)
set_option maxRecDepth 100000 in
theorem ups_all : ups_ 1 EL = true := by decide +kernel
def chE : Nat → List (Nat × Nat) → Bool
 | _, [] => true
 | u, x :: xs => decide (floatOfInt .f64 (u : Int) < 9218868437227405312) && (rdm (floatOfInt .f64 (u : Int)) == x.1) && (rde (floatOfInt .f64 (u : Int)) == x.2) && decide (4503599627370496 ≤ x.1 ∧ x.1 < 9007199254740992 ∧ 1022 ≤ x.2 ∧ x.2 ≤ 1030) && (FloatKind.f64.format.div 0 (floatOfInt .f64 (u : Int)) == some 0) && chE (u + 1) xs
set_option maxRecDepth 100000 in
theorem chE_all : chE 1 EL = true := by decide +kernel
theorem EL_len : EL.length = 256 := by decide +kernel
theorem chE_spec : ∀ (xs : List (Nat × Nat)) (n : Nat), chE n xs = true → ∀ i, i < xs.length → floatOfInt .f64 ((n + i : Nat) : Int) < 9218868437227405312 ∧ rdm (floatOfInt .f64 ((n + i : Nat) : Int)) = (xs.getD i (0, 0)).1 ∧ rde (floatOfInt .f64 ((n + i : Nat) : Int)) = (xs.getD i (0, 0)).2 ∧
  (4503599627370496 ≤ (xs.getD i (0, 0)).1 ∧ (xs.getD i (0, 0)).1 < 9007199254740992 ∧ 1022 ≤ (xs.getD i (0, 0)).2 ∧ (xs.getD i (0, 0)).2 ≤ 1030) ∧ FloatKind.f64.format.div 0 (floatOfInt .f64 ((n + i : Nat) : Int)) = some 0 := by
 intro xs
 induction xs with
 | nil => intro n _ i hi; simp at hi
 | cons x xs ih =>
  intro n h i hi
  simp only [chE, Bool.and_eq_true, decide_eq_true_eq, beq_iff_eq] at h
  cases i with
  | zero => exact ⟨h.1.1.1.1.1, h.1.1.1.1.2, h.1.1.1.2, h.1.1.2, h.1.2⟩
  | succ i => rw [show n + (i + 1) = n + 1 + i by omega]; exact ih (n + 1) h.2 i (by simpa using hi)
/-- how full so many of so many are -/
def qf (n u : Nat) : Nat := if n = 0 then 4607182418800017408 else fdiv (floatOfInt .f64 (u : Int)) (floatOfInt .f64 (n : Int))
theorem qf_div {n u : Nat} (n1 : 1 ≤ n) (n2 : n ≤ 256) (hu : u ≤ n) : FloatKind.f64.format.div (floatOfInt .f64 (u : Int)) (floatOfInt .f64 (n : Int)) = some (V_ (EL.getD (n - 1) (0, 0)) 0 EL u) := by
 have hn := chE_spec EL 1 chE_all (n - 1) (by rw [EL_len]; omega)
 rw [show 1 + (n - 1) = n by omega] at hn
 cases u with
 | zero => exact hn.2.2.2.2
 | succ u =>
  have hu := chE_spec EL 1 chE_all u (by rw [EL_len]; omega)
  rw [show 1 + u = u + 1 by omega] at hu
  obtain ⟨a1, a2, a3, a4, _⟩ := hu
  obtain ⟨b1, b2, b3, b4, _⟩ := hn
  rw [div_eq a1 b1 (by omega) (by omega) (by omega) (by omega) (by omega) (by omega), a2, a3, b2, b3]
  show _ = some (fl_ (EL.getD u (0, 0)) (EL.getD (n - 1) (0, 0)))
  unfold fl_
  generalize EL.getD u (0, 0) = x at *
  generalize EL.getD (n - 1) (0, 0) = y at *
  congr 3
  omega
theorem qf_eq {n u : Nat} (n1 : 1 ≤ n) (n2 : n ≤ 256) (hu : u ≤ n) : qf n u = V_ (EL.getD (n - 1) (0, 0)) 0 EL u := by
 unfold qf fdiv; rw [if_neg (by omega), qf_div n1 n2 hu]; rfl
theorem qf_ok {n u : Nat} (n1 : 1 ≤ n) (n2 : n ≤ 256) (hu : u ≤ n) : fdivok (floatOfInt .f64 (u : Int)) (floatOfInt .f64 (n : Int)) = true := by
 unfold fdivok; rw [qf_div n1 n2 hu]; rfl
theorem qf_up {n : Nat} (n1 : 1 ≤ n) (n2 : n ≤ 256) : (∀ i, i < n → V_ (EL.getD (n - 1) (0, 0)) 0 EL i < V_ (EL.getD (n - 1) (0, 0)) 0 EL (i + 1)) ∧ V_ (EL.getD (n - 1) (0, 0)) 0 EL n = 4607182418800017408 := by
 have := ups_spec EL 1 ups_all (n - 1) (by rw [EL_len]; omega)
 rw [show 1 + (n - 1) = n by omega] at this
 exact up_spec _ n 0 EL this
theorem qf_lt {n u v : Nat} (n2 : n ≤ 256) (h : u < v) (hv : v ≤ n) : qf n u < qf n v := by
 obtain ⟨g, _⟩ := qf_up (n := n) (by omega) n2
 have all : ∀ d, u + d < n → qf n u < qf n (u + d + 1) := by
  intro d
  induction d with
  | zero => intro hd; rw [qf_eq (by omega) n2 (by omega), qf_eq (by omega) n2 (by omega)]; exact g u (by omega)
  | succ d ih =>
   intro hd
   have a := ih (by omega)
   have b := g (u + d + 1) (by omega)
   rw [← qf_eq (by omega) n2 (by omega), ← qf_eq (by omega) n2 (by omega)] at b
   exact Nat.lt_trans a b
 have := all (v - u - 1) (by omega)
 rwa [show u + (v - u - 1) + 1 = v by omega] at this
theorem qf_one {n : Nat} (n2 : n ≤ 256) : qf n n = 4607182418800017408 := by
 by_cases c : n = 0
 ·unfold qf; rw [if_pos c]
 ·rw [qf_eq (by omega) n2 (by omega)]; exact (qf_up (by omega) n2).2
theorem qf_nil {n : Nat} (n1 : 1 ≤ n) (n2 : n ≤ 256) : qf n 0 = 0 := by rw [qf_eq n1 n2 (by omega)]; rfl
theorem qf_le {n u v : Nat} (n2 : n ≤ 256) (h : u ≤ v) (hv : v ≤ n) : qf n u ≤ qf n v := by
 by_cases c : u = v
 ·rw [c]; exact Nat.le_refl _
 ·exact Nat.le_of_lt (qf_lt n2 (by omega) hv)
theorem qf_b {n u : Nat} (n2 : n ≤ 256) (hu : u ≤ n) : qf n u ≤ 4607182418800017408 := by rw [← qf_one n2]; exact qf_le n2 hu (Nat.le_refl _)

theorem rd_split {x : Nat} : x = rdm x + rde x * 4503599627370496 ∧ rdm x < 9007199254740992 ∧ (1 ≤ rde x → 4503599627370496 ≤ rdm x) := by
 unfold rdm rde
 by_cases c : x < 4503599627370496
 ·rw [if_pos c, if_pos c]; exact ⟨by omega, by omega, fun h => by omega⟩
 ·rw [if_neg c, if_neg c]; exact ⟨by omega, by omega, fun h => by omega⟩
theorem pow_two_le {d : Nat} (h : 1 ≤ d) : 2 ≤ 2 ^ d := by
 have := Nat.pow_le_pow_right (n := 2) (by decide) h
 simpa using this
/-- digits at a place: as the words -/
theorem lt_word {x y : Nat} (h : x < y) (b : Nat) (bx : b ≤ rde x) (byy : b ≤ rde y) : rdm x * 2 ^ (rde x - b) < rdm y * 2 ^ (rde y - b) := by
 obtain ⟨a1, a2, a3⟩ := rd_split (x := x)
 obtain ⟨b1, b2, b3⟩ := rd_split (x := y)
 have c : rde x ≤ rde y := by omega
 have p0 := Nat.two_pow_pos (rde x - b)
 by_cases e : rde x = rde y
 ·rw [e] at p0 ⊢; exact Nat.mul_lt_mul_of_pos_right (by omega) p0
 ·have p1 := pow_two_le (d := rde y - rde x) (by omega)
  rw [show rde y - b = (rde y - rde x) + (rde x - b) by omega, Nat.pow_add, ← Nat.mul_assoc]
  refine Nat.mul_lt_mul_of_pos_right ?_ p0
  exact Nat.lt_of_lt_of_le (by omega) (Nat.mul_le_mul (b3 (by omega)) p1)
theorem cmp_nat (x y : Nat) : compare x y = if x < y then .lt else if x = y then .eq else .gt := rfl
theorem cmp_int (x y : Int) : compare x y = if x < y then .lt else if x = y then .eq else .gt := rfl
theorem cmp_of {x y : Nat} {A B : Int} (h1 : x < y → A < B) (h2 : y < x → B < A) (h3 : x = y → A = B) : compare A B = compare x y := by
 rw [cmp_nat, cmp_int]
 by_cases c : x < y
 ·rw [if_pos c, if_pos (h1 c)]
 ·by_cases d : x = y
  ·have := h3 d; rw [if_neg c, if_pos d, if_neg (by omega), if_pos this]
  ·have := h2 (by omega); rw [if_neg c, if_neg d, if_neg (by omega), if_neg (by omega)]
theorem signed_false (m k : Nat) : Ieee.signed false m k = ((m * 2 ^ k : Nat) : Int) := by
 unfold Ieee.signed; rw [Nat.shiftLeft_eq]; rfl
theorem signed_zero (s : Bool) (k : Nat) : Ieee.signed s 0 k = 0 := by
 unfold Ieee.signed; rw [Nat.shiftLeft_eq]; simp
theorem ord_pos {x y : Nat} (hx : x < 9218868437227405312) (hy : y < 9218868437227405312) : FloatKind.f64.format.order x y = some (compare x y) := by
 show Ieee.double.order x y = _
 unfold Ieee.Format.order
 rw [read_eq hx, read_eq hy]
 unfold Ieee.Datum.order
 simp only [signed_false]
 obtain ⟨b, hb, bx, byy⟩ : ∃ b : Nat, min (-1074 + (rde x : Int)) (-1074 + (rde y : Int)) = -1074 + (b : Int) ∧ b ≤ rde x ∧ b ≤ rde y := by
  by_cases c : rde x ≤ rde y
  ·exact ⟨rde x, Int.min_eq_left (by omega), by omega, c⟩
  ·exact ⟨rde y, Int.min_eq_right (by omega), by omega, by omega⟩
 rw [hb, show (-1074 + (rde x : Int) - (-1074 + (b : Int))).toNat = rde x - b by omega, show (-1074 + (rde y : Int) - (-1074 + (b : Int))).toNat = rde y - b by omega]
 refine congrArg some (cmp_of (fun h => ?_) (fun h => ?_) (fun h => by rw [h]))
 ·exact Int.ofNat_lt.2 (lt_word h b bx byy)
 ·exact Int.ofNat_lt.2 (lt_word h b byy bx)
theorem read_nz : Ieee.double.read 9223372036854775808 = .number true 0 (-1074) := by decide +kernel
theorem rdm_pos {x : Nat} (h : x ≠ 0) : 0 < rdm x := by
 obtain ⟨a1, a2, a3⟩ := rd_split (x := x)
 omega
/-- 0 below 0: as 0 -/
def mm_ (x : Nat) : Nat := if x = 9223372036854775808 then 0 else x
def Mk_ (x : Nat) : Prop := x ≤ 4607182418800017408 ∨ x = 9223372036854775808
theorem ord_mark {x y : Nat} (hx : Mk_ x) (hy : Mk_ y) : FloatKind.f64.format.order x y = some (compare (mm_ x) (mm_ y)) := by
 unfold mm_
 by_cases cx : x = 9223372036854775808
 ·rw [if_pos cx]
  by_cases cy : y = 9223372036854775808
  ·rw [if_pos cy, cx, cy]; decide +kernel
  ·rw [if_neg cy, cx]
   have hy' : y < 9218868437227405312 := by unfold Mk_ at hy; omega
   show Ieee.double.order _ y = _
   unfold Ieee.Format.order
   rw [read_nz, read_eq hy']
   unfold Ieee.Datum.order
   simp only [signed_false, signed_zero]
   refine congrArg some (cmp_of (fun h => ?_) (fun h => by omega) (fun h => ?_))
   ·exact Int.ofNat_lt.2 (Nat.mul_pos (rdm_pos (by omega)) (Nat.two_pow_pos _))
   ·rw [← h]; simp [rdm]
 ·rw [if_neg cx]
  have hx' : x < 9218868437227405312 := by unfold Mk_ at hx; omega
  by_cases cy : y = 9223372036854775808
  ·rw [if_pos cy, cy]
   show Ieee.double.order x _ = _
   unfold Ieee.Format.order
   rw [read_nz, read_eq hx']
   unfold Ieee.Datum.order
   simp only [signed_false, signed_zero]
   refine congrArg some (cmp_of (fun h => by omega) (fun h => ?_) (fun h => ?_))
   ·exact Int.ofNat_lt.2 (Nat.mul_pos (rdm_pos (by omega)) (Nat.two_pow_pos _))
   ·rw [h]; simp [rdm]
  ·rw [if_neg cy]
   exact ord_pos hx' (by unfold Mk_ at hy; omega)
theorem fge_mark {x y : Nat} (hx : Mk_ x) (hy : Mk_ y) : fge x y = decide (mm_ y ≤ mm_ x) := by
 unfold fge; rw [ord_mark hx hy, cmp_nat, Bool.eq_iff_iff, decide_eq_true_eq]
 by_cases a : mm_ x < mm_ y
 ·rw [if_pos a]; simp; omega
 ·rw [if_neg a]; by_cases b : mm_ x = mm_ y
  ·rw [if_pos b]; simp; omega
  ·rw [if_neg b]; simp; omega
theorem fle_mark {x y : Nat} (hx : Mk_ x) (hy : Mk_ y) : fle x y = decide (mm_ x ≤ mm_ y) := by
 unfold fle; rw [ord_mark hx hy, cmp_nat, Bool.eq_iff_iff, decide_eq_true_eq]
 by_cases a : mm_ x < mm_ y
 ·rw [if_pos a]; simp; omega
 ·rw [if_neg a]; by_cases b : mm_ x = mm_ y
  ·rw [if_pos b]; simp; omega
  ·rw [if_neg b]; simp; omega
theorem flt_mark {x y : Nat} (hx : Mk_ x) (hy : Mk_ y) : flt x y = decide (mm_ x < mm_ y) := by
 unfold flt; rw [ord_mark hx hy, cmp_nat, Bool.eq_iff_iff, decide_eq_true_eq]
 by_cases a : mm_ x < mm_ y
 ·rw [if_pos a]; simp; omega
 ·rw [if_neg a]; by_cases b : mm_ x = mm_ y
  ·rw [if_pos b]; simp; omega
  ·rw [if_neg b]; simp; omega
theorem fgt_mark {x y : Nat} (hx : Mk_ x) (hy : Mk_ y) : fgt x y = decide (mm_ y < mm_ x) := by
 unfold fgt; rw [ord_mark hx hy, cmp_nat, Bool.eq_iff_iff, decide_eq_true_eq]
 by_cases a : mm_ x < mm_ y
 ·rw [if_pos a]; simp; omega
 ·rw [if_neg a]; by_cases b : mm_ x = mm_ y
  ·rw [if_pos b]; simp; omega
  ·rw [if_neg b]; simp; omega
theorem feq_mark {x y : Nat} (hx : Mk_ x) (hy : Mk_ y) : feq x y = decide (mm_ x = mm_ y) := by
 unfold feq; rw [ord_mark hx hy, cmp_nat, Bool.eq_iff_iff, decide_eq_true_eq]
 by_cases a : mm_ x < mm_ y
 ·rw [if_pos a]; simp; omega
 ·rw [if_neg a]; by_cases b : mm_ x = mm_ y
  ·rw [if_pos b]; simp; omega
  ·rw [if_neg b]; simp; omega
theorem fne_feq (x y : Nat) : fne x y = !feq x y := by unfold fne feq; rfl
theorem read_far {x : Nat} (hx : x < 18446744073709551616) (c1 : 9218868437227405312 ≤ x) (c2 : x ≠ 9223372036854775808) : (∃ s d, Ieee.double.read x = .nan s d) ∨ Ieee.double.read x = .infinity false ∨ Ieee.double.read x = .infinity true ∨ ∃ m e, 0 < m ∧ Ieee.double.read x = .number true m e := by
 unfold Ieee.Format.read
 simp only [show Ieee.double.signWeight = 9223372036854775808 from rfl, show Ieee.double.leastPlace = -1074 from rfl, show Ieee.double.binade = 4503599627370496 from rfl, show Ieee.double.infRung = 9218868437227405312 from rfl]
 by_cases c3 : x < 9223372036854775808
 ·rw [show x / 9223372036854775808 % 2 = 0 by omega, show x % 9223372036854775808 = x by omega, if_neg (by omega), if_neg (by omega)]
  by_cases e : x = 9218868437227405312
  ·rw [if_pos e]; exact Or.inr (Or.inl rfl)
  ·rw [if_neg e]; exact Or.inl ⟨_, _, rfl⟩
 ·obtain ⟨y, hy0, hxy⟩ : ∃ y, 0 < y ∧ x = y + 9223372036854775808 := ⟨x - 9223372036854775808, by omega, by omega⟩
  rw [show x / 9223372036854775808 % 2 = 1 by omega, show x % 9223372036854775808 = y by omega]
  by_cases c4 : y < 4503599627370496
  ·rw [if_pos c4]; exact Or.inr (Or.inr (Or.inr ⟨_, _, hy0, rfl⟩))
  ·rw [if_neg c4]
   by_cases c5 : y < 9218868437227405312
   ·rw [if_pos c5]; exact Or.inr (Or.inr (Or.inr ⟨_, _, by omega, rfl⟩))
   ·rw [if_neg c5]
    by_cases e : y = 9218868437227405312
    ·rw [if_pos e]; exact Or.inr (Or.inr (Or.inl rfl))
    ·rw [if_neg e]; exact Or.inl ⟨_, _, rfl⟩
theorem read_0 : Ieee.double.read 0 = .number false 0 (-1074) := by decide +kernel
theorem read_1 : Ieee.double.read 4607182418800017408 = .number false 4503599627370496 (-52) := by decide +kernel
theorem order_def (x y : Nat) : FloatKind.f64.format.order x y = (Ieee.double.read x).order (Ieee.double.read y) := rfl
theorem far_0 {m : Nat} (h : 0 < m) (e : Int) : (Ieee.Datum.number true m e).order (.number false 0 (-1074)) = some .lt := by
 unfold Ieee.Datum.order
 simp only [signed_zero]
 have hp := Nat.mul_pos h (Nat.two_pow_pos (e - min e (-1074)).toNat)
 have hs : Ieee.signed true m (e - min e (-1074)).toNat = -((m * 2 ^ (e - min e (-1074)).toNat : Nat) : Int) := by unfold Ieee.signed; rw [Nat.shiftLeft_eq]; rfl
 rw [hs, cmp_int]
 generalize m * 2 ^ (e - min e (-1074)).toNat = z at *
 rw [if_pos (by omega)]
/-- What lies from 0 to 1: its word is a mark's. -/
theorem mark_of {x : Nat} (hx : x < 18446744073709551616) (h0 : fge x 0 = true) (h1 : fle x 4607182418800017408 = true) : Mk_ x := by
 unfold Mk_
 by_cases c1 : x < 9218868437227405312
 ·left
  unfold fle at h1
  rw [ord_pos c1 (by omega), cmp_nat] at h1
  by_cases a : x < 4607182418800017408
  ·omega
  ·rw [if_neg a] at h1
   by_cases b : x = 4607182418800017408
   ·omega
   ·rw [if_neg b] at h1; simp at h1
 by_cases c2 : x = 9223372036854775808
 ·exact Or.inr c2
 exfalso
 unfold fge at h0
 unfold fle at h1
 rw [order_def, read_0] at h0
 rw [order_def, read_1] at h1
 rcases read_far hx (by omega) c2 with ⟨s, d, e⟩ | e | e | ⟨m, e, hm, e'⟩
 ·rw [e] at h0; simp [Ieee.Datum.order] at h0
 ·rw [e] at h1; simp [Ieee.Datum.order] at h1
 ·rw [e] at h0; simp [Ieee.Datum.order] at h0
 ·rw [e', far_0 hm] at h0; simp at h0
theorem is_mark {x : Nat} (hx : Mk_ x) : fge x 0 = true ∧ fle x 4607182418800017408 = true := by
 have h0 : Mk_ 0 := Or.inl (by omega)
 have h1 : Mk_ 4607182418800017408 := Or.inl (Nat.le_refl _)
 rw [fge_mark hx h0, fle_mark hx h1]
 refine ⟨decide_eq_true (Nat.zero_le _), decide_eq_true ?_⟩
 unfold mm_ Mk_ at *; split <;> simp <;> omega
theorem is_eq (x : Nat) : gauge_is.f x = some (fge x 0 && fle x 4607182418800017408) := by
 unfold gauge_is.f; cases fge x 0 <;> rfl
theorem mm_id {x : Nat} (h : x ≤ 4607182418800017408) : mm_ x = x := by unfold mm_; rw [if_neg (by omega)]

theorem share_eq {n u : Nat} (n2 : n ≤ 256) (hu : u ≤ n) : gauge_share.f (u : Int) (n : Int) = some (qf n u) := by
 unfold gauge_share.f qf
 by_cases c : n = 0
 ·rw [if_pos (by omega), if_pos c]
 ·rw [if_neg (by omega), if_neg c, if_pos (qf_ok (by omega) n2 hu)]
theorem qf_mark {n u : Nat} (n2 : n ≤ 256) (hu : u ≤ n) : Mk_ (qf n u) ∧ mm_ (qf n u) = qf n u := ⟨Or.inl (qf_b n2 hu), mm_id (qf_b n2 hu)⟩
theorem one_mark : Mk_ 4607182418800017408 ∧ mm_ 4607182418800017408 = 4607182418800017408 := ⟨Or.inl (Nat.le_refl _), mm_id (Nat.le_refl _)⟩
theorem zero_mark : Mk_ 0 ∧ mm_ 0 = 0 := ⟨Or.inl (by omega), rfl⟩
theorem mm_one {m : Nat} (h : Mk_ m) : mm_ m ≤ 4607182418800017408 := by unfold mm_; unfold Mk_ at h; split <;> omega
theorem is_of {m : Nat} (hm : m < 18446744073709551616) (h : (fge m 0 && fle m 4607182418800017408) = true) : Mk_ m := by
 rw [Bool.and_eq_true] at h; exact mark_of hm h.1 h.2
theorem of_is {m : Nat} (h : Mk_ m) : (fge m 0 && fle m 4607182418800017408) = true := by rw [(is_mark h).1, (is_mark h).2]; rfl
section
variable {B p : Int} {H : List Int} {s w q t : Int} {U : Nat}
theorem Of_eq (hH : H.length ≤ 64) (h1 : 16 ≤ p) (h2 : p ≤ 32) (hU : M p - H.length = U) (U2 : U ≤ 256) {S : List Int} (hS : S.length ≤ U) : gauge_Of.f B p H s w q t S = some (qf U S.length) := by
 unfold gauge_Of.f
 rw [Usable_eq H s w q t (by unfold maxLen; omega) h1 h2, Option.bind_some, hU, share_eq U2 hS]; rfl
theorem Above_yes (hH : H.length ≤ 64) (h1 : 16 ≤ p) (h2 : p ≤ 32) (hU : M p - H.length = U) (U2 : U ≤ 256) {S : List Int} (hS : S.length ≤ U) {m : Nat} (h : Mk_ m) : gauge_Above.f B p H s w q t S m = some (decide (mm_ m ≤ qf U S.length), 0) := by
 unfold gauge_Above.f
 rw [is_eq, of_is h, Option.bind_some, if_pos rfl, Of_eq hH h1 h2 hU U2 hS, Option.bind_some, fge_mark (qf_mark U2 hS).1 h, (qf_mark U2 hS).2]
theorem Above_no {S : List Int} {m : Nat} (h : (fge m 0 && fle m 4607182418800017408) = false) : gauge_Above.f B p H s w q t S m = some (false, 1) := by
 unfold gauge_Above.f; rw [is_eq, h]; rfl
theorem Least_no {k : Nat} {m : Nat} (h : (fge m 0 && fle m 4607182418800017408) = false) : gauge_Least.f k B p H s w q t m = some (0, 1) := by
 unfold gauge_Least.f; rw [is_eq, h]; rfl
theorem Least_l0 (hH : H.length ≤ 64) (h1 : 16 ≤ p) (h2 : p ≤ 32) (hU : M p - H.length = U) (U2 : U ≤ 256) {m : Nat} (h : Mk_ m) : ∀ (d low high k : Nat), high - low ≤ d → low ≤ high → high ≤ U → (∀ u, u < low → ¬ mm_ m ≤ qf U u) → mm_ m ≤ qf U high → d < k →
  ∃ r : Nat, r ≤ U ∧ (∀ u, u ≤ U → (r ≤ u ↔ mm_ m ≤ qf U u)) ∧ gauge_Least.l0 k m low high B p H s w q t = some ((r : Int), 0) := by
 have stop : ∀ (low k : Nat), low ≤ U → (∀ u, u < low → ¬ mm_ m ≤ qf U u) → mm_ m ≤ qf U low → 0 < k → ∃ r : Nat, r ≤ U ∧ (∀ u, u ≤ U → (r ≤ u ↔ mm_ m ≤ qf U u)) ∧ gauge_Least.l0 k m low low B p H s w q t = some ((r : Int), 0) := by
  intro low k hl hn hy hk
  obtain ⟨k, rfl⟩ : ∃ m, k = m + 1 := ⟨k - 1, by omega⟩
  refine ⟨low, hl, fun u hu => ⟨fun a => Nat.le_trans hy (qf_le U2 a hu), fun a => ?_⟩, by rw [gauge_Least.l0, if_neg (by omega)]⟩
  by_cases c : low ≤ u
  ·exact c
  ·exact absurd a (hn u (by omega))
 intro d
 induction d with
 | zero =>
  intro low high k hd hlh hhu hn hy hk
  obtain rfl : low = high := by omega
  exact stop low k hhu hn hy (by omega)
 | succ d ih =>
  intro low high k hd hlh hhu hn hy hk
  by_cases e : low = high
  ·subst e; exact stop low k hhu hn hy (by omega)
  obtain ⟨k, rfl⟩ : ∃ m, k = m + 1 := ⟨k - 1, by omega⟩
  have hmid : wrap64 (Int.tdiv (wrap64 ((low : Int) + high)) 2) = (((low + high) / 2 : Nat) : Int) := by
   rw [w64 (x := (low : Int) + high) (by omega) (by omega), td (by omega), w64 (by omega) (by omega)]; omega
  have hm2 : (low + high) / 2 < high ∧ low ≤ (low + high) / 2 := by omega
  rw [gauge_Least.l0, if_pos (by omega), Usable_eq H s w q t (by unfold maxLen; omega) h1 h2, Option.bind_some, hU, hmid]
  generalize (low + high) / 2 = mid at *
  have hq := qf_mark (n := U) (u := mid) U2 (by omega)
  rw [share_eq U2 (by omega), Option.bind_some, fge_mark hq.1 h, hq.2]
  by_cases c : mm_ m ≤ qf U mid
  ·rw [decide_eq_true c, if_pos rfl]
   exact ih low mid k (by omega) hm2.2 (by omega) hn c (by omega)
  ·rw [decide_eq_false c, if_neg (by simp), w64 (x := (mid : Int) + 1) (by omega) (by omega), show (mid : Int) + 1 = ((mid + 1 : Nat) : Int) by omega]
   refine ih (mid + 1) high k (by omega) (by omega) hhu (fun u hu a => ?_) hy (by omega)
   exact c (Nat.le_trans a (qf_le U2 (by omega) (by omega)))
theorem Least_yes (hH : H.length ≤ 64) (h1 : 16 ≤ p) (h2 : p ≤ 32) (hU : M p - H.length = U) (U2 : U ≤ 256) {m : Nat} (h : Mk_ m) {k : Nat} (hk : 300 ≤ k) : ∃ r : Nat, r ≤ U ∧ (∀ u, u ≤ U → (r ≤ u ↔ mm_ m ≤ qf U u)) ∧ gauge_Least.f k B p H s w q t m = some ((r : Int), 0) := by
 unfold gauge_Least.f
 rw [is_eq, of_is h, Option.bind_some, if_pos rfl, Usable_eq H s w q t (by unfold maxLen; omega) h1 h2, Option.bind_some, hU]
 exact Least_l0 hH h1 h2 hU U2 h U 0 U k (by omega) (by omega) (Nat.le_refl _) (fun u hu => by omega) (by rw [qf_one U2]; exact mm_one h) (by omega)
end
/-- What the laws' guard lets in. -/
theorem Fits_gate {B p : Int} {H : List Int} {s w q t : Int} {S : List Int} (hH : H.length ≤ maxLen) (hB0 : 0 ≤ B) (hB1 : B ≤ 4294967295) (hS : S.length ≤ maxLen) {k : Nat} (hk : H.length + 100000 ≤ k) : ∃ b, lodgerref11_Fits.f k B p H s w q t S = some b ∧
  (b = true → 16 ≤ p ∧ p ≤ 32 ∧ M p ≤ 256 ∧ H.length ≤ 64 ∧ rises (-1) (M p) H = true ∧ mset (M p) H S = true ∧ ∃ U : Nat, M p - H.length = U ∧ U ≤ 256 ∧ S.length ≤ U) := by
 unfold lodgerref11_Fits.f
 rw [ref05May_eq H s w q t hH hB0 hB1 (by omega), Option.bind_some]
 cases hc : cmay B p H s w q t with
 | false => exact ⟨false, by rw [if_neg (by simp)], fun h => absurd h (by simp)⟩
 | true =>
  obtain ⟨h1, h2, h3, h4, _⟩ := cmay_head hc
  have hb := M_bounds h1 h2
  rw [if_pos rfl, ref05Many_eq B h1 h2 (by omega), Option.bind_some]
  by_cases hM : M p ≤ 256
  rotate_left
  ·exact ⟨false, by rw [if_neg hM], fun h => absurd h (by simp)⟩
  rw [if_pos hM]
  by_cases hS3 : (S.length : Int) ≤ 300
  rotate_left
  ·exact ⟨false, by rw [if_neg hS3], fun h => absurd h (by simp)⟩
  rw [if_pos hS3, ref09May_eq B H s w q t hH hS h1 h2 (by omega), Option.bind_some]
  refine ⟨_, rfl, fun hms => ?_⟩
  obtain ⟨n, hn⟩ : ∃ n : Nat, M p = n := ⟨(M p).toNat, by omega⟩
  have hr := cmay_rises hc
  have hf := (fullset_iff (n := n) (by rw [← hn]; exact hr) (by rw [← hn]; exact hms)).1
  exact ⟨h1, h2, hM, by omega, hr, hms, n - H.length, by omega, by omega, by omega⟩

section
variable {B p : Int} {H : List Int} {s w q t : Int} {U : Nat}
theorem refUsable_eq (hH : H.length ≤ 64) (h1 : 16 ≤ p) (h2 : p ≤ 32) (hU : M p - H.length = U) {k : Nat} (hk : 100 ≤ k) : lodgerref26_Usable.f k B p H s w q t = some (U : Int) := by
 have hb := M_bounds h1 h2
 unfold lodgerref26_Usable.f
 rw [ref05Many_eq B h1 h2 (by omega), Option.bind_some, w64 (by omega) (by omega), hU]
end

theorem awake_true {k : Nat} (hk : 100 ≤ k) : lodgerlaw26_awake.f k = some true := at_rounds lodgerlaw26_awake.mono hk (by decide +kernel)
theorem wf_f64 {m : Nat} (h : (Lit.float .f64 m).wf = true) : m < 18446744073709551616 := by
 simpa [Lit.wf] using h
theorem GaugeOrder : lodgerlaw26_GaugeOrder.Pure := by
 intro B p H s w q t S m o w0 w1 hH w2 w3 w4 w5 w6 hS hS8 wS wm wo
 have b0 := wf_u32 w0
 have hm := wf_f64 wm
 have ho := wf_f64 wo
 refine ⟨H.length + 900000, ?_⟩
 generalize hK : H.length + 900000 = k
 obtain ⟨z, rfl, hz⟩ := more (k := k) (N := H.length + 899999) (by omega)
 have hj : lodgerlaw26_GaugeOrder.j0 (z + 1) S m o true B p H s w q t = some true := by
  rw [lodgerlaw26_GaugeOrder.j0, if_pos rfl, awake_true (by omega)]; rfl
 unfold lodgerlaw26_GaugeOrder.f
 obtain ⟨b, hf, hb⟩ := Fits_gate (B := B) (p := p) (s := s) (w := w) (q := q) (t := t) hH b0.1 b0.2 hS (k := z + 1) (by omega)
 rw [awake_true (by omega), Option.bind_some, if_pos rfl, hf, Option.bind_some]
 cases b with
 | false => exact hj
 | true =>
  obtain ⟨h1, h2, hM, hH4, hr, hms, U, hU, U2, hSU⟩ := hb rfl
  obtain ⟨z, rfl⟩ : ∃ y, z = y + 3 := ⟨z - 3, by omega⟩
  have hq := qf_mark (n := U) (u := S.length) U2 hSU
  have hqb := qf_b U2 hSU
  have one : qf U S.length = 4607182418800017408 ↔ S.length = U := by
   constructor
   ·intro e
    by_cases c : S.length = U
    ·exact c
    ·have := qf_lt U2 (show S.length < U by omega) (Nat.le_refl _)
     rw [qf_one U2] at this; omega
   ·intro e; rw [e]; exact qf_one U2
  generalize hx : qf U S.length = x at *
  have e1 : flt x 0 = false := by rw [flt_mark hq.1 zero_mark.1, zero_mark.2]; exact decide_eq_false (by omega)
  have e2 : fgt x 4607182418800017408 = false := by rw [fgt_mark hq.1 one_mark.1, one_mark.2, hq.2]; exact decide_eq_false (by omega)
  have e3 : fne x x = false := by rw [fne_feq, feq_mark hq.1 hq.1, decide_eq_true rfl]; rfl
  have e4 : (feq x 4607182418800017408 != decide ((S.length : Int) = M p - H.length)) = false := by
   rw [feq_mark hq.1 one_mark.1, one_mark.2, hq.2]
   have : decide (x = 4607182418800017408) = decide ((S.length : Int) = M p - H.length) := by
    rw [Bool.eq_iff_iff, decide_eq_true_eq, decide_eq_true_eq, one]; omega
   rw [this]; simp
  -- behind all of it: above its own share, and what a mark is
  have tail : ∀ x11 : Int, (x11 == 0) = (fge m 0 && fle m 4607182418800017408) → ((gauge_Above.f B p H s w q t S x).bind fun bt => (if bt.1 = true then (if (fge m 0) = true then (some ((x11 == 0) == (fle m 4607182418800017408))) else (some ((x11 == 0) == false))) else (some false))) = some true := by
   intro x11 hx11
   rw [Above_yes hH4 h1 h2 hU U2 hSU hq.1, Option.bind_some, hx, hq.2, decide_eq_true (Nat.le_refl _), hx11, if_pos rfl]
   cases fge m 0 <;> cases fle m 4607182418800017408 <;> rfl
  have j3 : ∀ (x10 : Bool) (x11 : Int) (x12 : Bool) (x13 : Int), (x11 == 0) = (fge m 0 && fle m 4607182418800017408) → (x11 = 0 → x13 = 0 → fle m o = true → x12 = true → x10 = true) → lodgerlaw26_GaugeOrder.j3 (z + 1) S m o x x10 x11 x12 x13 false B p H s w q t = some true := by
   intro x10 x11 x12 x13 hx11 himp
   rw [lodgerlaw26_GaugeOrder.j3, if_neg (by simp)]
   have tl := tail x11 hx11
   by_cases c1 : x11 = 0
   ·rw [if_pos c1]
    by_cases c2 : x13 = 0
    ·rw [if_pos c2]
     by_cases c3 : fle m o = true
     ·rw [if_pos c3]
      by_cases c4 : x12 = true
      ·rw [if_pos c4, if_pos (himp c1 c2 c3 c4)]; exact tl
      ·rw [if_neg c4]; exact tl
     ·rw [if_neg c3]; exact tl
    ·rw [if_neg c2]; exact tl
   ·rw [if_neg c1]; exact tl
  have j2 : lodgerlaw26_GaugeOrder.j2 (z + 2) S m o x false B p H s w q t = some true := by
   rw [lodgerlaw26_GaugeOrder.j2, if_neg (by simp)]
   have ao : ∃ c13 c12, gauge_Above.f B p H s w q t S o = some (c12, c13) ∧ (c13 = 0 → Mk_ o ∧ c12 = decide (mm_ o ≤ x)) := by
    cases c : (fge o 0 && fle o 4607182418800017408) with
    | true => exact ⟨0, _, Above_yes hH4 h1 h2 hU U2 hSU (is_of ho c), fun _ => ⟨is_of ho c, by rw [hx]⟩⟩
    | false => exact ⟨1, false, Above_no c, fun h => absurd h (by decide)⟩
   obtain ⟨c13, c12, ao1, ao2⟩ := ao
   cases c : (fge m 0 && fle m 4607182418800017408) with
   | true =>
    have hMk := is_of hm c
    obtain ⟨r, r1, r2, r3⟩ := Least_yes (B := B) (s := s) (w := w) (q := q) (t := t) hH4 h1 h2 hU U2 hMk (k := z + 1) (by omega)
    rw [Above_yes hH4 h1 h2 hU U2 hSU hMk, Option.bind_some, ao1, Option.bind_some, r3, Option.bind_some]
    have hd : (decide (mm_ m ≤ qf U S.length) != decide ((S.length : Int) ≥ (r : Int))) = false := by
     have : decide (mm_ m ≤ qf U S.length) = decide ((S.length : Int) ≥ (r : Int)) := by
      rw [Bool.eq_iff_iff, decide_eq_true_eq, decide_eq_true_eq, ← r2 S.length hSU]; omega
     rw [this]; simp
    simp only [hd, ↓reduceIte, Bool.false_eq_true]
    refine j3 _ 0 c12 c13 (by rw [c]; rfl) (fun _ hc hle h12 => ?_)
    obtain ⟨hMo, e⟩ := ao2 hc
    rw [e, decide_eq_true_eq] at h12
    rw [fle_mark hMk hMo, decide_eq_true_eq] at hle
    exact decide_eq_true (by rw [hx]; omega)
   | false =>
    rw [Above_no c, Option.bind_some, ao1, Option.bind_some, Least_no c, Option.bind_some]
    exact j3 false 1 c12 c13 (by rw [c]; rfl) (fun h => absurd h (by decide))
  have j1 : lodgerlaw26_GaugeOrder.j1 (z + 3) S m o x false B p H s w q t = some true := by
   rw [lodgerlaw26_GaugeOrder.j1, if_neg (by simp)]
   by_cases c : (S.length : Int) > 0
   ·have el : (S.take ((S.length : Int) - 1).toNat).length = S.length - 1 := by simp <;> omega
    have hq1 := qf_mark (n := U) (u := S.length - 1) U2 (by omega)
    have lt := qf_lt U2 (show S.length - 1 < S.length by omega) hSU
    rw [if_pos c, w64 (x := (S.length : Int) - 1) (by omega) (by omega), if_pos (by omega), if_pos (by omega), Of_eq hH4 h1 h2 hU U2 (by rw [el]; omega), Option.bind_some, el, fge_mark hq1.1 hq.1, hq1.2, hq.2, decide_eq_false (by omega)]
    exact j2
   ·rw [if_neg c]; exact j2
  rw [show (!true) = false from rfl, lodgerlaw26_GaugeOrder.j0, if_neg (by simp), Of_eq hH4 h1 h2 hU U2 hSU, Option.bind_some, hx, e1, if_neg (by simp), e2, if_neg (by simp), e3, if_neg (by simp), refFull_eq B H s w q t hH h1 h2 hr hS hms (by omega), Option.bind_some, e4, if_neg (by simp)]
  by_cases c : (S.length : Int) = 0
  ·rw [if_pos c, refUsable_eq hH4 h1 h2 hU (by omega), Option.bind_some]
   by_cases c2 : (U : Int) > 0
   ·have : fne x 0 = false := by
     rw [← hx, show S.length = 0 by omega, qf_nil (by omega) U2, fne_feq, feq_mark zero_mark.1 zero_mark.1, decide_eq_true rfl]; rfl
    rw [if_pos c2, this]; exact j1
   ·rw [if_neg c2]; exact j1
  ·rw [if_neg c]; exact j1

end Go.Proofs.Ytepgjabpoabjnaa.Pure
