/- BlockHeld answers true at every input: as many offsets are reserved as there are, and all others are usable; no condition. -/
import Derived.Test.YtibfbbeippamaaaQBlockHeldx5
namespace Go.Proofs.Ytibfbbeippamaaa.Pure
open Go.RowKit Go.Proofs.Ytibfbbeippamaaa.PBlockHeld Go.Proofs.YtibfbbeippamaaaW.PrintWords Go.Proofs.YtibfbbeippamaaaW.PrintLast Go.Proofs.YtibfbbeippamaaaW.PrintMore
set_option linter.unusedVariables false
set_option linter.unusedSimpArgs false

theorem w64 {x : Int} (h1 : -9223372036854775808 ≤ x) (h2 : x ≤ 9223372036854775807) : wrap64 x = x := by unfold wrap64; omega
theorem td {a b : Int} (h : 0 ≤ a) : Int.tdiv a b = a / b := Int.tdiv_eq_ediv_of_nonneg h
theorem tm {a b : Int} (h : 0 ≤ a) : Int.tmod a b = a % b := Int.tmod_eq_emod_of_nonneg h
theorem more {k N : Nat} (h : N + 1 ≤ k) : ∃ m, k = m + 1 ∧ N ≤ m := ⟨k - 1, by omega, by omega⟩
theorem wf_u16 {a : Int} (h : (Lit.int .u16 a).wf = true) : 0 ≤ a ∧ a ≤ 65535 := by
  simp [Lit.wf, IntKind.min, IntKind.max, IntKind.signed, IntKind.bits] at h
  omega
theorem wf_u8 {a : Int} (h : (Lit.int .u8 a).wf = true) : 0 ≤ a ∧ a ≤ 255 := by
  simp [Lit.wf, IntKind.min, IntKind.max, IntKind.signed, IntKind.bits] at h
  omega
theorem wf_u32 {a : Int} (h : (Lit.int .u32 a).wf = true) : 0 ≤ a ∧ a ≤ 4294967295 := by
  simp [Lit.wf, IntKind.min, IntKind.max, IntKind.signed, IntKind.bits] at h
  omega
theorem wf_u64 {a : Int} (h : (Lit.int .u64 a).wf = true) : 0 ≤ a ∧ a ≤ 18446744073709551615 := by
  simp [Lit.wf, IntKind.min, IntKind.max, IntKind.signed, IntKind.bits] at h
  omega
theorem wf_i64 {a : Int} (h : (Lit.int .i64 a).wf = true) : -9223372036854775808 ≤ a ∧ a ≤ 9223372036854775807 := by
  simp [Lit.wf, IntKind.min, IntKind.max, IntKind.signed, IntKind.bits] at h
  omega

/-- A word, as the machine's number. -/
def U (x : BitVec 64) : Int := (x.toNat : Int)
theorem U_lt (x : BitVec 64) : 0 ≤ U x ∧ U x < 18446744073709551616 := by have := x.isLt; unfold U; omega
theorem U_of {a : Int} (h0 : 0 ≤ a) (h1 : a ≤ 18446744073709551615) : ∃ x : BitVec 64, a = U x := by
  refine ⟨BitVec.ofNat 64 a.toNat, ?_⟩
  unfold U
  rw [BitVec.toNat_ofNat, Nat.mod_eq_of_lt (by omega)]
  omega
theorem U_inj {x y : BitVec 64} (h : U x = U y) : x = y := by unfold U at h; exact BitVec.eq_of_toNat_eq (by omega)
theorem U_eq {x y : BitVec 64} : (U x == U y) = (x == y) := by
  rw [Bool.eq_iff_iff, beq_iff_eq, beq_iff_eq]; exact ⟨U_inj, fun h => by rw [h]⟩
theorem wrapu (n : Int) : IntKind.u64.wrap n = n % 18446744073709551616 := by simp [IntKind.wrap, IntKind.bits, IntKind.signed]
theorem wrapu_small {n : Int} (h0 : 0 ≤ n) (h1 : n < 18446744073709551616) : IntKind.u64.wrap n = n := by rw [wrapu]; omega
theorem wrapu_U (x : BitVec 64) : IntKind.u64.wrap ((x.toNat : Nat) : Int) = U x := by have := x.isLt; unfold U; rw [wrapu]; omega
theorem ofInt_U (x : BitVec 64) : BitVec.ofInt 64 (U x) = x := by unfold U; rw [BitVec.ofInt_natCast]; simp
theorem bits_or_U (x y : BitVec 64) : Go.bits .or .u64 (U x) (U y) = U (x ||| y) := by
  show IntKind.u64.wrap ((BitVec.ofInt 64 (U x) ||| BitVec.ofInt 64 (U y)).toNat : Nat) = _
  rw [ofInt_U, ofInt_U, wrapu_U]
theorem bits_and_U (x y : BitVec 64) : Go.bits .and .u64 (U x) (U y) = U (x &&& y) := by
  show IntKind.u64.wrap ((BitVec.ofInt 64 (U x) &&& BitVec.ofInt 64 (U y)).toNat : Nat) = _
  rw [ofInt_U, ofInt_U, wrapu_U]
theorem bits_xor_U (x y : BitVec 64) : Go.bits .xor .u64 (U x) (U y) = U (x ^^^ y) := by
  show IntKind.u64.wrap ((BitVec.ofInt 64 (U x) ^^^ BitVec.ofInt 64 (U y)).toNat : Nat) = _
  rw [ofInt_U, ofInt_U, wrapu_U]
theorem bits_andNot_U (x y : BitVec 64) : Go.bits .andNot .u64 (U x) (U y) = U (x &&& ~~~y) := by
  show IntKind.u64.wrap ((BitVec.ofInt 64 (U x) &&& ~~~BitVec.ofInt 64 (U y)).toNat : Nat) = _
  rw [ofInt_U, ofInt_U, wrapu_U]
theorem shl_U {i : Int} (h0 : 0 ≤ i) (h1 : i < 64) : shl .u64 1 i = U (BitVec.twoPow 64 i.toNat) := by
  unfold shl U
  rw [Nat.min_eq_left (by simp [IntKind.bits]; omega), BitVec.toNat_twoPow, wrapu, Int.one_mul]
  simp
theorem shr_U (x : BitVec 64) {i : Int} (h0 : 0 ≤ i) (h1 : i < 64) : shr .u64 (U x) i = U (x >>> i.toNat) := by
  unfold shr U
  rw [Nat.min_eq_left (by simp [IntKind.bits]; omega), BitVec.toNat_ushiftRight, Nat.shiftRight_eq_div_pow]
  simp
theorem one_U : (1 : Int) = U 1#64 := rfl
theorem bit_U (x : BitVec 64) (i : Nat) : (Go.bits .and .u64 (U (x >>> i)) 1 == 1) = x.getLsbD i := by
  rw [one_U, bits_and_U, U_eq, Bool.eq_iff_iff, beq_iff_eq]
  constructor
  · intro h
    have := congrArg (fun z => z.getLsbD 0) h
    simpa using this
  · intro h
    apply BitVec.eq_of_getLsbD_eq
    intro j hj
    rw [BitVec.getLsbD_and, BitVec.getLsbD_one, BitVec.getLsbD_ushiftRight]
    by_cases hz : j = 0
    · subst hz; simp [h]
    · simp [hz]
theorem bitn_U (x : BitVec 64) (i : Nat) : Go.bits .and .u64 (U (x >>> i)) 1 = (if x.getLsbD i = true then 1 else 0) := by
  have h := bit_U x i
  have hb : Go.bits .and .u64 (U (x >>> i)) 1 = 0 ∨ Go.bits .and .u64 (U (x >>> i)) 1 = 1 := by
    rw [one_U, bits_and_U]
    unfold U
    rw [BitVec.toNat_and]
    have : (x >>> i).toNat &&& (1#64).toNat ≤ 1 := Nat.and_le_right
    simp at this ⊢
    omega
  split
  · rename_i hg; rw [hg] at h; exact eq_of_beq h
  · rename_i hg
    rcases hb with hb | hb
    · exact hb
    · rw [hb] at h; exact absurd h.symm hg
/-- The word of the lowest bits. -/
def mask (n : Nat) : BitVec 64 := BitVec.ofNat 64 (2 ^ n - 1)
theorem mask_bit (n j : Nat) (hj : j < 64) : (mask n).getLsbD j = decide (j < n) := by
  unfold mask
  rw [BitVec.getLsbD_ofNat, Nat.testBit_two_pow_sub_one]
  simp [hj]
/-- How many of the first n bits are set. -/
def cnt (x : BitVec 64) : Nat → Nat
  | 0 => 0
  | n + 1 => cnt x n + (if x.getLsbD n = true then 1 else 0)
theorem cnt_le (x : BitVec 64) (n : Nat) : cnt x n ≤ n := by
  induction n with
  | zero => simp [cnt]
  | succ n ih => simp only [cnt]; split <;> omega
theorem cnt_mono (x : BitVec 64) {n m : Nat} (h : n ≤ m) : cnt x n ≤ cnt x m := by
  induction h with
  | refl => omega
  | step _ ih => simp only [cnt]; omega
theorem cnt_all (x : BitVec 64) (n : Nat) (h : ∀ j, j < n → x.getLsbD j = true) : cnt x n = n := by
  induction n with
  | zero => simp [cnt]
  | succ n ih => simp only [cnt]; rw [ih (fun j hj => h j (by omega)), if_pos (h n (by omega))]
theorem cnt_lt (x : BitVec 64) (n i : Nat) (hi : i < n) (h : x.getLsbD i = false) : cnt x n < n := by
  induction n with
  | zero => omega
  | succ n ih =>
    simp only [cnt]
    by_cases he : i = n
    · subst he; rw [h]; have := cnt_le x i; simp; omega
    · have := ih (by omega); split <;> omega
theorem cnt_congr (x y : BitVec 64) (n : Nat) (h : ∀ j, j < n → x.getLsbD j = y.getLsbD j) : cnt x n = cnt y n := by
  induction n with
  | zero => simp [cnt]
  | succ n ih => simp only [cnt]; rw [ih (fun j hj => h j (by omega)), h n (by omega)]
theorem cnt_set (x : BitVec 64) (n i : Nat) (hi : i < n) (hn : n ≤ 64) (h : x.getLsbD i = false) : cnt (x ||| BitVec.twoPow 64 i) n = cnt x n + 1 := by
  induction n with
  | zero => omega
  | succ n ih =>
    simp only [cnt, BitVec.getLsbD_or, BitVec.getLsbD_twoPow]
    by_cases he : i = n
    · subst he
      rw [cnt_congr (x ||| BitVec.twoPow 64 i) x i (fun j hj => by simp [BitVec.getLsbD_or, BitVec.getLsbD_twoPow]; omega), h]
      simp; omega
    · rw [ih (by omega) (by omega)]
      simp [he]; omega

/-- How many addresses a block of this prefix has. -/
def M (p : Int) : Int := 2 ^ (32 - p).toNat
theorem p_cases {p : Int} (h1 : 16 ≤ p) (h2 : p ≤ 32) : p = 16 ∨ p = 17 ∨ p = 18 ∨ p = 19 ∨ p = 20 ∨ p = 21 ∨ p = 22 ∨ p = 23 ∨ p = 24 ∨ p = 25 ∨ p = 26 ∨ p = 27 ∨ p = 28 ∨ p = 29 ∨ p = 30 ∨ p = 31 ∨ p = 32 := by omega
theorem M_bounds {p : Int} (h1 : 16 ≤ p) (h2 : p ≤ 32) : 1 ≤ M p ∧ M p ≤ 65536 := by
  rcases p_cases h1 h2 with rfl | rfl | rfl | rfl | rfl | rfl | rfl | rfl | rfl | rfl | rfl | rfl | rfl | rfl | rfl | rfl | rfl <;> decide
theorem M_fits {p B : Int} (h1 : 16 ≤ p) (h2 : p ≤ 32) (hB0 : 0 ≤ B) (hB1 : B ≤ 4294967295) (hm : B % M p = 0) : B + M p ≤ 4294967296 := by
  rcases p_cases h1 h2 with rfl | rfl | rfl | rfl | rfl | rfl | rfl | rfl | rfl | rfl | rfl | rfl | rfl | rfl | rfl | rfl | rfl
  · rw [show M 16 = 65536 by decide] at *; omega
  · rw [show M 17 = 32768 by decide] at *; omega
  · rw [show M 18 = 16384 by decide] at *; omega
  · rw [show M 19 = 8192 by decide] at *; omega
  · rw [show M 20 = 4096 by decide] at *; omega
  · rw [show M 21 = 2048 by decide] at *; omega
  · rw [show M 22 = 1024 by decide] at *; omega
  · rw [show M 23 = 512 by decide] at *; omega
  · rw [show M 24 = 256 by decide] at *; omega
  · rw [show M 25 = 128 by decide] at *; omega
  · rw [show M 26 = 64 by decide] at *; omega
  · rw [show M 27 = 32 by decide] at *; omega
  · rw [show M 28 = 16 by decide] at *; omega
  · rw [show M 29 = 8 by decide] at *; omega
  · rw [show M 30 = 4 by decide] at *; omega
  · rw [show M 31 = 2 by decide] at *; omega
  · rw [show M 32 = 1 by decide] at *; omega
theorem wraps_u64 (n : Int) (h0 : 0 ≤ n) (h1 : n < 2 ^ 64) : IntKind.u64.wrap n = n := by rw [wrapu]; omega
theorem Many_eq (B : Int) {p : Int} (h1 : 16 ≤ p) (h2 : p ≤ 32) : block_Many.f B p = some (M p) := by
  have hb := M_bounds h1 h2
  unfold block_Many.f
  rw [w64 (x := 32 - p) (by omega) (by omega), wrapu_small (by omega) (by omega), if_pos (by omega)]
  unfold M at hb
  unfold shl M
  rw [Nat.min_eq_left (by simp [IntKind.bits]; omega), Int.one_mul, IntKind.wrap_i64]
  generalize (2 : Int) ^ (32 - p).toNat = q at *
  congr 1; omega
/-- May such a block be? -/
def bmay (B p : Int) : Bool := decide (16 ≤ p ∧ p ≤ 32 ∧ B % M p = 0)

theorem addrMay_eq {B p : Int} (hB0 : 0 ≤ B) (hB1 : B ≤ 4294967295) : addr_May.f B p = some (bmay B p) := by
  unfold addr_May.f bmay
  by_cases c1 : p < 16
  · rw [if_pos c1, decide_eq_false (by omega)]
  rw [if_neg c1]
  by_cases c2 : p > 32
  · rw [if_pos c2, decide_eq_false (by omega)]
  have hb := M_bounds (p := p) (by omega) (by omega)
  have e : shl .u64 1 (32 - p) = M p := by
    unfold M at hb
    unfold shl M
    rw [Nat.min_eq_left (by simp [IntKind.bits]; omega), Int.one_mul, wrapu]
    generalize (2 : Int) ^ (32 - p).toNat = q at *
    omega
  rw [if_neg c2, w64 (x := 32 - p) (by omega) (by omega), wrapu_small (n := 32 - p) (by omega) (by omega), if_pos (by omega), e, wrapu_small (n := B) (by omega) (by omega), wrapu_small (n := M p - 1) (by omega) (by omega)]
  have := bits_mask .u64 64 (by decide) wraps_u64 (32 - p).toNat (by omega) B hB0 (by omega)
  rw [show M p - 1 = 2 ^ (32 - p).toNat - 1 from rfl, this, show (2 : Int) ^ (32 - p).toNat = M p from rfl]
  congr 1
  rw [Bool.eq_iff_iff, beq_iff_eq, decide_eq_true_eq]
  omega

theorem ref04Many_eq {p : Int} (h1 : 16 ≤ p) (h2 : p ≤ 32) {k : Nat} (hk : 20 ≤ k) : lodgerref04_Many.f k p = some (M p) := by
  rcases p_cases h1 h2 with rfl | rfl | rfl | rfl | rfl | rfl | rfl | rfl | rfl | rfl | rfl | rfl | rfl | rfl | rfl | rfl | rfl <;> exact at_rounds (fun k => lodgerref04_Many.mono _ k) hk (by decide +kernel)
theorem ref04May_eq {B p : Int} (hB0 : 0 ≤ B) (hB1 : B ≤ 4294967295) {k : Nat} (hk : 20 ≤ k) : lodgerref04_May.f k B p = some (bmay B p) := by
  unfold lodgerref04_May.f bmay
  by_cases c1 : p ≥ 16
  · rw [if_pos c1]
    by_cases c2 : p ≤ 32
    · have hb := M_bounds (p := p) (by omega) (by omega)
      rw [if_pos c2, ref04Many_eq (by omega) (by omega) hk, Option.bind_some, if_neg (by omega), w64 (by omega) (by omega), tm hB0]
      congr 1
      rw [Bool.eq_iff_iff, beq_iff_eq, decide_eq_true_eq]
      omega
    · rw [if_neg c2, decide_eq_false (by omega)]
  · rw [if_neg c1, decide_eq_false (by omega)]

theorem rd_mid (pre xs : List Int) (x : Int) : rd (pre ++ x :: xs) (pre.length : Int) = x := by simp [rd]

/-- Does a list rise, from behind a number on, below a bound? -/
def rises (last m : Int) : List Int → Bool
  | [] => true
  | x :: xs => decide (last < x) && decide (x < m) && rises x m xs
/-- What a configuration's numbers must be. -/
def chead (B p : Int) (l : List Int) (s w q t : Int) : Bool := decide (16 ≤ p ∧ p ≤ 32 ∧ B % M p = 0 ∧ (l.length : Int) ≤ 64 ∧ 1 ≤ s ∧ s ≤ 64 ∧ 1 ≤ w ∧ w ≤ 64 ∧ 1 ≤ q ∧ q ≤ 64 ∧ 1 ≤ t ∧ t ≤ 8)
/-- May such a configuration be? -/
def cmay (B p : Int) (l : List Int) (s w q t : Int) : Bool := chead B p l s w q t && rises (-1) (M p) l
theorem cmay_head {B p : Int} {l : List Int} {s w q t : Int} (h : cmay B p l s w q t = true) : 16 ≤ p ∧ p ≤ 32 ∧ B % M p = 0 ∧ (l.length : Int) ≤ 64 ∧ 1 ≤ s ∧ s ≤ 64 ∧ 1 ≤ w ∧ w ≤ 64 ∧ 1 ≤ q ∧ q ≤ 64 ∧ 1 ≤ t ∧ t ≤ 8 := by
  unfold cmay chead at h
  rw [Bool.and_eq_true, decide_eq_true_eq] at h
  exact h.1
theorem cmay_rises {B p : Int} {l : List Int} {s w q t : Int} (h : cmay B p l s w q t = true) : rises (-1) (M p) l = true := by
  unfold cmay at h
  rw [Bool.and_eq_true] at h
  exact h.2

theorem rises_bounds {last m : Int} {l : List Int} (h : rises last m l = true) : ∀ x ∈ l, last < x ∧ x < m := by
  induction l generalizing last with
  | nil => intro x hx; cases hx
  | cons y ys ih =>
    simp only [rises, Bool.and_eq_true, decide_eq_true_eq] at h
    intro x hx
    rcases List.mem_cons.1 hx with rfl | hx
    · exact h.1
    · have := ih h.2 x hx
      omega
theorem rises_drop {last m : Int} {xs ys : List Int} {y : Int} (h : rises last m (xs ++ y :: ys) = true) : rises last m (xs ++ ys) = true := by
  induction xs generalizing last with
  | nil =>
    simp only [List.nil_append, rises, Bool.and_eq_true, decide_eq_true_eq] at h ⊢
    cases ys with
    | nil => rfl
    | cons z zs =>
      simp only [rises, Bool.and_eq_true, decide_eq_true_eq] at h ⊢
      exact ⟨⟨by omega, h.2.1.2⟩, h.2.2⟩
  | cons x xs ih =>
    simp only [List.cons_append, rises, Bool.and_eq_true] at h ⊢
    exact ⟨h.1, ih h.2⟩
theorem rises_notin {last m : Int} {xs ys : List Int} {y : Int} (h : rises last m (xs ++ y :: ys) = true) : y ∉ xs ++ ys := by
  induction xs generalizing last with
  | nil =>
    simp only [List.nil_append, rises, Bool.and_eq_true, decide_eq_true_eq] at h ⊢
    intro hy
    have := rises_bounds h.2 y hy
    omega
  | cons x xs ih =>
    simp only [List.cons_append, rises, Bool.and_eq_true] at h ⊢
    have h1 := rises_bounds h.2 y (by simp)
    intro hy
    rcases List.mem_cons.1 hy with rfl | hy
    · omega
    · exact ih h.2 hy
/-- How many of a list lie below a number. -/
def below (l : List Int) (n : Int) : Nat := (l.filter (fun x => decide (x < n))).length
theorem below_le (l : List Int) (n : Int) : below l n ≤ l.length := List.length_filter_le _ _
theorem below_all {l : List Int} {n : Int} (h : ∀ x ∈ l, x < n) : below l n = l.length := by
  unfold below
  rw [List.filter_eq_self.2 (fun x hx => by simpa using h x hx)]
theorem below_none {l : List Int} {n : Int} (h : ∀ x ∈ l, n ≤ x) : below l n = 0 := by
  unfold below
  rw [List.filter_eq_nil_iff.2 (fun x hx => by have := h x hx; simp; omega)]; rfl
theorem below_succ {last m : Int} {l : List Int} (h : rises last m l = true) (n : Int) : below l (n + 1) = below l n + (if n ∈ l then 1 else 0) := by
  induction l generalizing last with
  | nil => simp [below]
  | cons x xs ih =>
    simp only [rises, Bool.and_eq_true, decide_eq_true_eq] at h
    have h2 := ih h.2
    have hb := rises_bounds h.2
    unfold below at h2 ⊢
    simp only [List.filter_cons]
    by_cases c1 : x < n
    · have : ¬ n = x := by omega
      simp only [show x < n + 1 by omega, c1, decide_true, if_true, List.length_cons, List.mem_cons, this, false_or]
      omega
    · by_cases c2 : x = n
      · subst c2
        have hn : x ∉ xs := fun hx => by have := (hb x hx).1; omega
        simp only [show x < x + 1 by omega, show ¬ x < x by omega, decide_true, decide_false, if_true, List.length_cons, List.mem_cons, true_or, if_neg hn] at h2 ⊢
        simp; omega
      · have : ¬ n = x := fun e => c2 e.symm
        simp only [show ¬ x < n + 1 by omega, c1, decide_false, List.mem_cons, this, false_or]
        simpa using h2

theorem Index_l0 (l : List Int) (hl : l.length ≤ maxLen) (a : Int) : ∀ (xs pre : List Int) (k : Nat), l = pre ++ xs → xs.length < k →
    ∃ r, slices_Index_int_int.l0 k l a (l.length : Int) (pre.length : Int) = some r ∧ (0 ≤ r ↔ a ∈ xs) := by
  unfold maxLen at hl
  intro xs
  induction xs with
  | nil =>
    intro pre k hp hk
    obtain ⟨k, rfl⟩ : ∃ m, k = m + 1 := ⟨k - 1, by omega⟩
    refine ⟨-1, ?_, by simp⟩
    simp only [slices_Index_int_int.l0]; rw [if_neg (by rw [hp]; simp)]
  | cons x xs ih =>
    intro pre k hp hk
    simp only [List.length_cons] at hk
    obtain ⟨k, rfl⟩ : ∃ m, k = m + 1 := ⟨k - 1, by omega⟩
    have hlt : pre.length < l.length := by rw [hp]; simp
    simp only [slices_Index_int_int.l0]
    rw [if_pos (by omega), if_pos (by omega), if_pos (by omega)]
    have hx : rd l (pre.length : Int) = x := by rw [hp]; exact rd_mid ..
    rw [hx]
    by_cases e : a = x
    · rw [if_pos e]; exact ⟨_, rfl, by simp [e]⟩
    · rw [if_neg e, w64 (by omega) (by omega)]
      obtain ⟨r, h1, h2⟩ := ih (pre ++ [x]) k (by rw [hp]; simp) (by omega)
      simp only [List.length_append, List.length_cons, List.length_nil, Nat.zero_add, Int.natCast_add, Int.natCast_one] at h1
      exact ⟨r, h1, by rw [h2]; simp [e]⟩
theorem Contains_eq (l : List Int) (hl : l.length ≤ maxLen) (a : Int) {k : Nat} (hk : l.length < k) : slices_Contains_int_int.f k l a = some (decide (a ∈ l)) := by
  unfold slices_Contains_int_int.f slices_Index_int_int.f
  obtain ⟨r, h1, h2⟩ := Index_l0 l hl a l [] k rfl hk
  replace h1 : slices_Index_int_int.l0 k l a (l.length : Int) 0 = some r := h1
  rw [h1, Option.bind_some]
  congr 1
  rw [Bool.eq_iff_iff, decide_eq_true_eq, decide_eq_true_eq]
  exact h2

theorem Held_eq (B p : Int) (l : List Int) (s w q t : Int) (hl : l.length ≤ maxLen) (a : Int) {k : Nat} (hk : l.length < k) : block_Held.f k B p l s w q t a = some (decide (a ∈ l)) := by
  unfold block_Held.f; rw [Contains_eq l hl a hk]; rfl

theorem IndexB_l0 (l : List Bool) (hl : l.length ≤ 1000) (a : Bool) : ∀ (xs pre : List Bool) (k : Nat), l = pre ++ xs → xs.length < k →
    ∃ r, slices_Index_bool_bool.l0 k l a (l.length : Int) (pre.length : Int) = some r ∧ (0 ≤ r ↔ a ∈ xs) := by
  intro xs
  induction xs with
  | nil =>
    intro pre k hp hk
    obtain ⟨k, rfl⟩ : ∃ m, k = m + 1 := ⟨k - 1, by omega⟩
    refine ⟨-1, ?_, by simp⟩
    simp only [slices_Index_bool_bool.l0]; rw [if_neg (by rw [hp]; simp)]
  | cons x xs ih =>
    intro pre k hp hk
    simp only [List.length_cons] at hk
    obtain ⟨k, rfl⟩ : ∃ m, k = m + 1 := ⟨k - 1, by omega⟩
    have hlt : pre.length < l.length := by rw [hp]; simp
    simp only [slices_Index_bool_bool.l0]
    rw [if_pos (by omega), if_pos (by omega), if_pos (by omega)]
    have hx : rdOf false l (pre.length : Int) = x := by rw [hp]; simp [rdOf]
    rw [hx]
    by_cases e : a = x
    · rw [if_pos (by simp [e])]; exact ⟨_, rfl, by simp [e]⟩
    · rw [if_neg (by simp [e]), w64 (by omega) (by omega)]
      obtain ⟨r, h1, h2⟩ := ih (pre ++ [x]) k (by rw [hp]; simp) (by omega)
      simp only [List.length_append, List.length_cons, List.length_nil, Nat.zero_add, Int.natCast_add, Int.natCast_one] at h1
      exact ⟨r, h1, by rw [h2]; simp [e]⟩
theorem all_eq (l : List Bool) (hl : l.length ≤ 1000) {k : Nat} (hk : l.length < k) : block_all.f k l = some (!decide (false ∈ l)) := by
  unfold block_all.f slices_Contains_bool_bool.f slices_Index_bool_bool.f
  obtain ⟨r, h1, h2⟩ := IndexB_l0 l hl false l [] k rfl hk
  simp only [List.length_nil] at h1
  rw [show ((0 : Nat) : Int) = 0 from rfl] at h1
  rw [h1, Option.bind_some, Option.bind_some]
  congr 2
  rw [Bool.eq_iff_iff, decide_eq_true_eq, decide_eq_true_eq]
  exact h2
theorem within_eq (n m : Int) : block_within.f n m = some (decide (1 ≤ n ∧ n ≤ m)) := by
  unfold block_within.f
  by_cases h : n ≥ 1
  · rw [if_pos h]; congr 1; rw [Bool.eq_iff_iff, decide_eq_true_eq, decide_eq_true_eq]; omega
  · rw [if_neg h, decide_eq_false (by omega)]
theorem blockMay_l0 (B p : Int) (l : List Int) (s w q t : Int) (hl : l.length ≤ maxLen) (h1 : 16 ≤ p) (h2 : p ≤ 32) : ∀ (xs pre : List Int) (last : Int) (k : Nat), l = pre ++ xs → xs.length < k →
    block_May.l0 k last l (l.length : Int) (pre.length : Int) B p l s w q t = some (rises last (M p) xs) := by
  unfold maxLen at hl
  intro xs
  induction xs with
  | nil =>
    intro pre last k hp hk
    obtain ⟨k, rfl⟩ : ∃ m, k = m + 1 := ⟨k - 1, by omega⟩
    simp only [block_May.l0]; rw [if_neg (by rw [hp]; simp)]; rfl
  | cons x xs ih =>
    intro pre last k hp hk
    simp only [List.length_cons] at hk
    obtain ⟨k, rfl⟩ : ∃ m, k = m + 1 := ⟨k - 1, by omega⟩
    have hlt : pre.length < l.length := by rw [hp]; simp
    simp only [block_May.l0, rises]
    have hx : rd l (pre.length : Int) = x := by rw [hp]; exact rd_mid ..
    rw [if_pos (by omega), if_pos (by omega), if_pos (by omega), hx]
    by_cases c1 : x ≤ last
    · rw [if_pos c1, decide_eq_false (by omega)]; rfl
    rw [if_neg c1, Many_eq B h1 h2, Option.bind_some]
    by_cases c2 : x ≥ M p
    · rw [if_pos c2, decide_eq_false (p := x < M p) (by omega)]; simp
    have h := ih (pre ++ [x]) x k (by rw [hp]; simp) (by omega)
    simp only [List.length_append, List.length_cons, List.length_nil, Nat.zero_add, Int.natCast_add, Int.natCast_one] at h
    rw [if_neg c2, w64 (by omega) (by omega), h, decide_eq_true (by omega), decide_eq_true (by omega)]; rfl
theorem blockMay_eq {B p : Int} (l : List Int) (s w q t : Int) (hl : l.length ≤ maxLen) (hB0 : 0 ≤ B) (hB1 : B ≤ 4294967295) {k : Nat} (hk : l.length + 10 < k) : block_May.f k B p l s w q t = some (cmay B p l s w q t) := by
  unfold block_May.f
  rw [addrMay_eq hB0 hB1, Option.bind_some, within_eq, Option.bind_some, within_eq, Option.bind_some, within_eq, Option.bind_some, within_eq, Option.bind_some, all_eq _ (by simp) (by simp; omega), Option.bind_some]
  unfold cmay
  by_cases h : chead B p l s w q t = true
  · have h' := h
    unfold chead at h'
    rw [decide_eq_true_eq] at h'
    have hb : bmay B p = true := by unfold bmay; rw [decide_eq_true_eq]; omega
    rw [h, hb, decide_eq_true (p := (l.length : Int) ≤ 64) (by omega), decide_eq_true (p := 1 ≤ s ∧ s ≤ 64) (by omega), decide_eq_true (p := 1 ≤ w ∧ w ≤ 64) (by omega), decide_eq_true (p := 1 ≤ q ∧ q ≤ 64) (by omega), decide_eq_true (p := 1 ≤ t ∧ t ≤ 8) (by omega)]
    rw [if_pos (by decide)]
    have := blockMay_l0 B p l s w q t hl (by omega) (by omega) l [] (-1) k rfl (by omega)
    rw [show (([] : List Int).length : Int) = 0 from rfl] at this
    rw [this]; rfl
  · rw [Bool.not_eq_true] at h
    rw [h, if_neg]
    · rfl
    · intro hc
      unfold chead at h
      rw [decide_eq_false_iff_not] at h
      unfold bmay at hc
      simp at hc
      omega

theorem ref05Many_eq (B : Int) {p : Int} (h1 : 16 ≤ p) (h2 : p ≤ 32) {k : Nat} (hk : 20 ≤ k) : lodgerref05_Many.f k B p = some (M p) := by
  unfold lodgerref05_Many.f; rw [ref04Many_eq h1 h2 hk]; rfl

theorem refMay_l0 (B p : Int) (l : List Int) (s w q t : Int) (hl : l.length ≤ maxLen) (h1 : 16 ≤ p) (h2 : p ≤ 32) : ∀ (xs pre : List Int) (last : Int) (k : Nat), l = pre ++ xs → (pre = [] ∧ last = -1 ∨ (∃ pr, pre = pr ++ [last]) ∧ 0 ≤ last) → xs.length + 30 < k →
    lodgerref05_May.l0 k (pre.length : Int) B p l s w q t = some (rises last (M p) xs) := by
  unfold maxLen at hl
  intro xs
  induction xs with
  | nil =>
    intro pre last k hp hpre hk
    obtain ⟨k, rfl⟩ : ∃ m, k = m + 1 := ⟨k - 1, by omega⟩
    simp only [lodgerref05_May.l0]; rw [if_neg (by rw [hp]; simp)]; rfl
  | cons x xs ih =>
    intro pre last k hp hpre hk
    simp only [List.length_cons] at hk
    obtain ⟨k, rfl⟩ : ∃ m, k = m + 1 := ⟨k - 1, by omega⟩
    have hlt : pre.length < l.length := by rw [hp]; simp
    simp only [lodgerref05_May.l0, rises]
    have hx : rd l (pre.length : Int) = x := by rw [hp]; exact rd_mid ..
    rw [if_pos (by omega), if_pos (by omega), hx]
    by_cases c1 : x < 0
    · rw [if_pos c1, decide_eq_false (p := last < x) (by rcases hpre with ⟨_, h⟩ | ⟨_, h⟩ <;> omega)]; rfl
    rw [if_neg c1, ref05Many_eq B h1 h2 (by omega), Option.bind_some]
    by_cases c2 : x ≥ M p
    · rw [if_pos c2, decide_eq_false (p := x < M p) (by omega)]; simp
    have h := ih (pre ++ [x]) x k (by rw [hp]; simp) (.inr ⟨⟨pre, rfl⟩, by omega⟩) (by omega)
    simp only [List.length_append, List.length_cons, List.length_nil, Nat.zero_add, Int.natCast_add, Int.natCast_one] at h
    rw [if_neg c2, decide_eq_true (p := x < M p) (by omega), w64 (x := (pre.length : Int) + 1) (by omega) (by omega), h]
    rcases hpre with ⟨rfl, rfl⟩ | ⟨⟨pr, rfl⟩, h0⟩
    · rw [if_neg (by simp), decide_eq_true (p := -1 < x) (by omega)]; rfl
    · have hy : rd l (((pr ++ [last]).length : Int) - 1) = last := by
        rw [hp]; simp [rd]
      have hl1 : (pr ++ [last]).length = pr.length + 1 := by simp
      rw [if_pos (by omega), w64 (by omega) (by omega), if_pos (by omega), if_pos (by omega), hy]
      by_cases c3 : x ≤ last
      · rw [if_pos c3, decide_eq_false (p := last < x) (by omega)]; rfl
      · rw [if_neg c3, decide_eq_true (p := last < x) (by omega)]; rfl
theorem ref05May_eq {B p : Int} (l : List Int) (s w q t : Int) (hl : l.length ≤ maxLen) (hB0 : 0 ≤ B) (hB1 : B ≤ 4294967295) {k : Nat} (hk : l.length + 40 < k) : lodgerref05_May.f k B p l s w q t = some (cmay B p l s w q t) := by
  obtain ⟨k, rfl⟩ : ∃ m, k = m + 1 := ⟨k - 1, by omega⟩
  have hj : lodgerref05_May.j0 (k + 1) true B p l s w q t = some false := by simp only [lodgerref05_May.j0, ↓reduceIte]
  unfold lodgerref05_May.f cmay
  rw [ref04May_eq hB0 hB1 (by omega), Option.bind_some]
  by_cases h : chead B p l s w q t = true
  · have h' := h
    unfold chead at h'
    rw [decide_eq_true_eq] at h'
    have hb : bmay B p = true := by unfold bmay; rw [decide_eq_true_eq]; omega
    rw [h, hb, if_pos rfl, if_neg (by omega), if_neg (by omega), if_neg (by omega), if_neg (by omega), if_neg (by omega), if_neg (by omega), if_neg (by omega), if_neg (by omega), decide_eq_false (p := t > 8) (by omega)]
    simp only [lodgerref05_May.j0]
    rw [if_neg (by simp)]
    have := refMay_l0 B p l s w q t hl (by omega) (by omega) l [] (-1) k rfl (.inl ⟨rfl, rfl⟩) (by omega)
    rw [show (([] : List Int).length : Int) = 0 from rfl] at this
    rw [this]; rfl
  · rw [Bool.not_eq_true] at h
    rw [h, hj]
    by_cases hb : bmay B p = true
    · rw [hb, if_pos rfl]
      have hb' := hb
      unfold bmay at hb'
      rw [decide_eq_true_eq] at hb'
      unfold chead at h
      rw [decide_eq_false_iff_not] at h
      by_cases c1 : (l.length : Int) > 64
      · rw [if_pos c1]; rfl
      rw [if_neg c1]
      by_cases c2 : s < 1
      · rw [if_pos c2]; rfl
      rw [if_neg c2]
      by_cases c3 : s > 64
      · rw [if_pos c3]; rfl
      rw [if_neg c3]
      by_cases c4 : w < 1
      · rw [if_pos c4]; rfl
      rw [if_neg c4]
      by_cases c5 : w > 64
      · rw [if_pos c5]; rfl
      rw [if_neg c5]
      by_cases c6 : q < 1
      · rw [if_pos c6]; rfl
      rw [if_neg c6]
      by_cases c7 : q > 64
      · rw [if_pos c7]; rfl
      rw [if_neg c7]
      by_cases c8 : t < 1
      · rw [if_pos c8]; rfl
      rw [if_neg c8, decide_eq_true (p := t > 8) (by omega), hj]; rfl
    · rw [if_neg hb]; rfl

theorem Usable_eq {B p : Int} (l : List Int) (s w q t : Int) (hl : l.length ≤ maxLen) (h1 : 16 ≤ p) (h2 : p ≤ 32) : block_Usable.f B p l s w q t = some (M p - l.length) := by
  unfold maxLen at hl
  have hb := M_bounds h1 h2
  unfold block_Usable.f; rw [Many_eq B h1 h2, Option.bind_some, w64 (by omega) (by omega)]

theorem awake_true {k : Nat} (hk : 500 ≤ k) : lodgerlaw05_awake.f k = some true := at_rounds lodgerlaw05_awake.mono hk (by decide +kernel)
theorem end_j2 {B p : Int} {l : List Int} {s w q t : Int} (hl : l.length ≤ maxLen) (hB0 : 0 ≤ B) (hB1 : B ≤ 4294967295) (hc : cmay B p l s w q t = true) {wh : Int} (hw0 : 0 ≤ wh) (hw1 : wh ≤ 255) {k : Nat} (hk : 500 ≤ k) :
    lodgerlaw05_BlockHeld.j2 k wh l.length false B p l s w q t = some true := by
  obtain ⟨h1, h2, h3, h4, h5⟩ := cmay_head hc
  have hr := cmay_rises hc
  have hb := M_bounds h1 h2
  obtain ⟨k, rfl⟩ : ∃ z, k = z + 1 := ⟨k - 1, by omega⟩
  simp only [lodgerlaw05_BlockHeld.j2]
  rw [if_neg (by simp)]
  by_cases hz : (l.length : Int) = 0
  · rw [if_pos hz]
  rw [if_neg hz, Option.bind_some, w64 (x := wh) (by omega) (by omega), tm hw0]
  have i0 := Int.emod_nonneg wh (show (l.length : Int) ≠ 0 by omega)
  have i1 := Int.emod_lt_of_pos wh (show 0 < (l.length : Int) by omega)
  generalize wh % (l.length : Int) = i at i0 i1
  have hlt : i.toNat < l.length := by omega
  have hsp : l = l.take i.toNat ++ l[i.toNat] :: l.drop (i.toNat + 1) := by
    rw [← List.drop_eq_getElem_cons hlt, List.take_append_drop]
  have ht : (l.take i.toNat).length = i.toNat := by rw [List.length_take]; omega
  have hd : (l.drop (i.toNat + 1)).length = l.length - (i.toNat + 1) := List.length_drop ..
  have e1 : (i + 1).toNat = i.toNat + 1 := by omega
  rw [if_pos i0, if_pos (by omega), if_pos (by rw [List.length_nil, ht]; omega), Option.bind_some, w64 (x := i + 1) (by omega) (by omega), if_pos (by omega), if_pos (by omega), e1, List.nil_append, if_pos (by omega), Option.bind_some]
  have hrd : rd l i = l[i.toNat] := by unfold rd; simp [List.getD_eq_getElem?_getD, hlt]
  have hr2 : rises (-1) (M p) (l.take i.toNat ++ l.drop (i.toNat + 1)) = true := rises_drop (by rw [← hsp]; exact hr)
  have hn : l[i.toNat] ∉ l.take i.toNat ++ l.drop (i.toNat + 1) := rises_notin (last := -1) (m := M p) (by rw [← hsp]; exact hr)
  have hlen : (l.take i.toNat ++ l.drop (i.toNat + 1)).length = l.length - 1 := by rw [List.length_append]; omega
  generalize l.take i.toNat ++ l.drop (i.toNat + 1) = y at *
  have hy : y.length ≤ maxLen := by omega
  have hcy : cmay B p y s w q t = true := by
    unfold cmay chead
    rw [hr2, decide_eq_true (by omega)]; rfl
  rw [blockMay_eq y s w q t hy hB0 hB1 (by omega), hcy, Option.bind_some, if_pos rfl, Usable_eq y s w q t hy h1 h2, Option.bind_some, Usable_eq l s w q t hl h1 h2, Option.bind_some, w64 (by omega) (by omega), if_pos (by omega), if_pos (by omega),
    Held_eq B p y s w q t hy _ (by omega), Option.bind_some, hrd, decide_eq_false hn, if_neg (by simp), Held_eq B p l s w q t hl _ (by omega), Option.bind_some, decide_eq_true (List.getElem_mem hlt)]
theorem count_l0 {B p : Int} {l : List Int} {s w q t : Int} (hl : l.length ≤ maxLen) (hB0 : 0 ≤ B) (hB1 : B ≤ 4294967295) (hc : cmay B p l s w q t = true) {wh : Int} (hw0 : 0 ≤ wh) (hw1 : wh ≤ 255) (d : Nat) :
    ∀ (k : Nat) (i : Int), 0 ≤ i → i ≤ M p → M p - i = d → d + 1000 < k → lodgerlaw05_BlockHeld.l0 k wh (below l i) i B p l s w q t = some true := by
  obtain ⟨h1, h2, h3, h4, h5⟩ := cmay_head hc
  have hr := cmay_rises hc
  have hb := M_bounds h1 h2
  induction d with
  | zero =>
    intro k i hi0 hi1 hd hk
    obtain ⟨k, rfl⟩ : ∃ z, k = z + 1 := ⟨k - 1, by omega⟩
    obtain rfl : i = M p := by omega
    simp only [lodgerlaw05_BlockHeld.l0]
    rw [Many_eq B h1 h2, Option.bind_some, if_neg (by omega), below_all (fun x hx => (rises_bounds hr x hx).2), if_pos rfl, Usable_eq l s w q t hl h1 h2, Option.bind_some, Option.bind_some, w64 (by omega) (by omega), show (M p - (l.length : Int) != M p - l.length) = false by simp]
    exact end_j2 hl hB0 hB1 hc hw0 hw1 (by omega)
  | succ d ih =>
    intro k i hi0 hi1 hd hk
    obtain ⟨k, rfl⟩ : ∃ z, k = z + 1 := ⟨k - 1, by omega⟩
    have hle := below_le l i
    have hs := below_succ hr i
    have := ih k (i + 1) (by omega) (by omega) (by omega) (by omega)
    simp only [lodgerlaw05_BlockHeld.l0]
    rw [Many_eq B h1 h2, Option.bind_some, if_pos (by omega), Held_eq B p l s w q t hl _ (by omega), Option.bind_some, w64 (x := i + 1) (by omega) (by omega), w64 (x := (below l i : Int) + 1) (by omega) (by omega)]
    rw [hs] at this
    by_cases e : i ∈ l
    · rw [decide_eq_true e, if_pos rfl]; rw [if_pos e] at this; exact this
    · rw [decide_eq_false e, if_neg (by simp)]; rw [if_neg e] at this; exact this
theorem BlockHeld : lodgerlaw05_BlockHeld.Pure := by
  intro B p l s w q t wh w0 w1 hl w2 w3 w4 w5 w6 w7
  have b0 := wf_u32 w0
  have b7 := wf_u8 w7
  refine ⟨l.length + 100000, ?_⟩
  generalize hK : l.length + 100000 = k
  obtain ⟨m, rfl, hm⟩ := more (k := k) (N := l.length + 99999) (by omega)
  have hj : lodgerlaw05_BlockHeld.j0 (m + 1) wh true B p l s w q t = some true := by
    simp only [lodgerlaw05_BlockHeld.j0, ↓reduceIte]; rw [awake_true (by omega)]; rfl
  unfold lodgerlaw05_BlockHeld.f
  rw [awake_true (by omega), Option.bind_some, if_pos rfl, ref05May_eq l s w q t hl b0.1 b0.2 (by omega), Option.bind_some]
  cases hc : cmay B p l s w q t with
  | false => rw [if_neg (by simp), hj]
  | true =>
    obtain ⟨h1, h2, h3, h4, h5⟩ := cmay_head hc
    have hb := M_bounds h1 h2
    rw [if_pos rfl, Many_eq B h1 h2, Option.bind_some]
    by_cases hm : M p > 4096
    · rw [decide_eq_true hm, hj]
    · rw [decide_eq_false hm]
      simp only [lodgerlaw05_BlockHeld.j0]
      rw [if_neg (by simp)]
      have := count_l0 hl b0.1 b0.2 hc b7.1 b7.2 (M p).toNat m 0 (by omega) (by omega) (by omega) (by omega)
      rwa [below_none (fun x hx => by have := (rises_bounds (cmay_rises hc) x hx).1; omega)] at this

end Go.Proofs.Ytibfbbeippamaaa.Pure
