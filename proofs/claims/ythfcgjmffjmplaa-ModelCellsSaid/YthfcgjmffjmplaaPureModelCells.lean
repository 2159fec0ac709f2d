/- ModelCells answers true at every input: a claim of an offset's bit makes the set with it, a drop the set without it, and other cells than leaves say nothing; no condition. -/
import Derived.Test.YthfcgjmffjmplaaQModelCellsx7
namespace Go.Proofs.Ythfcgjmffjmplaa.Pure
open Go.RowKit Go.Proofs.Ythfcgjmffjmplaa.PModelCells Go.Proofs.YthfcgjmffjmplaaW.PrintWords Go.Proofs.YthfcgjmffjmplaaW.PrintLast Go.Proofs.YthfcgjmffjmplaaW.PrintMore
set_option linter.unusedVariables false
set_option linter.unusedSimpArgs false

theorem w64 {x : Int} (h1 : -9223372036854775808 ≤ x) (h2 : x ≤ 9223372036854775807) : wrap64 x = x := by unfold wrap64; omega
theorem td {a b : Int} (h : 0 ≤ a) : Int.tdiv a b = a / b := Int.tdiv_eq_ediv_of_nonneg h
theorem tm {a b : Int} (h : 0 ≤ a) : Int.tmod a b = a % b := Int.tmod_eq_emod_of_nonneg h
theorem more {k N : Nat} (h : N + 1 ≤ k) : ∃ m, k = m + 1 ∧ N ≤ m := ⟨k - 1, by omega, by omega⟩
theorem wf_u16 {a : Int} (h : (Lit.int .u16 a).wf = true) : 0 ≤ a ∧ a ≤ 65535 := by
 simp [Lit.wf, IntKind.min, IntKind.max, IntKind.signed, IntKind.bits] at h
 omega
theorem wf_u8 {a : Int} (h : (Lit.int .u8 a).wf = true) : 0 ≤ a ∧ a ≤ 255 := by
 simp [Lit.wf, IntKind.min, IntKind.max, IntKind.signed, IntKind.bits] at h
 omega
theorem wf_u32 {a : Int} (h : (Lit.int .u32 a).wf = true) : 0 ≤ a ∧ a ≤ 4294967295 := by
 simp [Lit.wf, IntKind.min, IntKind.max, IntKind.signed, IntKind.bits] at h
 omega
theorem wf_u64 {a : Int} (h : (Lit.int .u64 a).wf = true) : 0 ≤ a ∧ a ≤ 18446744073709551615 := by
 simp [Lit.wf, IntKind.min, IntKind.max, IntKind.signed, IntKind.bits] at h
 omega
theorem wf_i64 {a : Int} (h : (Lit.int .i64 a).wf = true) : -9223372036854775808 ≤ a ∧ a ≤ 9223372036854775807 := by
 simp [Lit.wf, IntKind.min, IntKind.max, IntKind.signed, IntKind.bits] at h
 omega

/-- A word, as the machine's number. -/
def U (x : BitVec 64) : Int := (x.toNat : Int)
theorem U_lt (x : BitVec 64) : 0 ≤ U x ∧ U x < 18446744073709551616 := by have := x.isLt; unfold U; omega
theorem U_of {a : Int} (h0 : 0 ≤ a) (h1 : a ≤ 18446744073709551615) : ∃ x : BitVec 64, a = U x := by
 refine ⟨BitVec.ofNat 64 a.toNat, ?_⟩
 unfold U
 rw [BitVec.toNat_ofNat, Nat.mod_eq_of_lt (by omega)]
 omega
theorem U_inj {x y : BitVec 64} (h : U x = U y) : x = y := by unfold U at h; exact BitVec.eq_of_toNat_eq (by omega)
theorem U_eq {x y : BitVec 64} : (U x == U y) = (x == y) := by
 rw [Bool.eq_iff_iff, beq_iff_eq, beq_iff_eq]; exact ⟨U_inj, fun h => by rw [h]⟩
theorem wrapu (n : Int) : IntKind.u64.wrap n = n % 18446744073709551616 := by simp [IntKind.wrap, IntKind.bits, IntKind.signed]
theorem wrapu_small {n : Int} (h0 : 0 ≤ n) (h1 : n < 18446744073709551616) : IntKind.u64.wrap n = n := by rw [wrapu]; omega
theorem wrapu_U (x : BitVec 64) : IntKind.u64.wrap ((x.toNat : Nat) : Int) = U x := by have := x.isLt; unfold U; rw [wrapu]; omega
theorem ofInt_U (x : BitVec 64) : BitVec.ofInt 64 (U x) = x := by unfold U; rw [BitVec.ofInt_natCast]; simp
theorem bits_or_U (x y : BitVec 64) : Go.bits .or .u64 (U x) (U y) = U (x ||| y) := by
 show IntKind.u64.wrap ((BitVec.ofInt 64 (U x) ||| BitVec.ofInt 64 (U y)).toNat : Nat) = _
 rw [ofInt_U, ofInt_U, wrapu_U]
theorem bits_and_U (x y : BitVec 64) : Go.bits .and .u64 (U x) (U y) = U (x &&& y) := by
 show IntKind.u64.wrap ((BitVec.ofInt 64 (U x) &&& BitVec.ofInt 64 (U y)).toNat : Nat) = _
 rw [ofInt_U, ofInt_U, wrapu_U]
theorem bits_xor_U (x y : BitVec 64) : Go.bits .xor .u64 (U x) (U y) = U (x ^^^ y) := by
 show IntKind.u64.wrap ((BitVec.ofInt 64 (U x) ^^^ BitVec.ofInt 64 (U y)).toNat : Nat) = _
 rw [ofInt_U, ofInt_U, wrapu_U]
theorem bits_andNot_U (x y : BitVec 64) : Go.bits .andNot .u64 (U x) (U y) = U (x &&& ~~~y) := by
 show IntKind.u64.wrap ((BitVec.ofInt 64 (U x) &&& ~~~BitVec.ofInt 64 (U y)).toNat : Nat) = _
 rw [ofInt_U, ofInt_U, wrapu_U]
theorem shl_U {i : Int} (h0 : 0 ≤ i) (h1 : i < 64) : shl .u64 1 i = U (BitVec.twoPow 64 i.toNat) := by
 unfold shl U
 rw [Nat.min_eq_left (by simp [IntKind.bits]; omega), BitVec.toNat_twoPow, wrapu, Int.one_mul]
 simp
theorem shr_U (x : BitVec 64) {i : Int} (h0 : 0 ≤ i) (h1 : i < 64) : shr .u64 (U x) i = U (x >>> i.toNat) := by
 unfold shr U
 rw [Nat.min_eq_left (by simp [IntKind.bits]; omega), BitVec.toNat_ushiftRight, Nat.shiftRight_eq_div_pow]
 simp
theorem one_U : (1 : Int) = U 1#64 := rfl
theorem bit_U (x : BitVec 64) (i : Nat) : (Go.bits .and .u64 (U (x >>> i)) 1 == 1) = x.getLsbD i := by
 rw [one_U, bits_and_U, U_eq, Bool.eq_iff_iff, beq_iff_eq]
 constructor
 ·intro h
  have := congrArg (fun z => z.getLsbD 0) h
  simpa using this
 ·intro h
  apply BitVec.eq_of_getLsbD_eq
  intro j hj
  rw [BitVec.getLsbD_and, BitVec.getLsbD_one, BitVec.getLsbD_ushiftRight]
  by_cases hz : j = 0
  ·subst hz; simp [h]
  ·simp [hz]
theorem bitn_U (x : BitVec 64) (i : Nat) : Go.bits .and .u64 (U (x >>> i)) 1 = (if x.getLsbD i = true then 1 else 0) := by
 have h := bit_U x i
 have hb : Go.bits .and .u64 (U (x >>> i)) 1 = 0 ∨ Go.bits .and .u64 (U (x >>> i)) 1 = 1 := by
  rw [one_U, bits_and_U]
  unfold U
  rw [BitVec.toNat_and]
  have : (x >>> i).toNat &&& (1#64).toNat ≤ 1 := Nat.and_le_right
  simp at this ⊢
  omega
 split
 ·rename_i hg; rw [hg] at h; exact eq_of_beq h
 ·rename_i hg
  rcases hb with hb | hb
  ·exact hb
  ·rw [hb] at h; exact absurd h.symm hg
/-- The word of the lowest bits. -/
def mask (n : Nat) : BitVec 64 := BitVec.ofNat 64 (2 ^ n - 1)
theorem mask_bit (n j : Nat) (hj : j < 64) : (mask n).getLsbD j = decide (j < n) := by
 unfold mask
 rw [BitVec.getLsbD_ofNat, Nat.testBit_two_pow_sub_one]
 simp [hj]
/-- How many of the first n bits are set. -/
def cnt (x : BitVec 64) : Nat → Nat
 | 0 => 0
 | n + 1 => cnt x n + (if x.getLsbD n = true then 1 else 0)
theorem cnt_le (x : BitVec 64) (n : Nat) : cnt x n ≤ n := by
 induction n with
 | zero => simp [cnt]
 | succ n ih => simp only [cnt]; split <;> omega
theorem cnt_mono (x : BitVec 64) {n m : Nat} (h : n ≤ m) : cnt x n ≤ cnt x m := by
 induction h with
 | refl => omega
 | step _ ih => simp only [cnt]; omega
theorem cnt_all (x : BitVec 64) (n : Nat) (h : ∀ j, j < n → x.getLsbD j = true) : cnt x n = n := by
 induction n with
 | zero => simp [cnt]
 | succ n ih => simp only [cnt]; rw [ih (fun j hj => h j (by omega)), if_pos (h n (by omega))]
theorem cnt_lt (x : BitVec 64) (n i : Nat) (hi : i < n) (h : x.getLsbD i = false) : cnt x n < n := by
 induction n with
 | zero => omega
 | succ n ih =>
  simp only [cnt]
  by_cases he : i = n
  ·subst he; rw [h]; have := cnt_le x i; simp; omega
  ·have := ih (by omega); split <;> omega
theorem cnt_congr (x y : BitVec 64) (n : Nat) (h : ∀ j, j < n → x.getLsbD j = y.getLsbD j) : cnt x n = cnt y n := by
 induction n with
 | zero => simp [cnt]
 | succ n ih => simp only [cnt]; rw [ih (fun j hj => h j (by omega)), h n (by omega)]
theorem cnt_set (x : BitVec 64) (n i : Nat) (hi : i < n) (hn : n ≤ 64) (h : x.getLsbD i = false) : cnt (x ||| BitVec.twoPow 64 i) n = cnt x n + 1 := by
 induction n with
 | zero => omega
 | succ n ih =>
  simp only [cnt, BitVec.getLsbD_or, BitVec.getLsbD_twoPow]
  by_cases he : i = n
  ·subst he
   rw [cnt_congr (x ||| BitVec.twoPow 64 i) x i (fun j hj => by simp [BitVec.getLsbD_or, BitVec.getLsbD_twoPow]; omega), h]
   simp; omega
  ·rw [ih (by omega) (by omega)]
   simp [he]; omega

/-- How many addresses a block of this prefix has. -/
def M (p : Int) : Int := 2 ^ (32 - p).toNat
theorem p_cases {p : Int} (h1 : 16 ≤ p) (h2 : p ≤ 32) : p = 16 ∨ p = 17 ∨ p = 18 ∨ p = 19 ∨ p = 20 ∨ p = 21 ∨ p = 22 ∨ p = 23 ∨ p = 24 ∨ p = 25 ∨ p = 26 ∨ p = 27 ∨ p = 28 ∨ p = 29 ∨ p = 30 ∨ p = 31 ∨ p = 32 := by omega
theorem M_bounds {p : Int} (h1 : 16 ≤ p) (h2 : p ≤ 32) : 1 ≤ M p ∧ M p ≤ 65536 := by
 rcases p_cases h1 h2 with rfl | rfl | rfl | rfl | rfl | rfl | rfl | rfl | rfl | rfl | rfl | rfl | rfl | rfl | rfl | rfl | rfl <;> decide
theorem M_fits {p B : Int} (h1 : 16 ≤ p) (h2 : p ≤ 32) (hB0 : 0 ≤ B) (hB1 : B ≤ 4294967295) (hm : B % M p = 0) : B + M p ≤ 4294967296 := by
 rcases p_cases h1 h2 with rfl | rfl | rfl | rfl | rfl | rfl | rfl | rfl | rfl | rfl | rfl | rfl | rfl | rfl | rfl | rfl | rfl
 ·rw [show M 16 = 65536 by decide] at *; omega
 ·rw [show M 17 = 32768 by decide] at *; omega
 ·rw [show M 18 = 16384 by decide] at *; omega
 ·rw [show M 19 = 8192 by decide] at *; omega
 ·rw [show M 20 = 4096 by decide] at *; omega
 ·rw [show M 21 = 2048 by decide] at *; omega
 ·rw [show M 22 = 1024 by decide] at *; omega
 ·rw [show M 23 = 512 by decide] at *; omega
 ·rw [show M 24 = 256 by decide] at *; omega
 ·rw [show M 25 = 128 by decide] at *; omega
 ·rw [show M 26 = 64 by decide] at *; omega
 ·rw [show M 27 = 32 by decide] at *; omega
 ·rw [show M 28 = 16 by decide] at *; omega
 ·rw [show M 29 = 8 by decide] at *; omega
 ·rw [show M 30 = 4 by decide] at *; omega
 ·rw [show M 31 = 2 by decide] at *; omega
 ·rw [show M 32 = 1 by decide] at *; omega
theorem wraps_u64 (n : Int) (h0 : 0 ≤ n) (h1 : n < 2 ^ 64) : IntKind.u64.wrap n = n := by rw [wrapu]; omega
theorem Many_eq (B : Int) {p : Int} (h1 : 16 ≤ p) (h2 : p ≤ 32) : block_Many.f B p = some (M p) := by
 have hb := M_bounds h1 h2
 unfold block_Many.f
 rw [w64 (x := 32 - p) (by omega) (by omega), wrapu_small (by omega) (by omega), if_pos (by omega)]
 unfold M at hb
 unfold shl M
 rw [Nat.min_eq_left (by simp [IntKind.bits]; omega), Int.one_mul, IntKind.wrap_i64]
 generalize (2 : Int) ^ (32 - p).toNat = q at *
 congr 1; omega
/-- May such a block be? -/
def bmay (B p : Int) : Bool := decide (16 ≤ p ∧ p ≤ 32 ∧ B % M p = 0)

theorem Has_eq (x : BitVec 64) {i : Int} (h0 : 0 ≤ i) (h1 : i < 64) : bits_Has.f (U x) i = some (x.getLsbD i.toNat) := by
 unfold bits_Has.f
 rw [wrapu_small h0 (by omega), if_pos h0, shr_U x h0 h1, bit_U]

theorem Set_eq (x : BitVec 64) {i : Int} (h0 : 0 ≤ i) (h1 : i < 64) : bits_Set.f (U x) i = some (U (x ||| BitVec.twoPow 64 i.toNat)) := by
 unfold bits_Set.f
 rw [wrapu_small h0 (by omega), if_pos h0, shl_U h0 h1, bits_or_U]
theorem Clear_eq (x : BitVec 64) {i : Int} (h0 : 0 ≤ i) (h1 : i < 64) : bits_Clear.f (U x) i = some (U (x &&& ~~~BitVec.twoPow 64 i.toNat)) := by
 unfold bits_Clear.f
 rw [wrapu_small h0 (by omega), if_pos h0, shl_U h0 h1, bits_andNot_U]

theorem Pow_l0 {n : Int} (h1 : n < 64) (d : Nat) : ∀ (k : Nat) (i : Nat), (i : Int) ≤ n → n - i = d → d < k → lodgerref01_Pow.l0 k n ((2 ^ i : Nat) : Int) i = some ((2 ^ n.toNat : Nat) : Int) := by
 induction d with
 | zero =>
  intro k i hi hd hk
  obtain ⟨k, rfl⟩ : ∃ m, k = m + 1 := ⟨k - 1, by omega⟩
  have : i = n.toNat := by omega
  subst this
  simp only [lodgerref01_Pow.l0]; rw [if_neg (by omega)]
 | succ d ih =>
  intro k i hi hd hk
  obtain ⟨k, rfl⟩ : ∃ m, k = m + 1 := ⟨k - 1, by omega⟩
  have hp : 2 ^ (i + 1) ≤ 9223372036854775808 := Nat.pow_le_pow_right (n := 2) (j := 63) (by decide) (by omega)
  have := ih k (i + 1) (by omega) (by omega) (by omega)
  have e : 2 ^ (i + 1) = 2 ^ i * 2 := Nat.pow_succ ..
  rw [e] at this hp
  simp only [lodgerref01_Pow.l0]
  generalize 2 ^ i = P at this hp ⊢
  rw [if_pos (by omega), wrapu_small (by omega) (by omega), w64 (by omega) (by omega)]
  rw [Int.natCast_mul, Int.natCast_add] at this
  exact this
theorem Pow_eq {n : Int} (h0 : 0 ≤ n) (h1 : n < 64) {k : Nat} (hk : 70 ≤ k) : lodgerref01_Pow.f k n = some ((2 ^ n.toNat : Nat) : Int) := by
 unfold lodgerref01_Pow.f
 exact Pow_l0 h1 n.toNat k 0 (by omega) (by omega) (by omega)
theorem refHas_eq (x : BitVec 64) {i : Int} (h0 : 0 ≤ i) (h1 : i < 64) {k : Nat} (hk : 70 ≤ k) : lodgerref01_Has.f k (U x) i = some (x.getLsbD i.toNat) := by
 unfold lodgerref01_Has.f
 have hp : 0 < 2 ^ i.toNat := Nat.two_pow_pos _
 have hx := x.isLt
 rw [Pow_eq h0 h1 hk, Option.bind_some, if_neg (by omega), td (U_lt x).1]
 congr 1
 unfold U
 rw [← Int.natCast_ediv]
 have hle : x.toNat / 2 ^ i.toNat ≤ x.toNat := Nat.div_le_self _ _
 unfold BitVec.getLsbD
 rw [Nat.testBit_eq_decide_div_mod_eq]
 generalize x.toNat / 2 ^ i.toNat = q at hle ⊢
 rw [wrapu_small (by omega) (by omega), tm (by omega), Bool.eq_iff_iff, beq_iff_eq, decide_eq_true_eq]
 omega

theorem Used_eq (x : BitVec 64) {i : Int} (h0 : 0 ≤ i) (h1 : i < 64) : word_Used.f (U x) i = some (x.getLsbD i.toNat) := by
 unfold word_Used.f; rw [Has_eq x h0 h1]; rfl

theorem Leaf_eq {o : Int} (h0 : 0 ≤ o) (h1 : o ≤ 1000000000000) : place_Leaf.f o = some (o / 32, o % 32) := by
 unfold place_Leaf.f; rw [td h0, tm h0, w64 (by omega) (by omega)]

/-- A list of n words, each told by its place. -/
def tab (n : Nat) (g : Nat → BitVec 64) : List Int := (List.range n).map (fun j => U (g j))
theorem tab_len (n : Nat) (g : Nat → BitVec 64) : (tab n g).length = n := by simp [tab]
theorem tab_rd {n : Nat} {g : Nat → BitVec 64} {i : Int} (h0 : 0 ≤ i) (h1 : i < n) : rd (tab n g) i = U (g i.toNat) := by
 have : i.toNat < n := by omega
 unfold rd tab
 simp [List.getD_eq_getElem?_getD, this]
theorem tab_set {n : Nat} {g : Nat → BitVec 64} (i : Int) (v : BitVec 64) : (tab n g).set i.toNat (U v) = tab n (fun j => if j = i.toNat then v else g j) := by
 apply List.ext_getElem
 ·simp [tab]
 ·intro j h1 h2
  simp only [tab, List.getElem_set, List.getElem_map, List.getElem_range]
  by_cases e : i.toNat = j
  ·rw [if_pos e, if_pos e.symm]
  ·rw [if_neg e, if_neg (fun h => e h.symm)]
theorem tab_congr {n : Nat} {g h : Nat → BitVec 64} (e : ∀ j, j < n → g j = h j) : tab n g = tab n h := by
 unfold tab
 apply List.map_congr_left
 intro j hj
 rw [e j (List.mem_range.1 hj)]
theorem tab_snoc (n : Nat) (g : Nat → BitVec 64) : tab n g ++ [U (g n)] = tab (n + 1) g := by simp [tab, List.range_succ]
theorem tab_zero (n : Nat) : List.replicate n (0 : Int) = tab n (fun _ => 0#64) := by
 apply List.ext_getElem
 ·simp [tab]
 ·intro j h1 h2; simp [tab, U]
/-- The word whose first n bits are those of f. -/
def ofb (f : Nat → Bool) : Nat → BitVec 64
 | 0 => 0#64
 | n + 1 => if f n = true then ofb f n ||| BitVec.twoPow 64 n else ofb f n
theorem ofb_bit (f : Nat → Bool) (n : Nat) (hn : n ≤ 64) (j : Nat) : (ofb f n).getLsbD j = (decide (j < n) && f j) := by
 induction n with
 | zero => simp [ofb]
 | succ n ih =>
  have ih := ih (by omega)
  unfold ofb
  split
  ·rename_i h
   rw [BitVec.getLsbD_or, BitVec.getLsbD_twoPow, ih]
   by_cases e : n = j
   ·subst e; simp [h]; omega
   ·have e9 : decide (j < n + 1) = decide (j < n) := decide_eq_decide.2 (by omega)
    rw [e9]; simp [e]
  ·rename_i h
   rw [ih]
   by_cases e : n = j
   ·subst e; simp [h]
   ·have e9 : decide (j < n + 1) = decide (j < n) := decide_eq_decide.2 (by omega)
    rw [e9]

theorem ref04Many_eq {p : Int} (h1 : 16 ≤ p) (h2 : p ≤ 32) {k : Nat} (hk : 20 ≤ k) : lodgerref04_Many.f k p = some (M p) := by
 rcases p_cases h1 h2 with rfl | rfl | rfl | rfl | rfl | rfl | rfl | rfl | rfl | rfl | rfl | rfl | rfl | rfl | rfl | rfl | rfl <;> exact at_rounds (fun k => lodgerref04_Many.mono _ k) hk (by decide +kernel)
theorem ref04May_eq {B p : Int} (hB0 : 0 ≤ B) (hB1 : B ≤ 4294967295) {k : Nat} (hk : 20 ≤ k) : lodgerref04_May.f k B p = some (bmay B p) := by
 unfold lodgerref04_May.f bmay
 by_cases c1 : p ≥ 16
 ·rw [if_pos c1]
  by_cases c2 : p ≤ 32
  ·have hb := M_bounds (p := p) (by omega) (by omega)
   rw [if_pos c2, ref04Many_eq (by omega) (by omega) hk, Option.bind_some, if_neg (by omega), w64 (by omega) (by omega), tm hB0]
   congr 1
   rw [Bool.eq_iff_iff, beq_iff_eq, decide_eq_true_eq]
   omega
  ·rw [if_neg c2, decide_eq_false (by omega)]
 ·rw [if_neg c1, decide_eq_false (by omega)]

theorem rd_mid (pre xs : List Int) (x : Int) : rd (pre ++ x :: xs) (pre.length : Int) = x := by simp [rd]

/-- Does a list rise, from behind a number on, below a bound? -/
def rises (last m : Int) : List Int → Bool
 | [] => true
 | x :: xs => decide (last < x) && decide (x < m) && rises x m xs
/-- What a configuration's numbers must be. -/
def chead (B p : Int) (l : List Int) (s w q t : Int) : Bool := decide (16 ≤ p ∧ p ≤ 32 ∧ B % M p = 0 ∧ (l.length : Int) ≤ 64 ∧ 1 ≤ s ∧ s ≤ 64 ∧ 1 ≤ w ∧ w ≤ 64 ∧ 1 ≤ q ∧ q ≤ 64 ∧ 1 ≤ t ∧ t ≤ 8)
/-- May such a configuration be? -/
def cmay (B p : Int) (l : List Int) (s w q t : Int) : Bool := chead B p l s w q t && rises (-1) (M p) l
theorem cmay_head {B p : Int} {l : List Int} {s w q t : Int} (h : cmay B p l s w q t = true) : 16 ≤ p ∧ p ≤ 32 ∧ B % M p = 0 ∧ (l.length : Int) ≤ 64 ∧ 1 ≤ s ∧ s ≤ 64 ∧ 1 ≤ w ∧ w ≤ 64 ∧ 1 ≤ q ∧ q ≤ 64 ∧ 1 ≤ t ∧ t ≤ 8 := by
 unfold cmay chead at h
 rw [Bool.and_eq_true, decide_eq_true_eq] at h
 exact h.1
theorem cmay_rises {B p : Int} {l : List Int} {s w q t : Int} (h : cmay B p l s w q t = true) : rises (-1) (M p) l = true := by
 unfold cmay at h
 rw [Bool.and_eq_true] at h
 exact h.2

theorem rises_bounds {last m : Int} {l : List Int} (h : rises last m l = true) : ∀ x ∈ l, last < x ∧ x < m := by
 induction l generalizing last with
 | nil => intro x hx; cases hx
 | cons y ys ih =>
  simp only [rises, Bool.and_eq_true, decide_eq_true_eq] at h
  intro x hx
  rcases List.mem_cons.1 hx with rfl | hx
  ·exact h.1
  ·have := ih h.2 x hx
   omega
theorem rises_drop {last m : Int} {xs ys : List Int} {y : Int} (h : rises last m (xs ++ y :: ys) = true) : rises last m (xs ++ ys) = true := by
 induction xs generalizing last with
 | nil =>
  simp only [List.nil_append, rises, Bool.and_eq_true, decide_eq_true_eq] at h ⊢
  cases ys with
  | nil => rfl
  | cons z zs =>
   simp only [rises, Bool.and_eq_true, decide_eq_true_eq] at h ⊢
   exact ⟨⟨by omega, h.2.1.2⟩, h.2.2⟩
 | cons x xs ih =>
  simp only [List.cons_append, rises, Bool.and_eq_true] at h ⊢
  exact ⟨h.1, ih h.2⟩
theorem rises_notin {last m : Int} {xs ys : List Int} {y : Int} (h : rises last m (xs ++ y :: ys) = true) : y ∉ xs ++ ys := by
 induction xs generalizing last with
 | nil =>
  simp only [List.nil_append, rises, Bool.and_eq_true, decide_eq_true_eq] at h ⊢
  intro hy
  have := rises_bounds h.2 y hy
  omega
 | cons x xs ih =>
  simp only [List.cons_append, rises, Bool.and_eq_true] at h ⊢
  have h1 := rises_bounds h.2 y (by simp)
  intro hy
  rcases List.mem_cons.1 hy with rfl | hy
  ·omega
  ·exact ih h.2 hy
/-- How many of a list lie below a number. -/
def below (l : List Int) (n : Int) : Nat := (l.filter (fun x => decide (x < n))).length
theorem below_le (l : List Int) (n : Int) : below l n ≤ l.length := List.length_filter_le _ _
theorem below_all {l : List Int} {n : Int} (h : ∀ x ∈ l, x < n) : below l n = l.length := by
 unfold below
 rw [List.filter_eq_self.2 (fun x hx => by simpa using h x hx)]
theorem below_none {l : List Int} {n : Int} (h : ∀ x ∈ l, n ≤ x) : below l n = 0 := by
 unfold below
 rw [List.filter_eq_nil_iff.2 (fun x hx => by have := h x hx; simp; omega)]; rfl
theorem below_succ {last m : Int} {l : List Int} (h : rises last m l = true) (n : Int) : below l (n + 1) = below l n + (if n ∈ l then 1 else 0) := by
 induction l generalizing last with
 | nil => simp [below]
 | cons x xs ih =>
  simp only [rises, Bool.and_eq_true, decide_eq_true_eq] at h
  have h2 := ih h.2
  have hb := rises_bounds h.2
  unfold below at h2 ⊢
  simp only [List.filter_cons]
  by_cases c1 : x < n
  ·have : ¬ n = x := by omega
   simp only [show x < n + 1 by omega, c1, decide_true, if_true, List.length_cons, List.mem_cons, this, false_or]
   omega
  ·by_cases c2 : x = n
   ·subst c2
    have hn : x ∉ xs := fun hx => by have := (hb x hx).1; omega
    simp only [show x < x + 1 by omega, show ¬ x < x by omega, decide_true, decide_false, if_true, List.length_cons, List.mem_cons, true_or, if_neg hn] at h2 ⊢
    simp; omega
   ·have : ¬ n = x := fun e => c2 e.symm
    simp only [show ¬ x < n + 1 by omega, c1, decide_false, List.mem_cons, this, false_or]
    simpa using h2

theorem Index_l0 (l : List Int) (hl : l.length ≤ maxLen) (a : Int) : ∀ (xs pre : List Int) (k : Nat), l = pre ++ xs → xs.length < k →
  ∃ r, slices_Index_int_int.l0 k l a (l.length : Int) (pre.length : Int) = some r ∧ (0 ≤ r ↔ a ∈ xs) := by
 unfold maxLen at hl
 intro xs
 induction xs with
 | nil =>
  intro pre k hp hk
  obtain ⟨k, rfl⟩ : ∃ m, k = m + 1 := ⟨k - 1, by omega⟩
  refine ⟨-1, ?_, by simp⟩
  simp only [slices_Index_int_int.l0]; rw [if_neg (by rw [hp]; simp)]
 | cons x xs ih =>
  intro pre k hp hk
  simp only [List.length_cons] at hk
  obtain ⟨k, rfl⟩ : ∃ m, k = m + 1 := ⟨k - 1, by omega⟩
  have hlt : pre.length < l.length := by rw [hp]; simp
  simp only [slices_Index_int_int.l0]
  rw [if_pos (by omega), if_pos (by omega), if_pos (by omega)]
  have hx : rd l (pre.length : Int) = x := by rw [hp]; exact rd_mid ..
  rw [hx]
  by_cases e : a = x
  ·rw [if_pos e]; exact ⟨_, rfl, by simp [e]⟩
  ·rw [if_neg e, w64 (by omega) (by omega)]
   obtain ⟨r, h1, h2⟩ := ih (pre ++ [x]) k (by rw [hp]; simp) (by omega)
   simp only [List.length_append, List.length_cons, List.length_nil, Nat.zero_add, Int.natCast_add, Int.natCast_one] at h1
   exact ⟨r, h1, by rw [h2]; simp [e]⟩
theorem Contains_eq (l : List Int) (hl : l.length ≤ maxLen) (a : Int) {k : Nat} (hk : l.length < k) : slices_Contains_int_int.f k l a = some (decide (a ∈ l)) := by
 unfold slices_Contains_int_int.f slices_Index_int_int.f
 obtain ⟨r, h1, h2⟩ := Index_l0 l hl a l [] k rfl hk
 replace h1 : slices_Index_int_int.l0 k l a (l.length : Int) 0 = some r := h1
 rw [h1, Option.bind_some]
 congr 1
 rw [Bool.eq_iff_iff, decide_eq_true_eq, decide_eq_true_eq]
 exact h2

theorem Held_eq (B p : Int) (l : List Int) (s w q t : Int) (hl : l.length ≤ maxLen) (a : Int) {k : Nat} (hk : l.length < k) : block_Held.f k B p l s w q t a = some (decide (a ∈ l)) := by
 unfold block_Held.f; rw [Contains_eq l hl a hk]; rfl

theorem ref05Many_eq (B : Int) {p : Int} (h1 : 16 ≤ p) (h2 : p ≤ 32) {k : Nat} (hk : 20 ≤ k) : lodgerref05_Many.f k B p = some (M p) := by
 unfold lodgerref05_Many.f; rw [ref04Many_eq h1 h2 hk]; rfl

theorem refMay_l0 (B p : Int) (l : List Int) (s w q t : Int) (hl : l.length ≤ maxLen) (h1 : 16 ≤ p) (h2 : p ≤ 32) : ∀ (xs pre : List Int) (last : Int) (k : Nat), l = pre ++ xs → (pre = [] ∧ last = -1 ∨ (∃ pr, pre = pr ++ [last]) ∧ 0 ≤ last) → xs.length + 30 < k →
  lodgerref05_May.l0 k (pre.length : Int) B p l s w q t = some (rises last (M p) xs) := by
 unfold maxLen at hl
 intro xs
 induction xs with
 | nil =>
  intro pre last k hp hpre hk
  obtain ⟨k, rfl⟩ : ∃ m, k = m + 1 := ⟨k - 1, by omega⟩
  simp only [lodgerref05_May.l0]; rw [if_neg (by rw [hp]; simp)]; rfl
 | cons x xs ih =>
  intro pre last k hp hpre hk
  simp only [List.length_cons] at hk
  obtain ⟨k, rfl⟩ : ∃ m, k = m + 1 := ⟨k - 1, by omega⟩
  have hlt : pre.length < l.length := by rw [hp]; simp
  simp only [lodgerref05_May.l0, rises]
  have hx : rd l (pre.length : Int) = x := by rw [hp]; exact rd_mid ..
  rw [if_pos (by omega), if_pos (by omega), hx]
  by_cases c1 : x < 0
  ·rw [if_pos c1, decide_eq_false (p := last < x) (by rcases hpre with ⟨_, h⟩ | ⟨_, h⟩ <;> omega)]; rfl
  rw [if_neg c1, ref05Many_eq B h1 h2 (by omega), Option.bind_some]
  by_cases c2 : x ≥ M p
  ·rw [if_pos c2, decide_eq_false (p := x < M p) (by omega)]; simp
  have h := ih (pre ++ [x]) x k (by rw [hp]; simp) (.inr ⟨⟨pre, rfl⟩, by omega⟩) (by omega)
  simp only [List.length_append, List.length_cons, List.length_nil, Nat.zero_add, Int.natCast_add, Int.natCast_one] at h
  rw [if_neg c2, decide_eq_true (p := x < M p) (by omega), w64 (x := (pre.length : Int) + 1) (by omega) (by omega), h]
  rcases hpre with ⟨rfl, rfl⟩ | ⟨⟨pr, rfl⟩, h0⟩
  ·rw [if_neg (by simp), decide_eq_true (p := -1 < x) (by omega)]; rfl
  ·have hy : rd l (((pr ++ [last]).length : Int) - 1) = last := by
    rw [hp]; simp [rd]
   have hl1 : (pr ++ [last]).length = pr.length + 1 := by simp
   rw [if_pos (by omega), w64 (by omega) (by omega), if_pos (by omega), if_pos (by omega), hy]
   by_cases c3 : x ≤ last
   ·rw [if_pos c3, decide_eq_false (p := last < x) (by omega)]; rfl
   ·rw [if_neg c3, decide_eq_true (p := last < x) (by omega)]; rfl
theorem ref05May_eq {B p : Int} (l : List Int) (s w q t : Int) (hl : l.length ≤ maxLen) (hB0 : 0 ≤ B) (hB1 : B ≤ 4294967295) {k : Nat} (hk : l.length + 40 < k) : lodgerref05_May.f k B p l s w q t = some (cmay B p l s w q t) := by
 obtain ⟨k, rfl⟩ : ∃ m, k = m + 1 := ⟨k - 1, by omega⟩
 have hj : lodgerref05_May.j0 (k + 1) true B p l s w q t = some false := by simp only [lodgerref05_May.j0, ↓reduceIte]
 unfold lodgerref05_May.f cmay
 rw [ref04May_eq hB0 hB1 (by omega), Option.bind_some]
 by_cases h : chead B p l s w q t = true
 ·have h' := h
  unfold chead at h'
  rw [decide_eq_true_eq] at h'
  have hb : bmay B p = true := by unfold bmay; rw [decide_eq_true_eq]; omega
  rw [h, hb, if_pos rfl, if_neg (by omega), if_neg (by omega), if_neg (by omega), if_neg (by omega), if_neg (by omega), if_neg (by omega), if_neg (by omega), if_neg (by omega), decide_eq_false (p := t > 8) (by omega)]
  simp only [lodgerref05_May.j0]
  rw [if_neg (by simp)]
  have := refMay_l0 B p l s w q t hl (by omega) (by omega) l [] (-1) k rfl (.inl ⟨rfl, rfl⟩) (by omega)
  rw [show (([] : List Int).length : Int) = 0 from rfl] at this
  rw [this]; rfl
 ·rw [Bool.not_eq_true] at h
  rw [h, hj]
  by_cases hb : bmay B p = true
  ·rw [hb, if_pos rfl]
   have hb' := hb
   unfold bmay at hb'
   rw [decide_eq_true_eq] at hb'
   unfold chead at h
   rw [decide_eq_false_iff_not] at h
   by_cases c1 : (l.length : Int) > 64
   ·rw [if_pos c1]; rfl
   rw [if_neg c1]
   by_cases c2 : s < 1
   ·rw [if_pos c2]; rfl
   rw [if_neg c2]
   by_cases c3 : s > 64
   ·rw [if_pos c3]; rfl
   rw [if_neg c3]
   by_cases c4 : w < 1
   ·rw [if_pos c4]; rfl
   rw [if_neg c4]
   by_cases c5 : w > 64
   ·rw [if_pos c5]; rfl
   rw [if_neg c5]
   by_cases c6 : q < 1
   ·rw [if_pos c6]; rfl
   rw [if_neg c6]
   by_cases c7 : q > 64
   ·rw [if_pos c7]; rfl
   rw [if_neg c7]
   by_cases c8 : t < 1
   ·rw [if_pos c8]; rfl
   rw [if_neg c8, decide_eq_true (p := t > 8) (by omega), hj]; rfl
  ·rw [if_neg hb]; rfl

theorem refHeld_l0 (B p : Int) (l : List Int) (s w q t : Int) (hl : l.length ≤ maxLen) (a : Int) : ∀ (xs pre : List Int) (k : Nat), l = pre ++ xs → xs.length < k →
  lodgerref05_Held.l0 k a (pre.length : Int) B p l s w q t = some (decide (a ∈ xs)) := by
 unfold maxLen at hl
 intro xs
 induction xs with
 | nil =>
  intro pre k hp hk
  obtain ⟨k, rfl⟩ : ∃ m, k = m + 1 := ⟨k - 1, by omega⟩
  simp only [lodgerref05_Held.l0]; rw [if_neg (by rw [hp]; simp)]; simp
 | cons x xs ih =>
  intro pre k hp hk
  simp only [List.length_cons] at hk
  obtain ⟨k, rfl⟩ : ∃ m, k = m + 1 := ⟨k - 1, by omega⟩
  have hlt : pre.length < l.length := by rw [hp]; simp
  simp only [lodgerref05_Held.l0]
  rw [if_pos (by omega), if_pos (by omega)]
  have hx : rd l (pre.length : Int) = x := by rw [hp]; exact rd_mid ..
  rw [hx]
  by_cases e : x = a
  ·rw [if_pos e]; simp [e]
  ·rw [if_neg e, w64 (by omega) (by omega)]
   have h1 := ih (pre ++ [x]) k (by rw [hp]; simp) (by omega)
   simp only [List.length_append, List.length_cons, List.length_nil, Nat.zero_add, Int.natCast_add, Int.natCast_one] at h1
   rw [h1]
   have : ¬ a = x := fun h => e h.symm
   simp [this]
theorem refHeld_eq (B p : Int) (l : List Int) (s w q t : Int) (hl : l.length ≤ maxLen) (a : Int) {k : Nat} (hk : l.length < k) : lodgerref05_Held.f k B p l s w q t a = some (decide (a ∈ l)) := by
 unfold lodgerref05_Held.f
 exact refHeld_l0 B p l s w q t hl a l [] k rfl hk

theorem refLeaves_l0 {n : Int} (h0 : 0 ≤ n) (h1 : n ≤ 100000) (d : Nat) : ∀ (k : Nat) (i : Int), 0 ≤ i → i ≤ (n + 31) / 32 → (n + 31) / 32 - i = d → d < k → lodgerref06_Leaves.l0 k n i = some ((n + 31) / 32) := by
 induction d with
 | zero =>
  intro k i hi0 hi1 hd hk
  obtain ⟨k, rfl⟩ : ∃ m, k = m + 1 := ⟨k - 1, by omega⟩
  simp only [lodgerref06_Leaves.l0]; rw [w64 (x := 32 * i) (by omega) (by omega), if_neg (by omega)]; congr 1; omega
 | succ d ih =>
  intro k i hi0 hi1 hd hk
  obtain ⟨k, rfl⟩ : ∃ m, k = m + 1 := ⟨k - 1, by omega⟩
  simp only [lodgerref06_Leaves.l0]; rw [w64 (x := 32 * i) (by omega) (by omega), if_pos (by omega), w64 (by omega) (by omega)]
  exact ih k (i + 1) (by omega) (by omega) (by omega) (by omega)
theorem refLeaves {n : Int} (h0 : 0 ≤ n) (h1 : n ≤ 100000) {k : Nat} (hk : 4000 ≤ k) : lodgerref06_Leaves.f k n = some ((n + 31) / 32) := by
 unfold lodgerref06_Leaves.f
 exact refLeaves_l0 h0 h1 ((n + 31) / 32).toNat k 0 (by omega) (by omega) (by omega) (by omega)

theorem refTops_l0 {n : Int} (h0 : 0 ≤ n) (h1 : n ≤ 100000) (d : Nat) : ∀ (k : Nat) (i : Int), 0 ≤ i → i ≤ ((n + 31) / 32 + 63) / 64 → ((n + 31) / 32 + 63) / 64 - i = d → d + 4000 < k → lodgerref06_Tops.l0 k n i = some (((n + 31) / 32 + 63) / 64) := by
 induction d with
 | zero =>
  intro k i hi0 hi1 hd hk
  obtain ⟨k, rfl⟩ : ∃ m, k = m + 1 := ⟨k - 1, by omega⟩
  simp only [lodgerref06_Tops.l0]; rw [refLeaves h0 h1 (by omega), Option.bind_some, w64 (x := 64 * i) (by omega) (by omega), if_neg (by omega)]; congr 1; omega
 | succ d ih =>
  intro k i hi0 hi1 hd hk
  obtain ⟨k, rfl⟩ : ∃ m, k = m + 1 := ⟨k - 1, by omega⟩
  simp only [lodgerref06_Tops.l0]; rw [refLeaves h0 h1 (by omega), Option.bind_some, w64 (x := 64 * i) (by omega) (by omega), if_pos (by omega), w64 (by omega) (by omega)]
  exact ih k (i + 1) (by omega) (by omega) (by omega) (by omega)
theorem refTops {n : Int} (h0 : 0 ≤ n) (h1 : n ≤ 100000) {k : Nat} (hk : 5000 ≤ k) : lodgerref06_Tops.f k n = some (((n + 31) / 32 + 63) / 64) := by
 unfold lodgerref06_Tops.f
 exact refTops_l0 h0 h1 (((n + 31) / 32 + 63) / 64).toNat k 0 (by omega) (by omega) (by omega) (by omega)

theorem refCells {n : Int} (h0 : 0 ≤ n) (h1 : n ≤ 100000) {k : Nat} (hk : 5000 ≤ k) : lodgerref06_Cells.f k n = some ((n + 31) / 32 + ((n + 31) / 32 + 63) / 64 + 1) := by
 unfold lodgerref06_Cells.f; rw [refLeaves h0 h1 (by omega), Option.bind_some, refTops h0 h1 hk, Option.bind_some, w64 (x := (n + 31) / 32 + ((n + 31) / 32 + 63) / 64) (by omega) (by omega), w64 (by omega) (by omega)]

theorem Ints_l0 : ∀ (xs ys pre qre : List Int) (k : Nat), pre.length = qre.length → xs.length = ys.length → (pre ++ xs).length ≤ 9223372036854775807 → xs.length < k →
  lodgerref03_Ints.l0 k (pre ++ xs) (qre ++ ys) (pre.length : Int) = some (decide (xs = ys)) := by
 intro xs
 induction xs with
 | nil =>
  intro ys pre qre k hp hx hm hk
  obtain ⟨k, rfl⟩ : ∃ m, k = m + 1 := ⟨k - 1, by omega⟩
  have : ys = [] := List.eq_nil_of_length_eq_zero hx.symm
  subst this
  simp only [lodgerref03_Ints.l0]; rw [if_neg (by simp)]; simp
 | cons x xs ih =>
  intro ys pre qre k hp hx hm hk
  cases ys with
  | nil => simp at hx
  | cons y ys =>
   simp only [List.length_cons, List.length_append] at hk hx hm
   obtain ⟨k, rfl⟩ : ∃ m, k = m + 1 := ⟨k - 1, by omega⟩
   simp only [lodgerref03_Ints.l0]
   have e1 : rd (pre ++ x :: xs) (pre.length : Int) = x := by simp [rd]
   have e2 : rd (qre ++ y :: ys) (pre.length : Int) = y := by rw [hp]; simp [rd]
   rw [if_pos (by simp; omega), if_pos (by omega), if_pos (by rw [hp]; simp; omega), e1, e2]
   by_cases e : x = y
   ·subst e
    rw [if_pos rfl, w64 (by omega) (by omega)]
    have := ih ys (pre ++ [x]) (qre ++ [x]) k (by simp [hp]) (by omega) (by simp; omega) (by omega)
    simp only [List.append_assoc, List.singleton_append, List.length_append, List.length_cons, List.length_nil, Nat.zero_add, Int.natCast_add, Int.natCast_one] at this
    rw [this]; simp
   ·rw [if_neg e]; simp [e]
theorem Ints_eq (a b : List Int) (ha : a.length ≤ 100000) {k : Nat} (hk : a.length < k) : lodgerref03_Ints.f k a b = some (decide (a = b)) := by
 unfold lodgerref03_Ints.f
 by_cases h : (a.length : Int) = (b.length : Int)
 ·rw [if_pos h]
  exact Ints_l0 a b [] [] k rfl (by omega) (by simp; omega) hk
 ·rw [if_neg h, decide_eq_false (fun e => h (by rw [e]))]

theorem addc_U (y : BitVec 64) : IntKind.u64.wrap (U y + 4294967296) = U (y + 4294967296#64) := by
 have := y.isLt
 unfold U
 rw [wrapu, BitVec.toNat_add]
 simp
theorem low_bit (x : BitVec 64) (j : Nat) (hj : j < 32) : x.getLsbD j = (x.toNat % 4294967296).testBit j := by
 unfold BitVec.getLsbD
 rw [show (4294967296 : Nat) = 2 ^ 32 from rfl, Nat.testBit_mod_two_pow]
 simp [hj]
theorem addc_bit (y : BitVec 64) (j : Nat) (hj : j < 32) : (y + 4294967296#64).getLsbD j = y.getLsbD j := by
 rw [low_bit _ j hj, low_bit _ j hj]
 have e : (y + 4294967296#64).toNat % 4294967296 = y.toNat % 4294967296 := by
  rw [BitVec.toNat_add]
  have : (4294967296#64).toNat = 4294967296 := by decide +kernel
  omega
 rw [e]
/-- How often a word was changed. -/
def chg (x : BitVec 64) : Nat := x.toNat / 4294967296
theorem chg_lt (x : BitVec 64) : chg x < 4294967296 := by have := x.isLt; unfold chg; omega
theorem addc_chg (y : BitVec 64) : chg (y + 4294967296#64) = (chg y + 1) % 4294967296 := by
 have := y.isLt
 unfold chg
 rw [BitVec.toNat_add]
 have : (4294967296#64).toNat = 4294967296 := by decide +kernel
 omega
theorem chg_eq {x y : BitVec 64} (h : ∀ j, 32 ≤ j → x.getLsbD j = y.getLsbD j) : chg x = chg y := by
 have : x >>> 32 = y >>> 32 := by
  apply BitVec.eq_of_getLsbD_eq
  intro j hj
  rw [BitVec.getLsbD_ushiftRight, BitVec.getLsbD_ushiftRight]
  exact h _ (by omega)
 have h2 := congrArg BitVec.toNat this
 rw [BitVec.toNat_ushiftRight, BitVec.toNat_ushiftRight, Nat.shiftRight_eq_div_pow, Nat.shiftRight_eq_div_pow] at h2
 exact h2
def claim (x : BitVec 64) (b : Nat) : BitVec 64 := (x ||| BitVec.twoPow 64 b) + 4294967296#64
def drop (x : BitVec 64) (b : Nat) : BitVec 64 := (x &&& ~~~BitVec.twoPow 64 b) + 4294967296#64
theorem claim_chg (x : BitVec 64) {b : Nat} (hb : b < 32) : chg (claim x b) = (chg x + 1) % 4294967296 := by
 unfold claim
 rw [addc_chg, chg_eq (x := x ||| BitVec.twoPow 64 b) (y := x)]
 intro j hj
 rw [BitVec.getLsbD_or, BitVec.getLsbD_twoPow]
 have : ¬ b = j := by omega
 simp [this]
theorem drop_chg (x : BitVec 64) {b : Nat} (hb : b < 32) : chg (drop x b) = (chg x + 1) % 4294967296 := by
 unfold drop
 rw [addc_chg, chg_eq (x := x &&& ~~~BitVec.twoPow 64 b) (y := x)]
 intro j hj
 rw [BitVec.getLsbD_and, BitVec.getLsbD_not, BitVec.getLsbD_twoPow]
 have : ¬ b = j := by omega
 by_cases h : j < 64
 ·simp [this, h]
 ·rw [BitVec.getLsbD_of_ge x j (by omega)]; simp
theorem claim_bit (x : BitVec 64) {b j : Nat} (hj : j < 32) : (claim x b).getLsbD j = (x.getLsbD j || decide (b = j)) := by
 unfold claim
 rw [addc_bit _ j hj, BitVec.getLsbD_or, BitVec.getLsbD_twoPow]
 by_cases h : b = j
 ·subst h; simp [show b < 64 by omega]
 ·simp [h]
theorem drop_bit (x : BitVec 64) {b j : Nat} (hj : j < 32) : (drop x b).getLsbD j = (x.getLsbD j && !decide (b = j)) := by
 unfold drop
 rw [addc_bit _ j hj, BitVec.getLsbD_and, BitVec.getLsbD_not, BitVec.getLsbD_twoPow]
 by_cases h : b = j
 ·subst h; simp [show b < 64 by omega]
 ·have : j < 64 := by omega
  simp [h, this]
theorem ne_of_chg {x y : BitVec 64} (h : chg x ≠ chg y) : x ≠ y := fun e => h (by rw [e])
theorem full_iff (x : BitVec 64) : (cnt x 32 = 32) ↔ ∀ j, j < 32 → x.getLsbD j = true := by
 constructor
 ·intro h j hj
  cases hg : x.getLsbD j with
  | true => rfl
  | false => have := cnt_lt x 32 j hj hg; omega
 ·exact cnt_all x 32
theorem full_mod (x : BitVec 64) : (cnt x 32 = 32) ↔ x.toNat % 4294967296 = 4294967295 := by
 rw [full_iff]
 constructor
 ·intro h
  apply Nat.eq_of_testBit_eq
  intro j
  rw [show (4294967295 : Nat) = 2 ^ 32 - 1 from rfl, Nat.testBit_two_pow_sub_one]
  by_cases hj : j < 32
  ·rw [← low_bit x j hj, h j hj]; simp [hj]
  ·rw [show (4294967296 : Nat) = 2 ^ 32 from rfl, Nat.testBit_mod_two_pow]; simp [hj]
 ·intro h j hj
  rw [low_bit x j hj, h, show (4294967295 : Nat) = 2 ^ 32 - 1 from rfl, Nat.testBit_two_pow_sub_one]
  simp [hj]

theorem Claim_eq (x : BitVec 64) {i : Int} (h0 : 0 ≤ i) (h1 : i < 64) : word_Claim.f (U x) i = some (U (claim x i.toNat)) := by
 unfold word_Claim.f claim; rw [Set_eq x h0 h1, Option.bind_some, addc_U]
theorem Drop_eq (x : BitVec 64) {i : Int} (h0 : 0 ≤ i) (h1 : i < 64) : word_Drop.f (U x) i = some (U (drop x i.toNat)) := by
 unfold word_Drop.f drop; rw [Clear_eq x h0 h1, Option.bind_some, addc_U]

/-- Cells of which one is another one, if it is there. -/
def st (l : List Int) (i v : Int) : List Int := if 0 ≤ i ∧ i < (l.length : Int) then l.set i.toNat v else l
theorem st_in {l : List Int} {i : Int} (h0 : 0 ≤ i) (h1 : i < (l.length : Int)) (v : Int) : st l i v = l.set i.toNat v := by unfold st; rw [if_pos ⟨h0, h1⟩]

theorem refSet_l0 (i v : Int) (d : Nat) : ∀ (k : Nat) (m : List Int) (x : Int), m.length ≤ 100000 → 0 ≤ x → x ≤ (m.length : Int) → (m.length : Int) - x = d → d < k → lodgerref02_Set.l0 k i v m x = some (if x ≤ i ∧ i < (m.length : Int) then m.set i.toNat v else m) := by
 induction d with
 | zero =>
  intro k m x hm h0 h1 hd hk
  obtain ⟨k, rfl⟩ : ∃ z, k = z + 1 := ⟨k - 1, by omega⟩
  simp only [lodgerref02_Set.l0]; rw [if_neg (by omega), if_neg (by omega)]
 | succ d ih =>
  intro k m x hm h0 h1 hd hk
  obtain ⟨k, rfl⟩ : ∃ z, k = z + 1 := ⟨k - 1, by omega⟩
  simp only [lodgerref02_Set.l0]; rw [if_pos (by omega), w64 (by omega) (by omega)]
  by_cases e : x = i
  ·rw [if_pos e, if_pos h0, ih k _ (x + 1) (by simpa using hm) (by omega) (by simp; omega) (by simp; omega) (by omega), if_neg (by omega), if_pos (by omega), e]
  ·rw [if_neg e, ih k m (x + 1) hm (by omega) (by omega) (by omega) (by omega)]
   by_cases c : x ≤ i ∧ i < (m.length : Int)
   ·rw [if_pos c, if_pos (by omega)]
   ·rw [if_neg c, if_neg (by omega)]
theorem refSet_eq (l : List Int) (hl : l.length ≤ 100000) (i v : Int) {k : Nat} (hk : l.length < k) : lodgerref02_Set.f k l i v = some (st l i v) := by
 unfold lodgerref02_Set.f st
 rw [Option.bind_some, List.nil_append, if_pos (by simp; omega)]
 exact refSet_l0 i v l.length k l 0 hl (by omega) (by omega) (by omega) hk

/-! Lists that rise, as sets: two with the same members are one. -/
abbrev Sd (l : List Int) : Prop := l.Pairwise (fun a b => a < b)
theorem sext : ∀ {l m : List Int}, Sd l → Sd m → (∀ x, x ∈ l ↔ x ∈ m) → l = m
 | [], [], _, _, _ => rfl
 | [], y :: ys, _, _, h => absurd ((h y).2 (by simp)) (by simp)
 | x :: xs, [], _, _, h => absurd ((h x).1 (by simp)) (by simp)
 | x :: xs, y :: ys, hl, hm, h => by
  rw [Sd, List.pairwise_cons] at hl hm
  have e : x = y := by
   rcases List.mem_cons.1 ((h x).1 (by simp)) with e | e
   ·exact e
   ·rcases List.mem_cons.1 ((h y).2 (by simp)) with e2 | e2
    ·exact e2.symm
    ·have := hm.1 x e; have := hl.1 y e2; omega
  subst e
  congr 1
  refine sext hl.2 hm.2 (fun z => ⟨fun hz => ?_, fun hz => ?_⟩)
  ·have := hl.1 z hz
   rcases List.mem_cons.1 ((h z).1 (List.mem_cons_of_mem _ hz)) with e | e
   ·omega
   ·exact e
  ·have := hm.1 z hz
   rcases List.mem_cons.1 ((h z).2 (List.mem_cons_of_mem _ hz)) with e | e
   ·omega
   ·exact e
/-- A set and a number. -/
def ins (a : Int) (l : List Int) : List Int := l.filter (fun x => decide (x < a)) ++ a :: l.filter (fun x => decide (a < x))
/-- A set without a number. -/
def del (a : Int) (l : List Int) : List Int := l.filter (fun x => !decide (x = a))
theorem mem_ins {a x : Int} {l : List Int} : x ∈ ins a l ↔ x = a ∨ x ∈ l := by
 unfold ins
 simp only [List.mem_append, List.mem_cons, List.mem_filter, decide_eq_true_eq]
 constructor
 ·rintro (h | h | h)
  ·exact .inr h.1
  ·exact .inl h
  ·exact .inr h.1
 ·rintro (h | h)
  ·exact .inr (.inl h)
  ·by_cases c1 : x < a
   ·exact .inl ⟨h, c1⟩
   by_cases c2 : x = a
   ·exact .inr (.inl c2)
   ·exact .inr (.inr ⟨h, by omega⟩)
theorem mem_del {a x : Int} {l : List Int} : x ∈ del a l ↔ x ∈ l ∧ x ≠ a := by
 unfold del
 simp [List.mem_filter]
theorem Sd_ins {a : Int} {l : List Int} (h : Sd l) : Sd (ins a l) := by
 unfold ins Sd
 rw [List.pairwise_append, List.pairwise_cons]
 refine ⟨h.filter _, ⟨fun x hx => by simpa using (List.mem_filter.1 hx).2, h.filter _⟩, fun x hx y hy => ?_⟩
 have h1 : x < a := by simpa using (List.mem_filter.1 hx).2
 rcases List.mem_cons.1 hy with rfl | hy
 ·exact h1
 ·have h2 : a < y := by simpa using (List.mem_filter.1 hy).2
  omega
theorem Sd_del {a : Int} {l : List Int} (h : Sd l) : Sd (del a l) := h.filter _
theorem ins_len {a : Int} {l : List Int} (h : a ∉ l) : (ins a l).length = l.length + 1 := by
 unfold ins
 rw [List.length_append, List.length_cons]
 induction l with
 | nil => rfl
 | cons x xs ih =>
  have hx : ¬ x = a := fun e => h (by simp [e])
  have ih := ih (fun hh => h (List.mem_cons_of_mem _ hh))
  by_cases c : x < a
  ·simp only [List.filter_cons, decide_eq_true c, decide_eq_false (show ¬ a < x by omega), if_true, List.length_cons]; simp; omega
  ·simp only [List.filter_cons, decide_eq_false c, decide_eq_true (show a < x by omega), if_true, List.length_cons]; simp; omega
theorem ins_of_mem {a : Int} {l : List Int} (hs : Sd l) (h : a ∈ l) : ins a l = l := sext (Sd_ins hs) hs (fun x => by rw [mem_ins]; exact ⟨fun e => e.elim (fun e => e ▸ h) id, .inr⟩)
theorem del_of_not {a : Int} {l : List Int} (h : a ∉ l) : del a l = l := by
 unfold del
 rw [List.filter_eq_self]
 intro x hx
 simp only [Bool.not_eq_true', decide_eq_false_iff_not]
 rintro rfl
 exact h hx
theorem del_ins {a : Int} {l : List Int} (hs : Sd l) : del a (ins a l) = del a l := sext (Sd_del (Sd_ins hs)) (Sd_del hs) (fun x => by rw [mem_del, mem_del, mem_ins]; exact ⟨fun ⟨h, g⟩ => ⟨h.elim (fun e => absurd e g) id, g⟩, fun ⟨h, g⟩ => ⟨.inr h, g⟩⟩)
theorem ins_del {a : Int} {l : List Int} (hs : Sd l) : ins a (del a l) = ins a l := sext (Sd_ins (Sd_del hs)) (Sd_ins hs) (fun x => by
 rw [mem_ins, mem_ins, mem_del]
 by_cases e : x = a
 ·simp [e]
 ·simp [e])
theorem ins_len_le (a : Int) {l : List Int} (hs : Sd l) : (ins a l).length ≤ l.length + 1 := by
 by_cases h : a ∈ l
 ·rw [ins_of_mem hs h]; omega
 ·rw [ins_len h]; omega
theorem del_len_le (a : Int) (l : List Int) : (del a l).length ≤ l.length := List.length_filter_le _ _
/-- Does a list rise? -/
def rise : List Int → Bool
 | [] => true
 | x :: xs => (match xs with | [] => true | y :: _ => decide (x < y)) && rise xs
theorem rise_iff (l : List Int) : rise l = true ↔ Sd l := by
 induction l with
 | nil => simp [rise, Sd]
 | cons x xs ih =>
  cases xs with
  | nil => simp [rise, Sd]
  | cons y ys =>
   unfold rise
   rw [Bool.and_eq_true, ih, decide_eq_true_eq]
   constructor
   ·rintro ⟨h1, h2⟩
    refine List.pairwise_cons.2 ⟨fun z hz => ?_, h2⟩
    rcases List.mem_cons.1 hz with rfl | hz
    ·exact h1
    ·have := (List.pairwise_cons.1 h2).1 z hz; omega
   ·intro h
    exact ⟨(List.pairwise_cons.1 h).1 y (by simp), (List.pairwise_cons.1 h).2⟩
theorem rises_Sd {last m : Int} {l : List Int} (h : rises last m l = true) : Sd l := by
 induction l generalizing last with
 | nil => exact List.Pairwise.nil
 | cons x xs ih =>
  simp only [rises, Bool.and_eq_true, decide_eq_true_eq] at h
  exact List.pairwise_cons.2 ⟨fun y hy => (rises_bounds h.2 y hy).1, ih h.2⟩
theorem rises_of {last m : Int} {l : List Int} (hs : Sd l) (hb : ∀ x ∈ l, last < x ∧ x < m) : rises last m l = true := by
 induction l generalizing last with
 | nil => rfl
 | cons x xs ih =>
  rw [Sd, List.pairwise_cons] at hs
  simp only [rises, Bool.and_eq_true, decide_eq_true_eq]
  exact ⟨hb x (by simp), ih hs.2 (fun y hy => ⟨hs.1 y hy, (hb y (List.mem_cons_of_mem _ hy)).2⟩)⟩
theorem rd_get {l : List Int} {i : Nat} (h : i < l.length) : rd l (i : Int) = l[i] := by unfold rd; simp [List.getD_eq_getElem?_getD, h]

theorem isNaN_s (x : Int) : slices_isNaN_int.f x = some false := by unfold slices_isNaN_int.f; simp
theorem isNaN_c (x : Int) : cmp_isNaN_int.f x = some false := by unfold cmp_isNaN_int.f; simp
theorem Less_eq (x y : Int) : cmp_Less_int.f x y = some (decide (x < y)) := by unfold cmp_Less_int.f; rw [isNaN_c, Option.bind_some, if_neg (by simp)]
theorem BS_l0 {l : List Int} {a : Int} (hs : Sd l) (hn : l.length ≤ 100000000) (d : Nat) : ∀ (k i j : Nat), i ≤ j → j ≤ l.length → j - i ≤ d → d < k → (∀ m (hm : m < l.length), m < i → l[m] < a) → (∀ m (hm : m < l.length), j ≤ m → a ≤ l[m]) →
  ∃ q : Nat, slices_BinarySearch_int_int.l0 k l a l.length i j = some ((q : Int), decide (a ∈ l)) ∧ q ≤ l.length ∧ (∀ m (hm : m < l.length), m < q → l[m] < a) ∧ (∀ m (hm : m < l.length), q ≤ m → a ≤ l[m]) := by
 have hp := List.pairwise_iff_getElem.1 hs
 have fin : ∀ (k i : Nat), 0 < k → i ≤ l.length → (∀ m (hm : m < l.length), m < i → l[m] < a) → (∀ m (hm : m < l.length), i ≤ m → a ≤ l[m]) →
   ∃ q : Nat, slices_BinarySearch_int_int.l0 k l a l.length i i = some ((q : Int), decide (a ∈ l)) ∧ q ≤ l.length ∧ (∀ m (hm : m < l.length), m < q → l[m] < a) ∧ (∀ m (hm : m < l.length), q ≤ m → a ≤ l[m]) := by
  intro k i hk hi h1 h2
  obtain ⟨k, rfl⟩ : ∃ m, k = m + 1 := ⟨k - 1, by omega⟩
  refine ⟨i, ?_, hi, h1, h2⟩
  simp only [slices_BinarySearch_int_int.l0]
  rw [if_neg (by omega)]
  by_cases c : i < l.length
  ·rw [if_pos (by omega), if_pos (by omega), if_pos (by omega), rd_get c]
   by_cases e : l[i] = a
   ·rw [if_pos e, decide_eq_true (e ▸ List.getElem_mem c)]
   ·rw [if_neg e, isNaN_s, Option.bind_some, if_neg (by simp), decide_eq_false]
    intro hm
    obtain ⟨m, hm1, hm2⟩ := List.mem_iff_getElem.1 hm
    by_cases c1 : m < i
    ·have := h1 m hm1 c1; omega
    by_cases c2 : m = i
    ·subst c2; exact e hm2
    ·have := hp i m c hm1 (by omega)
     have := h2 i c (Nat.le_refl _)
     omega
  ·rw [if_neg (by omega), decide_eq_false]
   intro hm
   obtain ⟨m, hm1, hm2⟩ := List.mem_iff_getElem.1 hm
   have := h1 m hm1 (by omega)
   omega
 induction d with
 | zero =>
  intro k i j hij hj hd hk h1 h2
  obtain rfl : i = j := by omega
  exact fin k i hk hj h1 h2
 | succ d ih =>
  intro k i j hij hj hd hk h1 h2
  by_cases c : i = j
  ·subst c; exact fin k i (by omega) hj h1 h2
  obtain ⟨k, rfl⟩ : ∃ m, k = m + 1 := ⟨k - 1, by omega⟩
  have hlt : (i + j) / 2 < l.length := by omega
  have e : wrap64 ((IntKind.u64.wrap (wrap64 ((i : Int) + (j : Int)))) / 2) = (((i + j) / 2 : Nat) : Int) := by
   rw [w64 (x := (i : Int) + j) (by omega) (by omega), wrapu_small (by omega) (by omega), w64 (by omega) (by omega)]; omega
  simp only [slices_BinarySearch_int_int.l0]
  rw [if_pos (by omega), e, if_pos (by omega), if_pos (by omega), rd_get hlt, Less_eq, Option.bind_some]
  generalize hh : (i + j) / 2 = h at *
  by_cases c2 : l[h] < a
  ·rw [decide_eq_true c2, if_pos rfl, w64 (x := (h : Int) + 1) (by omega) (by omega)]
   have := ih k (h + 1) j (by omega) hj (by omega) (by omega) (fun m hm hmh => by
    by_cases c3 : m = h
    ·subst c3; exact c2
    ·have := hp m h hm hlt (by omega); omega) h2
   exact this
  ·rw [decide_eq_false c2, if_neg (by simp)]
   exact ih k i h (by omega) (by omega) (by omega) (by omega) h1 (fun m hm hmh => by
    by_cases c3 : m = h
    ·subst c3; omega
    ·have := hp h m hlt hm (by omega); omega)
theorem BS_eq {l : List Int} (a : Int) (hs : Sd l) (hn : l.length ≤ 100000000) {k : Nat} (hk : l.length < k) :
  ∃ q : Nat, slices_BinarySearch_int_int.f k l a = some ((q : Int), decide (a ∈ l)) ∧ q ≤ l.length ∧ (∀ x ∈ l.take q, x < a) ∧ (∀ x ∈ l.drop q, a ≤ x) := by
 unfold slices_BinarySearch_int_int.f
 obtain ⟨q, h1, h2, h3, h4⟩ := BS_l0 (a := a) hs hn l.length k 0 l.length (by omega) (by omega) (by omega) hk (fun m _ h => by omega) (fun m hm h => by omega)
 refine ⟨q, h1, h2, fun x hx => ?_, fun x hx => ?_⟩
 ·obtain ⟨m, hm1, hm2⟩ := List.mem_iff_getElem.1 hx
  rw [List.length_take] at hm1
  rw [← hm2, List.getElem_take]
  exact h3 m (by omega) (by omega)
 ·obtain ⟨m, hm1, hm2⟩ := List.mem_iff_getElem.1 hx
  rw [List.length_drop] at hm1
  rw [← hm2, List.getElem_drop]
  exact h4 (q + m) (by omega) (by omega)
theorem MHas_eq {l : List Int} (a : Int) (hs : Sd l) (hn : l.length ≤ 100000000) {k : Nat} (hk : l.length < k) : model_Has.f k l a = some (decide (a ∈ l)) := by
 obtain ⟨q, h1, _⟩ := BS_eq a hs hn hk
 unfold model_Has.f; rw [h1, Option.bind_some]

theorem With_eq {l : List Int} (a : Int) (hs : Sd l) (hn : l.length ≤ 100000000) {k : Nat} (hk : l.length < k) : model_With.f k l a = some (ins a l) := by
 obtain ⟨q, h1, h2, h3, h4⟩ := BS_eq a hs hn hk
 unfold model_With.f
 rw [h1, Option.bind_some]
 have e : (((q : Nat) : Int)).toNat = q := by omega
 by_cases c : a ∈ l
 ·rw [decide_eq_true c, if_pos rfl, ins_of_mem hs c]
 ·rw [decide_eq_false c, if_neg (by simp), if_pos (by omega), if_pos (by omega), Option.bind_some, e, if_pos (by rw [List.length_take]; omega), Option.bind_some, Option.bind_some, if_pos (by rw [List.length_append, List.length_take, List.length_drop]; simp; omega)]
  congr 1
  have hc : l.take q ++ l.drop q = l := List.take_append_drop ..
  refine sext ?_ (Sd_ins hs) (fun x => ?_)
  ·rw [Sd, List.append_assoc, List.pairwise_append, List.singleton_append, List.pairwise_cons]
   have hs' := hs
   rw [← hc, Sd, List.pairwise_append] at hs'
   refine ⟨hs'.1, ⟨fun y hy => ?_, hs'.2.1⟩, fun x hx y hy => ?_⟩
   ·have := h4 y hy
    have : ¬ y = a := fun e => c (e ▸ List.mem_of_mem_drop hy)
    omega
   ·rcases List.mem_cons.1 hy with rfl | hy
    ·exact h3 x hx
    ·exact hs'.2.2 x hx y hy
  ·rw [mem_ins]
   conv => rhs; rw [← hc]
   simp only [List.mem_append, List.mem_singleton]
   constructor
   ·rintro ((h | h) | h)
    ·exact .inr (.inl h)
    ·exact .inl h
    ·exact .inr (.inr h)
   ·rintro (h | h | h)
    ·exact .inl (.inr h)
    ·exact .inl (.inl h)
    ·exact .inr h
theorem Without_eq {l : List Int} (a : Int) (hs : Sd l) (hn : l.length ≤ 100000000) {k : Nat} (hk : l.length < k) : model_Without.f k l a = some (del a l) := by
 obtain ⟨q, h1, h2, h3, h4⟩ := BS_eq a hs hn hk
 unfold model_Without.f
 rw [h1, Option.bind_some]
 have e : (((q : Nat) : Int)).toNat = q := by omega
 have e1 : (((q : Nat) : Int) + 1).toNat = q + 1 := by omega
 by_cases c : a ∈ l
 ·have hc : l.take q ++ l.drop q = l := List.take_append_drop ..
  have hq : q < l.length := by
   rcases Nat.lt_or_ge q l.length with h | h
   ·exact h
   ·rw [List.take_of_length_le h] at h3
    have := h3 a c
    omega
  have hd : l.drop q = l[q] :: l.drop (q + 1) := List.drop_eq_getElem_cons hq
  have hs' := hs
  rw [← hc, hd, Sd, List.pairwise_append, List.pairwise_cons] at hs'
  have ha : l[q] = a := by
   rw [← hc, hd] at c
   rcases List.mem_append.1 c with h | h
   ·have := h3 a h; omega
   rcases List.mem_cons.1 h with h | h
   ·exact h.symm
   ·have := hs'.2.1.1 a h
    have := h4 l[q] (by rw [hd]; exact List.mem_cons_self ..)
    omega
  rw [decide_eq_true c, if_pos rfl, if_pos (by omega), if_pos (by omega), Option.bind_some, w64 (x := (q : Int) + 1) (by omega) (by omega), if_pos (by omega), if_pos (by omega), Option.bind_some, e, e1, if_pos (by rw [List.length_take, List.length_drop]; omega)]
  congr 1
  rw [ha] at hs'
  refine sext ?_ (Sd_del hs) (fun x => ?_)
  ·rw [Sd, List.pairwise_append]
   exact ⟨hs'.1, hs'.2.1.2, fun x hx y hy => hs'.2.2 x hx y (List.mem_cons_of_mem _ hy)⟩
  ·rw [mem_del]
   conv => rhs; rw [← hc, hd, ha]
   rw [List.mem_append, List.mem_append, List.mem_cons]
   constructor
   ·rintro (h | h)
    ·exact ⟨.inl h, by have := h3 x h; omega⟩
    ·exact ⟨.inr (.inr h), by have := hs'.2.1.1 x h; omega⟩
   ·rintro ⟨h | h | h, g⟩
    ·exact .inl h
    ·exact absurd h g
    ·exact .inr h
 ·rw [decide_eq_false c, if_neg (by simp), del_of_not c]

/-- Is it a set that may be? -/
def mset (n : Int) (H l : List Int) : Bool := rises (-1) n l && l.all (fun x => !decide (x ∈ H))
theorem mset_iff {n : Int} {H l : List Int} : mset n H l = true ↔ Sd l ∧ ∀ x ∈ l, 0 ≤ x ∧ x < n ∧ x ∉ H := by
 unfold mset
 rw [Bool.and_eq_true, List.all_eq_true]
 constructor
 ·rintro ⟨h1, h2⟩
  refine ⟨rises_Sd h1, fun x hx => ?_⟩
  have := rises_bounds h1 x hx
  exact ⟨by omega, this.2, by simpa using h2 x hx⟩
 ·rintro ⟨h1, h2⟩
  refine ⟨rises_of h1 (fun x hx => ?_), fun x hx => by simpa using (h2 x hx).2.2⟩
  have := h2 x hx
  exact ⟨by omega, this.2.1⟩
theorem modelMay_l0 (B p : Int) (H : List Int) (s w q t : Int) (hH : H.length ≤ maxLen) {l : List Int} (hl : l.length ≤ maxLen) (h1 : 16 ≤ p) (h2 : p ≤ 32) : ∀ (xs pre : List Int) (last : Int) (k : Nat), l = pre ++ xs → xs.length + H.length < k →
  model_May.l0 k last l (l.length : Int) (pre.length : Int) B p H s w q t = some (rises last (M p) xs && xs.all (fun x => !decide (x ∈ H))) := by
 unfold maxLen at hl
 intro xs
 induction xs with
 | nil =>
  intro pre last k hp hk
  obtain ⟨k, rfl⟩ : ∃ m, k = m + 1 := ⟨k - 1, by omega⟩
  simp only [model_May.l0]; rw [if_neg (by rw [hp]; simp)]; rfl
 | cons x xs ih =>
  intro pre last k hp hk
  simp only [List.length_cons] at hk
  obtain ⟨k, rfl⟩ : ∃ m, k = m + 1 := ⟨k - 1, by omega⟩
  have hlt : pre.length < l.length := by rw [hp]; simp
  simp only [model_May.l0, rises, List.all_cons]
  have hx : rd l (pre.length : Int) = x := by rw [hp]; exact rd_mid ..
  rw [if_pos (by omega), if_pos (by omega), if_pos (by omega), hx]
  by_cases c1 : x ≤ last
  ·rw [if_pos c1, decide_eq_false (by omega)]; rfl
  rw [if_neg c1, Many_eq B h1 h2, Option.bind_some]
  by_cases c2 : x ≥ M p
  ·rw [if_pos c2, decide_eq_false (p := x < M p) (by omega)]; simp
  rw [if_neg c2, Held_eq B p H s w q t hH x (by omega), Option.bind_some]
  by_cases c3 : x ∈ H
  ·rw [if_pos (by simpa using c3)]; simp [c3]
  have h := ih (pre ++ [x]) x k (by rw [hp]; simp) (by omega)
  simp only [List.length_append, List.length_cons, List.length_nil, Nat.zero_add, Int.natCast_add, Int.natCast_one] at h
  rw [if_neg (by simpa using c3), w64 (by omega) (by omega), h, decide_eq_true (show last < x by omega), decide_eq_true (show x < M p by omega), decide_eq_false c3]; simp
theorem modelMay_eq (B : Int) {p : Int} (H : List Int) (s w q t : Int) (hH : H.length ≤ maxLen) {l : List Int} (hl : l.length ≤ maxLen) (h1 : 16 ≤ p) (h2 : p ≤ 32) {k : Nat} (hk : l.length + H.length < k) :
  model_May.f k B p H s w q t l = some (mset (M p) H l) := by
 unfold model_May.f mset
 exact modelMay_l0 B p H s w q t hH hl h1 h2 l [] (-1) k rfl hk

theorem below_zero {last m : Int} {H : List Int} (h : rises last m H = true) (hl : -1 ≤ last) : below H 0 = 0 := below_none (fun x hx => by have := rises_bounds h x hx; omega)

theorem tab_of {l : List Int} (h : ∀ x ∈ l, 0 ≤ x ∧ x ≤ 18446744073709551615) : ∃ g, l = tab l.length g := by
 refine ⟨fun j => BitVec.ofNat 64 (l.getD j 0).toNat, ?_⟩
 apply List.ext_getElem
 ·simp [tab]
 ·intro i h1 h2
  have hb := h l[i] (List.getElem_mem h1)
  simp only [tab, List.getElem_map, List.getElem_range, U, BitVec.toNat_ofNat]
  rw [List.getD_eq_getElem?_getD, List.getElem?_eq_getElem h1, Option.getD_some, Nat.mod_eq_of_lt (by omega)]
  omega
/-- Is an offset's bit set? -/
def gb (g : Nat → BitVec 64) (i : Nat) : Bool := (g (i / 32)).getLsbD (i % 32)
/-- The set of cells: the offsets below n whose bits are set, and that aren't reserved. -/
def ofl (g : Nat → BitVec 64) (H : List Int) : Nat → List Int
 | 0 => []
 | n + 1 => if gb g n = true ∧ (n : Int) ∉ H then ofl g H n ++ [(n : Int)] else ofl g H n
theorem mem_ofl {g : Nat → BitVec 64} {H : List Int} (n : Nat) : ∀ {x : Int}, x ∈ ofl g H n ↔ 0 ≤ x ∧ x < n ∧ gb g x.toNat = true ∧ x ∉ H := by
 induction n with
 | zero => intro x; simp [ofl]; omega
 | succ n ih =>
  intro x
  unfold ofl
  by_cases e : x = (n : Int)
  ·subst e
   by_cases c : gb g n = true ∧ (n : Int) ∉ H
   ·rw [if_pos c, List.mem_append, List.mem_singleton]
    constructor
    ·rintro _; exact ⟨by omega, by omega, by rw [Int.toNat_natCast]; exact c.1, c.2⟩
    ·intro _; exact .inr rfl
   ·rw [if_neg c, ih]
    constructor
    ·rintro ⟨_, h, _⟩; omega
    ·rintro ⟨_, _, h1, h2⟩; rw [Int.toNat_natCast] at h1; exact absurd ⟨h1, h2⟩ c
  ·have hh : x ∈ ofl g H n ↔ 0 ≤ x ∧ x < ((n + 1 : Nat) : Int) ∧ gb g x.toNat = true ∧ x ∉ H := by
    rw [ih]
    constructor
    ·rintro ⟨a, b, c⟩; exact ⟨a, by omega, c⟩
    ·rintro ⟨a, b, c⟩; exact ⟨a, by omega, c⟩
   split
   ·rw [List.mem_append, List.mem_singleton, hh]
    exact ⟨fun h => h.elim id (fun h => absurd h e), .inl⟩
   ·exact hh
theorem Sd_ofl (g : Nat → BitVec 64) (H : List Int) (n : Nat) : Sd (ofl g H n) := by
 induction n with
 | zero => exact List.Pairwise.nil
 | succ n ih =>
  unfold ofl
  split
  ·refine List.pairwise_append.2 ⟨ih, List.pairwise_singleton _ _, fun x hx y hy => ?_⟩
   have := (mem_ofl n).1 hx
   rw [List.mem_singleton] at hy
   omega
  ·exact ih
theorem ofl_len (g : Nat → BitVec 64) (H : List Int) (n : Nat) : (ofl g H n).length ≤ n := by
 induction n with
 | zero => simp [ofl]
 | succ n ih =>
  unfold ofl
  split
  ·rw [List.length_append]; simp; omega
  ·omega
theorem ofl_yes {g : Nat → BitVec 64} {H : List Int} {n : Nat} (h1 : gb g n = true) (h2 : (n : Int) ∉ H) : ofl g H (n + 1) = ofl g H n ++ [(n : Int)] := by
 show (if gb g n = true ∧ (n : Int) ∉ H then _ else _) = _
 rw [if_pos ⟨h1, h2⟩]
theorem ofl_no {g : Nat → BitVec 64} {H : List Int} {n : Nat} (h : ¬ (gb g n = true ∧ (n : Int) ∉ H)) : ofl g H (n + 1) = ofl g H n := by
 show (if gb g n = true ∧ (n : Int) ∉ H then _ else _) = _
 rw [if_neg h]

theorem modelOf_l0 (B p : Int) (H : List Int) (s w q t : Int) (hH : H.length ≤ maxLen) {L : Nat} {g : Nat → BitVec 64} {n : Nat} (hn : n ≤ 70000) (hL : n ≤ 32 * L) (d : Nat) : ∀ (k i : Nat), i ≤ n → n - i = d → d + H.length + 10 < k →
  model_Of.l0 k (tab L g) (ofl g H i) n i B p H s w q t = some (ofl g H n) := by
 induction d with
 | zero =>
  intro k i hi hd hk
  obtain ⟨k, rfl⟩ : ∃ m, k = m + 1 := ⟨k - 1, by omega⟩
  obtain rfl : i = n := by omega
  simp only [model_Of.l0]; rw [if_neg (by omega)]
 | succ d ih =>
  intro k i hi hd hk
  obtain ⟨k, rfl⟩ : ∃ m, k = m + 1 := ⟨k - 1, by omega⟩
  have h := ih k (i + 1) (by omega) (by omega) (by omega)
  have hl := ofl_len g H i
  have e1 : ((i : Int) / 32).toNat = i / 32 := by omega
  have e2 : ((i : Int) % 32).toNat = i % 32 := by omega
  rw [show ((i + 1 : Nat) : Int) = (i : Int) + 1 by omega] at h
  simp only [model_Of.l0]
  rw [if_pos (by omega), Leaf_eq (by omega) (by omega), Option.bind_some, if_pos (by omega), if_pos (by rw [tab_len]; omega), tab_rd (by omega) (by omega), Used_eq _ (by omega) (by omega), Option.bind_some, e1, e2, w64 (x := (i : Int) + 1) (by omega) (by omega)]
  cases hb : (g (i / 32)).getLsbD (i % 32) with
  | false => rw [if_neg (by simp), ← ofl_no (by unfold gb; rw [hb]; simp), h]
  | true =>
   rw [if_pos rfl, Held_eq B p H s w q t hH _ (by omega), Option.bind_some]
   by_cases c : (i : Int) ∈ H
   ·rw [decide_eq_true c, if_pos rfl, ← ofl_no (fun hh => hh.2 c), h]
   ·rw [decide_eq_false c, if_neg (by simp), if_pos (by omega), ← ofl_yes hb c, h]
theorem modelOf_eq (B : Int) {p : Int} (H : List Int) (s w q t : Int) (hH : H.length ≤ maxLen) (h1 : 16 ≤ p) (h2 : p ≤ 32) {L : Nat} {g : Nat → BitVec 64} {n : Nat} (hM : M p = n) (hL : n ≤ 32 * L) {k : Nat} (hk : n + H.length + 10 < k) :
  model_Of.f k B p H s w q t (tab L g) = some (ofl g H n) := by
 have hb := M_bounds h1 h2
 unfold model_Of.f
 rw [Many_eq B h1 h2, Option.bind_some, hM]
 exact modelOf_l0 B p H s w q t hH (by omega) hL n k 0 (by omega) (by omega) (by omega)

theorem refFits_eq {B p : Int} (H : List Int) (s w q t : Int) (hH : H.length ≤ maxLen) (hB0 : 0 ≤ B) (hB1 : B ≤ 4294967295) (l : List Int) {k : Nat} (hk : H.length + 5000 < k) :
  lodgerref08_Fits.f k B p H s w q t l = some (cmay B p H s w q t && (decide (M p ≤ 4096) && decide ((l.length : Int) = (M p + 31) / 32 + ((M p + 31) / 32 + 63) / 64 + 1))) := by
 unfold lodgerref08_Fits.f
 rw [ref05May_eq H s w q t hH hB0 hB1 (by omega), Option.bind_some]
 cases hc : cmay B p H s w q t with
 | false => rw [if_neg (by simp), Bool.false_and]
 | true =>
  obtain ⟨h1, h2, h3, h4, h5⟩ := cmay_head hc
  have hb := M_bounds h1 h2
  rw [if_pos rfl, ref05Many_eq B h1 h2 (by omega), Option.bind_some, Bool.true_and]
  by_cases c : M p ≤ 4096
  ·rw [if_pos c, Option.bind_some, refCells (by omega) (by omega) (by omega), Option.bind_some, decide_eq_true c, Bool.true_and]; rfl
  ·rw [if_neg c, decide_eq_false c, Bool.false_and]

/-- Of a set, and of what is reserved: as many as there are offsets just if each offset is of one of the two. -/
theorem full_below {n : Int} {H l : List Int} (hr : rises (-1) n H = true) (hl : rises (-1) n l = true) (hd : ∀ x ∈ l, x ∉ H) (y : Nat) :
  below l y + below H y ≤ y ∧ (below l y + below H y = y ↔ ∀ z : Nat, z < y → (z : Int) ∈ H ∨ (z : Int) ∈ l) := by
 induction y with
 | zero => rw [show ((0 : Nat) : Int) = 0 from rfl, below_zero hr (by omega), below_zero hl (by omega)]; exact ⟨Nat.le_refl _, ⟨fun _ z hz => absurd hz (by omega), fun _ => rfl⟩⟩
 | succ y ih =>
  obtain ⟨i1, i2⟩ := ih
  have a := below_succ hr (y : Int)
  have b := below_succ hl (y : Int)
  rw [show ((y + 1 : Nat) : Int) = (y : Int) + 1 by omega]
  have hnot : (y : Int) ∈ l → (y : Int) ∉ H := hd _
  constructor
  ·by_cases c1 : (y : Int) ∈ l
   ·rw [if_neg (hnot c1)] at a; rw [if_pos c1] at b; omega
   ·rw [if_neg c1] at b; split at a <;> omega
  ·constructor
   ·intro h z hz
    by_cases c1 : (y : Int) ∈ l
    ·rw [if_neg (hnot c1)] at a; rw [if_pos c1] at b
     by_cases e : z = y
     ·subst e; exact .inr c1
     ·exact i2.1 (by omega) z (by omega)
    ·rw [if_neg c1] at b
     by_cases c2 : (y : Int) ∈ H
     ·rw [if_pos c2] at a
      by_cases e : z = y
      ·subst e; exact .inl c2
      ·exact i2.1 (by omega) z (by omega)
     ·rw [if_neg c2] at a; omega
   ·intro h
    have g := i2.2 (fun z hz => h z (by omega))
    by_cases c1 : (y : Int) ∈ l
    ·rw [if_neg (hnot c1)] at a; rw [if_pos c1] at b; omega
    ·have c2 := (h y (by omega)).resolve_right c1
     rw [if_neg c1] at b; rw [if_pos c2] at a; omega
theorem fullset_iff {n : Nat} {H l : List Int} (hr : rises (-1) (n : Int) H = true) (hl : mset (n : Int) H l = true) : l.length + H.length ≤ n ∧ (l.length + H.length = n ↔ ∀ z : Nat, z < n → (z : Int) ∈ H ∨ (z : Int) ∈ l) := by
 have hm := mset_iff.1 hl
 have hl' := hl
 unfold mset at hl'
 rw [Bool.and_eq_true] at hl'
 have := full_below hr hl'.1 (fun x hx => (hm.2 x hx).2.2) n
 rwa [below_all (fun x hx => (rises_bounds hr x hx).2), below_all (fun x hx => (hm.2 x hx).2.1)] at this

theorem ofl_congr {g h : Nat → BitVec 64} {H : List Int} (n : Nat) (e : ∀ i, i < n → gb g i = gb h i) : ofl g H n = ofl h H n := by
 refine sext (Sd_ofl ..) (Sd_ofl ..) (fun x => ?_)
 rw [mem_ofl, mem_ofl]
 constructor
 ·rintro ⟨a, b, c, d⟩; exact ⟨a, b, by rw [← e _ (by omega)]; exact c, d⟩
 ·rintro ⟨a, b, c, d⟩; exact ⟨a, b, by rw [e _ (by omega)]; exact c, d⟩
theorem gb_claim (g : Nat → BitVec 64) (o i : Nat) : gb (fun j => if j = o / 32 then claim (g (o / 32)) (o % 32) else g j) i = (gb g i || decide (i = o)) := by
 unfold gb
 simp only
 by_cases c : i / 32 = o / 32
 ·rw [if_pos c, claim_bit _ (by omega), ← c]
  congr 1
  exact decide_eq_decide.2 (by omega)
 ·rw [if_neg c, decide_eq_false (by omega), Bool.or_false]
theorem gb_drop (g : Nat → BitVec 64) (o i : Nat) : gb (fun j => if j = o / 32 then drop (g (o / 32)) (o % 32) else g j) i = (gb g i && !decide (i = o)) := by
 unfold gb
 simp only
 by_cases c : i / 32 = o / 32
 ·rw [if_pos c, drop_bit _ (by omega), ← c]
  congr 2
  exact decide_eq_decide.2 (by omega)
 ·rw [if_neg c, decide_eq_false (by omega), Bool.not_false, Bool.and_true]

theorem awake_true {k : Nat} (hk : 500 ≤ k) : lodgerlaw09_awake.f k = some true := at_rounds lodgerlaw09_awake.mono hk (by decide +kernel)
theorem ModelCells : lodgerlaw09_ModelCells.Pure := by
 intro B p H s w q t l a v w0 w1 hH w2 w3 w4 w5 w6 hl hl2 w7 w8 w9
 have b0 := wf_u32 w0
 have ba := wf_u16 w8
 have bv := wf_u64 w9
 refine ⟨H.length + 90000, ?_⟩
 generalize hK : H.length + 90000 = k
 have hk : H.length + 90000 ≤ k := by omega
 clear hK
 obtain ⟨k, rfl⟩ : ∃ m, k = m + 1 := ⟨k - 1, by omega⟩
 have hj : lodgerlaw09_ModelCells.j0 (k + 1) l a v true B p H s w q t = some true := by
  simp only [lodgerlaw09_ModelCells.j0, ↓reduceIte]; rw [awake_true (by omega)]; rfl
 unfold lodgerlaw09_ModelCells.f
 rw [awake_true (by omega), Option.bind_some, if_pos rfl, refFits_eq H s w q t hH b0.1 b0.2 l (by omega), Option.bind_some]
 cases hc : cmay B p H s w q t with
 | false => rw [Bool.false_and, Bool.not_false, hj]
 | true =>
  obtain ⟨h1, h2, h3, h4, h5⟩ := cmay_head hc
  have hr := cmay_rises hc
  have hb := M_bounds h1 h2
  rw [Bool.true_and]
  by_cases c1 : M p ≤ 4096 ∧ (l.length : Int) = (M p + 31) / 32 + ((M p + 31) / 32 + 63) / 64 + 1
  ·rw [decide_eq_true c1.1, decide_eq_true c1.2, Bool.true_and, Bool.not_true]
   obtain ⟨g, hg⟩ := tab_of (fun x hx => wf_u64 (w7 x hx))
   obtain ⟨x, rfl⟩ := U_of bv.1 bv.2
   obtain ⟨n, hn⟩ : ∃ n : Nat, M p = n := ⟨(M p).toNat, by omega⟩
   generalize hLn : l.length = L at *
   subst hg
   obtain ⟨o, ho, ho2⟩ : ∃ o : Nat, Int.tmod (wrap64 a) n = (o : Int) ∧ o < n := by
    refine ⟨(a % n).toNat, ?_, ?_⟩
    ·rw [w64 (by omega) (by omega), tm (by omega)]
     have := Int.emod_nonneg a (show (n : Int) ≠ 0 by omega)
     omega
    ·have := Int.emod_lt_of_pos a (show 0 < (n : Int) by omega)
     have := Int.emod_nonneg a (show (n : Int) ≠ 0 by omega)
     omega
   have hs := Sd_ofl g H n
   have hsm := fun x => mem_ofl (g := g) (H := H) n (x := x)
   have hlen := ofl_len g H n
   have hms : mset (n : Int) H (ofl g H n) = true := mset_iff.2 ⟨hs, fun x hx => by have := (hsm x).1 hx; exact ⟨this.1, this.2.1, this.2.2.2⟩⟩
   have hfull := (fullset_iff (by rw [← hn]; exact hr) hms).1
   have hL1 : n ≤ 32 * (L - 1) := by omega
   have e1 : wrap64 (Int.tdiv ((o : Nat) : Int) 32) = ((o / 32 : Nat) : Int) := by rw [td (by omega), w64 (by omega) (by omega)]; omega
   have e2 : Int.tmod ((o : Nat) : Int) 32 = ((o % 32 : Nat) : Int) := by rw [tm (by omega)]; omega
   have e3 : wrap64 ((L : Int) - 1) = ((L - 1 : Nat) : Int) := by rw [w64 (by omega) (by omega)]; omega
   have e4 : (((o / 32 : Nat) : Int)).toNat = o / 32 := by omega
   have e5 : (((o % 32 : Nat) : Int)).toNat = o % 32 := by omega
   have e6 : (((L - 1 : Nat) : Int)).toNat = L - 1 := by omega
   obtain ⟨k, rfl⟩ : ∃ m, k = m + 1 := ⟨k - 1, by omega⟩
   -- the three lists of cells
   have hOa : ∀ k, n + H.length + 10 < k → model_Of.f k B p H s w q t (tab L (fun j => if j = o / 32 then claim (g (o / 32)) (o % 32) else g j)) = some (ofl (fun j => if j = o / 32 then claim (g (o / 32)) (o % 32) else g j) H n) := fun k hk => modelOf_eq B H s w q t hH h1 h2 hn (by omega) hk
   have hOd : ∀ k, n + H.length + 10 < k → model_Of.f k B p H s w q t (tab L (fun j => if j = o / 32 then drop (g (o / 32)) (o % 32) else g j)) = some (ofl (fun j => if j = o / 32 then drop (g (o / 32)) (o % 32) else g j) H n) := fun k hk => modelOf_eq B H s w q t hH h1 h2 hn (by omega) hk
   have hOh : ∀ k, n + H.length + 10 < k → model_Of.f k B p H s w q t (tab L (fun j => if j = L - 1 then x else g j)) = some (ofl g H n) := fun k hk => by
    rw [modelOf_eq B H s w q t hH h1 h2 hn (by omega) hk, ofl_congr n (h := g) (fun i hi => by unfold gb; simp only; rw [if_neg (by omega)])]
   have hla := ofl_len (fun j => if j = o / 32 then claim (g (o / 32)) (o % 32) else g j) H n
   have hld := ofl_len (fun j => if j = o / 32 then drop (g (o / 32)) (o % 32) else g j) H n
   have ma := fun y => mem_ofl (g := fun j => if j = o / 32 then claim (g (o / 32)) (o % 32) else g j) (H := H) n (x := y)
   have md := fun y => mem_ofl (g := fun j => if j = o / 32 then drop (g (o / 32)) (o % 32) else g j) (H := H) n (x := y)
   have hj1 : lodgerlaw09_ModelCells.j1 (k + 1) (tab L g) (U x) o (ofl g H n) false B p H s w q t = some true := by
    simp only [lodgerlaw09_ModelCells.j1]
    rw [if_neg (by simp), e1, e2, if_pos (by omega), if_pos (by rw [tab_len]; omega), tab_rd (by omega) (by omega), Claim_eq _ (by omega) (by omega), Option.bind_some, refSet_eq _ (by rw [tab_len]; omega) _ _ (by rw [tab_len]; omega), Option.bind_some, Drop_eq _ (by omega) (by omega), Option.bind_some,
     refSet_eq _ (by rw [tab_len]; omega) _ _ (by rw [tab_len]; omega), Option.bind_some, tab_len, e3, refSet_eq _ (by rw [tab_len]; omega) _ _ (by rw [tab_len]; omega), Option.bind_some, st_in (by omega) (by rw [tab_len]; omega), st_in (by omega) (by rw [tab_len]; omega), st_in (by omega) (by rw [tab_len]; omega), tab_set, tab_set, tab_set, e4, e5, e6,
     hOh k (by omega), Option.bind_some, Ints_eq _ _ (by omega) (by omega), Option.bind_some, decide_eq_true rfl, if_pos rfl, refHeld_eq B p H s w q t hH _ (by omega), Option.bind_some]
    by_cases c : (o : Int) ∈ H
    ·have ea : ofl (fun j => if j = o / 32 then claim (g (o / 32)) (o % 32) else g j) H n = ofl g H n := sext (Sd_ofl ..) hs (fun y => by
      rw [ma, hsm, gb_claim]
      constructor
      ·rintro ⟨a1, a2, a3, a4⟩
       have : y.toNat ≠ o := fun e => a4 (by rw [show y = (o : Int) by omega]; exact c)
       simp [this] at a3
       exact ⟨a1, a2, a3, a4⟩
      ·rintro ⟨a1, a2, a3, a4⟩; exact ⟨a1, a2, by rw [a3]; rfl, a4⟩)
     have ed : ofl (fun j => if j = o / 32 then drop (g (o / 32)) (o % 32) else g j) H n = ofl g H n := sext (Sd_ofl ..) hs (fun y => by
      rw [md, hsm, gb_drop]
      constructor
      ·rintro ⟨a1, a2, a3, a4⟩
       rw [Bool.and_eq_true] at a3
       exact ⟨a1, a2, a3.1, a4⟩
      ·rintro ⟨a1, a2, a3, a4⟩
       have : y.toNat ≠ o := fun e => a4 (by rw [show y = (o : Int) by omega]; exact c)
       exact ⟨a1, a2, by rw [a3]; simp [this], a4⟩)
     rw [decide_eq_true c, if_pos rfl, hOa k (by omega), Option.bind_some, ea, Ints_eq _ _ (by omega) (by omega), Option.bind_some, decide_eq_true rfl, if_pos rfl, hOd k (by omega), Option.bind_some, ed, Ints_eq _ _ (by omega) (by omega), Option.bind_some, decide_eq_true rfl]
    ·have ea : ofl (fun j => if j = o / 32 then claim (g (o / 32)) (o % 32) else g j) H n = ins o (ofl g H n) := sext (Sd_ofl ..) (Sd_ins hs) (fun y => by
      rw [ma, mem_ins, hsm, gb_claim]
      constructor
      ·rintro ⟨a1, a2, a3, a4⟩
       rw [Bool.or_eq_true, decide_eq_true_eq] at a3
       rcases a3 with a3 | a3
       ·exact .inr ⟨a1, a2, a3, a4⟩
       ·exact .inl (by omega)
      ·rintro (rfl | ⟨a1, a2, a3, a4⟩)
       ·exact ⟨by omega, by omega, by simp, c⟩
       ·exact ⟨a1, a2, by rw [a3]; rfl, a4⟩)
     have ed : ofl (fun j => if j = o / 32 then drop (g (o / 32)) (o % 32) else g j) H n = del o (ofl g H n) := sext (Sd_ofl ..) (Sd_del hs) (fun y => by
      rw [md, mem_del, hsm, gb_drop]
      constructor
      ·rintro ⟨a1, a2, a3, a4⟩
       rw [Bool.and_eq_true, Bool.not_eq_true', decide_eq_false_iff_not] at a3
       exact ⟨⟨a1, a2, a3.1, a4⟩, fun e => a3.2 (by omega)⟩
      ·rintro ⟨⟨a1, a2, a3, a4⟩, a5⟩
       have : y.toNat ≠ o := fun e => a5 (by omega)
       exact ⟨a1, a2, by rw [a3]; simp [this], a4⟩)
     have hi := ins_len_le (o : Int) hs
     have hd := del_len_le (o : Int) (ofl g H n)
     have hbit : decide ((o : Int) ∈ ofl g H n) = (g (o / 32)).getLsbD (o % 32) := by
      rw [Bool.eq_iff_iff, decide_eq_true_eq, hsm]
      unfold gb
      rw [Int.toNat_natCast]
      exact ⟨fun h => h.2.2.1, fun h => ⟨by omega, by omega, h, c⟩⟩
     rw [decide_eq_false c, if_neg (by simp), hOa k (by omega), Option.bind_some, With_eq _ hs (by omega) (by omega), Option.bind_some, ea, Ints_eq _ _ (by omega) (by omega), Option.bind_some, decide_eq_true rfl, if_pos rfl, hOd k (by omega), Option.bind_some, Without_eq _ hs (by omega) (by omega), Option.bind_some,
      ed, Ints_eq _ _ (by omega) (by omega), Option.bind_some, decide_eq_true rfl, if_pos rfl, MHas_eq _ hs (by omega) (by omega), Option.bind_some, refHas_eq _ (by omega) (by omega) (by omega), Option.bind_some, e5, hbit, beq_self_eq_true]
   simp only [lodgerlaw09_ModelCells.j0]
   rw [if_neg (by simp), ref05Many_eq B h1 h2 (by omega), Option.bind_some, if_neg (by omega), modelOf_eq B H s w q t hH h1 h2 hn (by omega) (by omega), Option.bind_some, modelMay_eq B H s w q t hH (by unfold maxLen; omega) h1 h2 (by omega), Option.bind_some, hn, hms, if_pos rfl, ho, w64 (by omega) (by omega), decide_eq_false (by omega)]
   exact hj1
  ·have : (decide (M p ≤ 4096) && decide ((l.length : Int) = (M p + 31) / 32 + ((M p + 31) / 32 + 63) / 64 + 1)) = false := by
    by_cases c2 : M p ≤ 4096
    ·rw [decide_eq_false (fun h => c1 ⟨c2, h⟩), Bool.and_false]
    ·rw [decide_eq_false c2, Bool.false_and]
   rw [this, Bool.not_false, hj]

end Go.Proofs.Ythfcgjmffjmplaa.Pure
