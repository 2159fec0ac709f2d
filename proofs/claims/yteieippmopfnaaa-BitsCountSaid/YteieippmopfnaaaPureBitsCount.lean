/- BitsCount answers true at every input: all bits of a word, and those of what is left of it, are counted together; no condition. -/
import Derived.Test.YteieippmopfnaaaQBitsCountx1
namespace Go.Proofs.Yteieippmopfnaaa.Pure
open Go.RowKit Go.Proofs.Yteieippmopfnaaa.PBitsCount Go.Proofs.YteieippmopfnaaaW.PrintWords Go.Proofs.YteieippmopfnaaaW.PrintLast Go.Proofs.YteieippmopfnaaaW.PrintMore
set_option linter.unusedVariables false
set_option linter.unusedSimpArgs false

theorem w64 {x : Int} (h1 : -9223372036854775808 ≤ x) (h2 : x ≤ 9223372036854775807) : wrap64 x = x := by unfold wrap64; omega
theorem td {a b : Int} (h : 0 ≤ a) : Int.tdiv a b = a / b := Int.tdiv_eq_ediv_of_nonneg h
theorem tm {a b : Int} (h : 0 ≤ a) : Int.tmod a b = a % b := Int.tmod_eq_emod_of_nonneg h
theorem more {k N : Nat} (h : N + 1 ≤ k) : ∃ m, k = m + 1 ∧ N ≤ m := ⟨k - 1, by omega, by omega⟩
theorem wf_u16 {a : Int} (h : (Lit.int .u16 a).wf = true) : 0 ≤ a ∧ a ≤ 65535 := by
  simp [Lit.wf, IntKind.min, IntKind.max, IntKind.signed, IntKind.bits] at h
  omega
theorem wf_u8 {a : Int} (h : (Lit.int .u8 a).wf = true) : 0 ≤ a ∧ a ≤ 255 := by
  simp [Lit.wf, IntKind.min, IntKind.max, IntKind.signed, IntKind.bits] at h
  omega
theorem wf_u32 {a : Int} (h : (Lit.int .u32 a).wf = true) : 0 ≤ a ∧ a ≤ 4294967295 := by
  simp [Lit.wf, IntKind.min, IntKind.max, IntKind.signed, IntKind.bits] at h
  omega
theorem wf_u64 {a : Int} (h : (Lit.int .u64 a).wf = true) : 0 ≤ a ∧ a ≤ 18446744073709551615 := by
  simp [Lit.wf, IntKind.min, IntKind.max, IntKind.signed, IntKind.bits] at h
  omega
theorem wf_i64 {a : Int} (h : (Lit.int .i64 a).wf = true) : -9223372036854775808 ≤ a ∧ a ≤ 9223372036854775807 := by
  simp [Lit.wf, IntKind.min, IntKind.max, IntKind.signed, IntKind.bits] at h
  omega

/-- A word, as the machine's number. -/
def U (x : BitVec 64) : Int := (x.toNat : Int)
theorem U_lt (x : BitVec 64) : 0 ≤ U x ∧ U x < 18446744073709551616 := by have := x.isLt; unfold U; omega
theorem U_of {a : Int} (h0 : 0 ≤ a) (h1 : a ≤ 18446744073709551615) : ∃ x : BitVec 64, a = U x := by
  refine ⟨BitVec.ofNat 64 a.toNat, ?_⟩
  unfold U
  rw [BitVec.toNat_ofNat, Nat.mod_eq_of_lt (by omega)]
  omega
theorem U_inj {x y : BitVec 64} (h : U x = U y) : x = y := by unfold U at h; exact BitVec.eq_of_toNat_eq (by omega)
theorem U_eq {x y : BitVec 64} : (U x == U y) = (x == y) := by
  rw [Bool.eq_iff_iff, beq_iff_eq, beq_iff_eq]; exact ⟨U_inj, fun h => by rw [h]⟩
theorem wrapu (n : Int) : IntKind.u64.wrap n = n % 18446744073709551616 := by simp [IntKind.wrap, IntKind.bits, IntKind.signed]
theorem wrapu_small {n : Int} (h0 : 0 ≤ n) (h1 : n < 18446744073709551616) : IntKind.u64.wrap n = n := by rw [wrapu]; omega
theorem wrapu_U (x : BitVec 64) : IntKind.u64.wrap ((x.toNat : Nat) : Int) = U x := by have := x.isLt; unfold U; rw [wrapu]; omega
theorem ofInt_U (x : BitVec 64) : BitVec.ofInt 64 (U x) = x := by unfold U; rw [BitVec.ofInt_natCast]; simp
theorem bits_or_U (x y : BitVec 64) : Go.bits .or .u64 (U x) (U y) = U (x ||| y) := by
  show IntKind.u64.wrap ((BitVec.ofInt 64 (U x) ||| BitVec.ofInt 64 (U y)).toNat : Nat) = _
  rw [ofInt_U, ofInt_U, wrapu_U]
theorem bits_and_U (x y : BitVec 64) : Go.bits .and .u64 (U x) (U y) = U (x &&& y) := by
  show IntKind.u64.wrap ((BitVec.ofInt 64 (U x) &&& BitVec.ofInt 64 (U y)).toNat : Nat) = _
  rw [ofInt_U, ofInt_U, wrapu_U]
theorem bits_xor_U (x y : BitVec 64) : Go.bits .xor .u64 (U x) (U y) = U (x ^^^ y) := by
  show IntKind.u64.wrap ((BitVec.ofInt 64 (U x) ^^^ BitVec.ofInt 64 (U y)).toNat : Nat) = _
  rw [ofInt_U, ofInt_U, wrapu_U]
theorem bits_andNot_U (x y : BitVec 64) : Go.bits .andNot .u64 (U x) (U y) = U (x &&& ~~~y) := by
  show IntKind.u64.wrap ((BitVec.ofInt 64 (U x) &&& ~~~BitVec.ofInt 64 (U y)).toNat : Nat) = _
  rw [ofInt_U, ofInt_U, wrapu_U]
theorem shl_U {i : Int} (h0 : 0 ≤ i) (h1 : i < 64) : shl .u64 1 i = U (BitVec.twoPow 64 i.toNat) := by
  unfold shl U
  rw [Nat.min_eq_left (by simp [IntKind.bits]; omega), BitVec.toNat_twoPow, wrapu, Int.one_mul]
  simp
theorem shr_U (x : BitVec 64) {i : Int} (h0 : 0 ≤ i) (h1 : i < 64) : shr .u64 (U x) i = U (x >>> i.toNat) := by
  unfold shr U
  rw [Nat.min_eq_left (by simp [IntKind.bits]; omega), BitVec.toNat_ushiftRight, Nat.shiftRight_eq_div_pow]
  simp
theorem one_U : (1 : Int) = U 1#64 := rfl
theorem bit_U (x : BitVec 64) (i : Nat) : (Go.bits .and .u64 (U (x >>> i)) 1 == 1) = x.getLsbD i := by
  rw [one_U, bits_and_U, U_eq, Bool.eq_iff_iff, beq_iff_eq]
  constructor
  · intro h
    have := congrArg (fun z => z.getLsbD 0) h
    simpa using this
  · intro h
    apply BitVec.eq_of_getLsbD_eq
    intro j hj
    rw [BitVec.getLsbD_and, BitVec.getLsbD_one, BitVec.getLsbD_ushiftRight]
    by_cases hz : j = 0
    · subst hz; simp [h]
    · simp [hz]
theorem bitn_U (x : BitVec 64) (i : Nat) : Go.bits .and .u64 (U (x >>> i)) 1 = (if x.getLsbD i = true then 1 else 0) := by
  have h := bit_U x i
  have hb : Go.bits .and .u64 (U (x >>> i)) 1 = 0 ∨ Go.bits .and .u64 (U (x >>> i)) 1 = 1 := by
    rw [one_U, bits_and_U]
    unfold U
    rw [BitVec.toNat_and]
    have : (x >>> i).toNat &&& (1#64).toNat ≤ 1 := Nat.and_le_right
    simp at this ⊢
    omega
  split
  · rename_i hg; rw [hg] at h; exact eq_of_beq h
  · rename_i hg
    rcases hb with hb | hb
    · exact hb
    · rw [hb] at h; exact absurd h.symm hg
/-- The word of the lowest bits. -/
def mask (n : Nat) : BitVec 64 := BitVec.ofNat 64 (2 ^ n - 1)
theorem mask_bit (n j : Nat) (hj : j < 64) : (mask n).getLsbD j = decide (j < n) := by
  unfold mask
  rw [BitVec.getLsbD_ofNat, Nat.testBit_two_pow_sub_one]
  simp [hj]
/-- How many of the first n bits are set. -/
def cnt (x : BitVec 64) : Nat → Nat
  | 0 => 0
  | n + 1 => cnt x n + (if x.getLsbD n = true then 1 else 0)
theorem cnt_le (x : BitVec 64) (n : Nat) : cnt x n ≤ n := by
  induction n with
  | zero => simp [cnt]
  | succ n ih => simp only [cnt]; split <;> omega
theorem cnt_mono (x : BitVec 64) {n m : Nat} (h : n ≤ m) : cnt x n ≤ cnt x m := by
  induction h with
  | refl => omega
  | step _ ih => simp only [cnt]; omega
theorem cnt_all (x : BitVec 64) (n : Nat) (h : ∀ j, j < n → x.getLsbD j = true) : cnt x n = n := by
  induction n with
  | zero => simp [cnt]
  | succ n ih => simp only [cnt]; rw [ih (fun j hj => h j (by omega)), if_pos (h n (by omega))]
theorem cnt_lt (x : BitVec 64) (n i : Nat) (hi : i < n) (h : x.getLsbD i = false) : cnt x n < n := by
  induction n with
  | zero => omega
  | succ n ih =>
    simp only [cnt]
    by_cases he : i = n
    · subst he; rw [h]; have := cnt_le x i; simp; omega
    · have := ih (by omega); split <;> omega
theorem cnt_congr (x y : BitVec 64) (n : Nat) (h : ∀ j, j < n → x.getLsbD j = y.getLsbD j) : cnt x n = cnt y n := by
  induction n with
  | zero => simp [cnt]
  | succ n ih => simp only [cnt]; rw [ih (fun j hj => h j (by omega)), h n (by omega)]
theorem cnt_set (x : BitVec 64) (n i : Nat) (hi : i < n) (hn : n ≤ 64) (h : x.getLsbD i = false) : cnt (x ||| BitVec.twoPow 64 i) n = cnt x n + 1 := by
  induction n with
  | zero => omega
  | succ n ih =>
    simp only [cnt, BitVec.getLsbD_or, BitVec.getLsbD_twoPow]
    by_cases he : i = n
    · subst he
      rw [cnt_congr (x ||| BitVec.twoPow 64 i) x i (fun j hj => by simp [BitVec.getLsbD_or, BitVec.getLsbD_twoPow]; omega), h]
      simp; omega
    · rw [ih (by omega) (by omega)]
      simp [he]; omega

theorem Has_eq (x : BitVec 64) {i : Int} (h0 : 0 ≤ i) (h1 : i < 64) : bits_Has.f (U x) i = some (x.getLsbD i.toNat) := by
  unfold bits_Has.f
  rw [wrapu_small h0 (by omega), if_pos h0, shr_U x h0 h1, bit_U]

theorem Mask_eq {n : Int} (h0 : 0 ≤ n) (h1 : n ≤ 64) : bits_Mask.f n = some (U (mask n.toNat)) := by
  unfold bits_Mask.f
  rw [wrapu_small h0 (by omega), if_pos h0]
  congr 1
  unfold mask U shl
  have hp : 0 < 2 ^ n.toNat := Nat.two_pow_pos _
  have hq : 2 ^ n.toNat ≤ 2 ^ 64 := Nat.pow_le_pow_right (by decide) (by omega)
  rw [Nat.min_eq_left (by simp [IntKind.bits]; omega), BitVec.toNat_ofNat, wrapu, wrapu, Nat.mod_eq_of_lt (by omega), Int.one_mul]
  rw [show ((2 : Int) ^ n.toNat) = ((2 ^ n.toNat : Nat) : Int) by simp]
  generalize 2 ^ n.toNat = P at *
  omega

theorem Count_l0 (x : BitVec 64) {n : Int} (h1 : n ≤ 64) (d : Nat) : ∀ (k : Nat) (i : Int), 0 ≤ i → i ≤ n → n - i = d → d < k → bits_Count.l0 k (U x) (cnt x i.toNat) n i = some (cnt x n.toNat : Int) := by
  induction d with
  | zero =>
    intro k i hi0 hi1 hd hk
    obtain ⟨k, rfl⟩ : ∃ m, k = m + 1 := ⟨k - 1, by omega⟩
    simp only [bits_Count.l0]; rw [if_neg (by omega)]; congr 2; congr 1; omega
  | succ d ih =>
    intro k i hi0 hi1 hd hk
    obtain ⟨k, rfl⟩ : ∃ m, k = m + 1 := ⟨k - 1, by omega⟩
    have hc := cnt_le x i.toNat
    simp only [bits_Count.l0]
    rw [if_pos (by omega), wrapu_small (n := i) (by omega) (by omega), if_pos (by omega), shr_U x (by omega) (by omega), bitn_U, w64 (x := i + 1) (by omega) (by omega),
      w64 (x := if x.getLsbD i.toNat = true then 1 else 0) (by split <;> omega) (by split <;> omega), w64 (by split <;> omega) (by split <;> omega)]
    have := ih k (i + 1) (by omega) (by omega) (by omega) (by omega)
    rw [show (i + 1).toNat = i.toNat + 1 by omega] at this
    simp only [cnt] at this
    rw [← this]
    congr 1
    split <;> omega
theorem Count_eq (x : BitVec 64) {n : Int} (h0 : 0 ≤ n) (h1 : n ≤ 64) {k : Nat} (hk : 70 ≤ k) : bits_Count.f k (U x) n = some (cnt x n.toNat : Int) := by
  unfold bits_Count.f
  exact Count_l0 x h1 n.toNat k 0 (by omega) (by omega) (by omega) (by omega)

theorem cnt_mask (n : Nat) (j : Nat) (hj : j ≤ 64) : cnt (mask n) j = min n j := by
  induction j with
  | zero => simp [cnt]
  | succ j ih =>
    simp only [cnt]
    rw [ih (by omega), mask_bit n j (by omega)]
    by_cases h : j < n
    · simp [h]; omega
    · simp [h]; omega

theorem awake_true {k : Nat} (hk : 100 ≤ k) : lodgerlaw01_awake.f k = some true := at_rounds lodgerlaw01_awake.mono hk (by decide +kernel)
theorem cnt_and_mask (x : BitVec 64) (n : Nat) (j : Nat) (hj : j ≤ 64) : cnt (x &&& mask n) j = cnt x (min n j) := by
  induction j with
  | zero => simp [cnt]
  | succ j ih =>
    simp only [cnt]
    rw [ih (by omega), BitVec.getLsbD_and, mask_bit n j (by omega)]
    by_cases h : j < n
    · rw [show min n (j + 1) = min n j + 1 by omega, show min n j = j by omega]
      simp only [cnt]; simp [h]
    · rw [show min n (j + 1) = min n j by omega]
      simp [h]
theorem cnt_split (x m : BitVec 64) (j : Nat) (hj : j ≤ 64) : cnt x j = cnt (x &&& m) j + cnt (x &&& ~~~m) j := by
  induction j with
  | zero => simp [cnt]
  | succ j ih =>
    simp only [cnt]
    rw [ih (by omega), BitVec.getLsbD_and, BitVec.getLsbD_and, BitVec.getLsbD_not]
    have hj' : decide (j < 64) = true := by simp; omega
    rw [hj']
    cases x.getLsbD j <;> cases m.getLsbD j <;> simp <;> omega
theorem cnt_not (x : BitVec 64) (j : Nat) (hj : j ≤ 64) : cnt (~~~x) j + cnt x j = j := by
  induction j with
  | zero => simp [cnt]
  | succ j ih =>
    simp only [cnt]
    have hj' : decide (j < 64) = true := by simp; omega
    have := ih (by omega)
    rw [BitVec.getLsbD_not, hj']
    cases x.getLsbD j <;> simp <;> omega
theorem sub_low (x m : BitVec 64) : IntKind.u64.wrap (U x - U (x &&& m)) = U (x &&& ~~~m) := by
  have hz : (x &&& ~~~m) &&& (x &&& m) = 0#64 := by
    apply BitVec.eq_of_getLsbD_eq
    intro j hj
    simp only [BitVec.getLsbD_and, BitVec.getLsbD_not, BitVec.getLsbD_zero]
    cases x.getLsbD j <;> cases m.getLsbD j <;> simp
  have hs : (x &&& ~~~m) ||| (x &&& m) = x := by
    apply BitVec.eq_of_getLsbD_eq
    intro j hj
    have hj' : decide (j < 64) = true := by simp; omega
    simp only [BitVec.getLsbD_and, BitVec.getLsbD_or, BitVec.getLsbD_not, hj']
    cases x.getLsbD j <;> cases m.getLsbD j <;> simp
  have ha := BitVec.add_eq_or_of_and_eq_zero _ _ hz
  rw [hs] at ha
  have hx : x.toNat = ((x &&& ~~~m).toNat + (x &&& m).toNat) % 18446744073709551616 := by
    have := congrArg BitVec.toNat ha
    rw [BitVec.toNat_add] at this
    rw [← this]
  have h1 := (x &&& ~~~m).isLt
  have h2 := (x &&& m).isLt
  rw [wrapu]; unfold U; rw [hx]
  generalize (x &&& ~~~m).toNat = p at *
  generalize (x &&& m).toNat = q at *
  omega
theorem not_U (x : BitVec 64) : Go.bits .xor .u64 IntKind.u64.max (U x) = U (~~~x) := by
  rw [show IntKind.u64.max = U (BitVec.allOnes 64) by decide, bits_xor_U]
  congr 1
theorem BitsCount : lodgerlaw01_BitsCount.Pure := by
  intro a0 a1 w0 w1
  have b0 := wf_u64 w0
  have b1 := wf_u8 w1
  refine ⟨300, ?_⟩
  generalize hK : 300 = k
  have hk : 300 ≤ k := by omega
  clear hK
  obtain ⟨x, rfl⟩ := U_of b0.1 b0.2
  have e1 : wrap64 (Int.tmod a1 65) = a1 % 65 := by rw [tm (by omega), w64 (by omega) (by omega)]
  unfold lodgerlaw01_BitsCount.f
  rw [awake_true (by omega), Option.bind_some, if_pos rfl, e1]
  have h1 : 0 ≤ a1 % 65 ∧ a1 % 65 ≤ 64 := by omega
  generalize a1 % 65 = n at h1
  have c1 := cnt_and_mask x n.toNat 64 (by omega)
  have c2 := cnt_split x (mask n.toNat) 64 (by omega)
  have c3 := cnt_not x 64 (by omega)
  have c4 := cnt_le (x &&& mask n.toNat) 64
  have c5 := cnt_le (x &&& ~~~mask n.toNat) 64
  rw [show min n.toNat 64 = n.toNat by omega] at c1
  have E : (64 : Int).toNat = 64 := rfl
  rw [Mask_eq h1.1 h1.2, Option.bind_some, bits_and_U, sub_low, not_U, Count_eq x h1.1 h1.2 (by omega), Option.bind_some, Count_eq _ (by omega) (by omega) (by omega), Option.bind_some, E, c1, if_pos rfl,
    Count_eq _ (by omega) (by omega) (by omega), Option.bind_some, Option.bind_some, Count_eq _ (by omega) (by omega) (by omega), Option.bind_some, E, w64 (by omega) (by omega), if_pos (by omega),
    Count_eq _ (by omega) (by omega) (by omega), Option.bind_some, Option.bind_some, E, w64 (by omega) (by omega), if_pos (by omega), Count_eq _ (by omega) (by omega) (by omega), Option.bind_some]
  rfl

end Go.Proofs.Yteieippmopfnaaa.Pure
