/- WordClaims answers true at every input: a claim sets its bit and no other one, a drop clears it, each is one change more; no condition. -/
import Derived.Test.YtdbpdpdpabhfbaaQWordClaimsx4
namespace Go.Proofs.Ytdbpdpdpabhfbaa.Pure
open Go.RowKit Go.Proofs.Ytdbpdpdpabhfbaa.PWordClaims Go.Proofs.YtdbpdpdpabhfbaaW.PrintWords Go.Proofs.YtdbpdpdpabhfbaaW.PrintLast Go.Proofs.YtdbpdpdpabhfbaaW.PrintMore
set_option linter.unusedVariables false
set_option linter.unusedSimpArgs false

theorem w64 {x : Int} (h1 : -9223372036854775808 ≤ x) (h2 : x ≤ 9223372036854775807) : wrap64 x = x := by unfold wrap64; omega
theorem td {a b : Int} (h : 0 ≤ a) : Int.tdiv a b = a / b := Int.tdiv_eq_ediv_of_nonneg h
theorem tm {a b : Int} (h : 0 ≤ a) : Int.tmod a b = a % b := Int.tmod_eq_emod_of_nonneg h
theorem more {k N : Nat} (h : N + 1 ≤ k) : ∃ m, k = m + 1 ∧ N ≤ m := ⟨k - 1, by omega, by omega⟩
theorem wf_u16 {a : Int} (h : (Lit.int .u16 a).wf = true) : 0 ≤ a ∧ a ≤ 65535 := by
  simp [Lit.wf, IntKind.min, IntKind.max, IntKind.signed, IntKind.bits] at h
  omega
theorem wf_u8 {a : Int} (h : (Lit.int .u8 a).wf = true) : 0 ≤ a ∧ a ≤ 255 := by
  simp [Lit.wf, IntKind.min, IntKind.max, IntKind.signed, IntKind.bits] at h
  omega
theorem wf_u32 {a : Int} (h : (Lit.int .u32 a).wf = true) : 0 ≤ a ∧ a ≤ 4294967295 := by
  simp [Lit.wf, IntKind.min, IntKind.max, IntKind.signed, IntKind.bits] at h
  omega
theorem wf_u64 {a : Int} (h : (Lit.int .u64 a).wf = true) : 0 ≤ a ∧ a ≤ 18446744073709551615 := by
  simp [Lit.wf, IntKind.min, IntKind.max, IntKind.signed, IntKind.bits] at h
  omega
theorem wf_i64 {a : Int} (h : (Lit.int .i64 a).wf = true) : -9223372036854775808 ≤ a ∧ a ≤ 9223372036854775807 := by
  simp [Lit.wf, IntKind.min, IntKind.max, IntKind.signed, IntKind.bits] at h
  omega

/-- A word, as the machine's number. -/
def U (x : BitVec 64) : Int := (x.toNat : Int)
theorem U_lt (x : BitVec 64) : 0 ≤ U x ∧ U x < 18446744073709551616 := by have := x.isLt; unfold U; omega
theorem U_of {a : Int} (h0 : 0 ≤ a) (h1 : a ≤ 18446744073709551615) : ∃ x : BitVec 64, a = U x := by
  refine ⟨BitVec.ofNat 64 a.toNat, ?_⟩
  unfold U
  rw [BitVec.toNat_ofNat, Nat.mod_eq_of_lt (by omega)]
  omega
theorem U_inj {x y : BitVec 64} (h : U x = U y) : x = y := by unfold U at h; exact BitVec.eq_of_toNat_eq (by omega)
theorem U_eq {x y : BitVec 64} : (U x == U y) = (x == y) := by
  rw [Bool.eq_iff_iff, beq_iff_eq, beq_iff_eq]; exact ⟨U_inj, fun h => by rw [h]⟩
theorem wrapu (n : Int) : IntKind.u64.wrap n = n % 18446744073709551616 := by simp [IntKind.wrap, IntKind.bits, IntKind.signed]
theorem wrapu_small {n : Int} (h0 : 0 ≤ n) (h1 : n < 18446744073709551616) : IntKind.u64.wrap n = n := by rw [wrapu]; omega
theorem wrapu_U (x : BitVec 64) : IntKind.u64.wrap ((x.toNat : Nat) : Int) = U x := by have := x.isLt; unfold U; rw [wrapu]; omega
theorem ofInt_U (x : BitVec 64) : BitVec.ofInt 64 (U x) = x := by unfold U; rw [BitVec.ofInt_natCast]; simp
theorem bits_or_U (x y : BitVec 64) : Go.bits .or .u64 (U x) (U y) = U (x ||| y) := by
  show IntKind.u64.wrap ((BitVec.ofInt 64 (U x) ||| BitVec.ofInt 64 (U y)).toNat : Nat) = _
  rw [ofInt_U, ofInt_U, wrapu_U]
theorem bits_and_U (x y : BitVec 64) : Go.bits .and .u64 (U x) (U y) = U (x &&& y) := by
  show IntKind.u64.wrap ((BitVec.ofInt 64 (U x) &&& BitVec.ofInt 64 (U y)).toNat : Nat) = _
  rw [ofInt_U, ofInt_U, wrapu_U]
theorem bits_xor_U (x y : BitVec 64) : Go.bits .xor .u64 (U x) (U y) = U (x ^^^ y) := by
  show IntKind.u64.wrap ((BitVec.ofInt 64 (U x) ^^^ BitVec.ofInt 64 (U y)).toNat : Nat) = _
  rw [ofInt_U, ofInt_U, wrapu_U]
theorem bits_andNot_U (x y : BitVec 64) : Go.bits .andNot .u64 (U x) (U y) = U (x &&& ~~~y) := by
  show IntKind.u64.wrap ((BitVec.ofInt 64 (U x) &&& ~~~BitVec.ofInt 64 (U y)).toNat : Nat) = _
  rw [ofInt_U, ofInt_U, wrapu_U]
theorem shl_U {i : Int} (h0 : 0 ≤ i) (h1 : i < 64) : shl .u64 1 i = U (BitVec.twoPow 64 i.toNat) := by
  unfold shl U
  rw [Nat.min_eq_left (by simp [IntKind.bits]; omega), BitVec.toNat_twoPow, wrapu, Int.one_mul]
  simp
theorem shr_U (x : BitVec 64) {i : Int} (h0 : 0 ≤ i) (h1 : i < 64) : shr .u64 (U x) i = U (x >>> i.toNat) := by
  unfold shr U
  rw [Nat.min_eq_left (by simp [IntKind.bits]; omega), BitVec.toNat_ushiftRight, Nat.shiftRight_eq_div_pow]
  simp
theorem one_U : (1 : Int) = U 1#64 := rfl
theorem bit_U (x : BitVec 64) (i : Nat) : (Go.bits .and .u64 (U (x >>> i)) 1 == 1) = x.getLsbD i := by
  rw [one_U, bits_and_U, U_eq, Bool.eq_iff_iff, beq_iff_eq]
  constructor
  · intro h
    have := congrArg (fun z => z.getLsbD 0) h
    simpa using this
  · intro h
    apply BitVec.eq_of_getLsbD_eq
    intro j hj
    rw [BitVec.getLsbD_and, BitVec.getLsbD_one, BitVec.getLsbD_ushiftRight]
    by_cases hz : j = 0
    · subst hz; simp [h]
    · simp [hz]
theorem bitn_U (x : BitVec 64) (i : Nat) : Go.bits .and .u64 (U (x >>> i)) 1 = (if x.getLsbD i = true then 1 else 0) := by
  have h := bit_U x i
  have hb : Go.bits .and .u64 (U (x >>> i)) 1 = 0 ∨ Go.bits .and .u64 (U (x >>> i)) 1 = 1 := by
    rw [one_U, bits_and_U]
    unfold U
    rw [BitVec.toNat_and]
    have : (x >>> i).toNat &&& (1#64).toNat ≤ 1 := Nat.and_le_right
    simp at this ⊢
    omega
  split
  · rename_i hg; rw [hg] at h; exact eq_of_beq h
  · rename_i hg
    rcases hb with hb | hb
    · exact hb
    · rw [hb] at h; exact absurd h.symm hg
/-- The word of the lowest bits. -/
def mask (n : Nat) : BitVec 64 := BitVec.ofNat 64 (2 ^ n - 1)
theorem mask_bit (n j : Nat) (hj : j < 64) : (mask n).getLsbD j = decide (j < n) := by
  unfold mask
  rw [BitVec.getLsbD_ofNat, Nat.testBit_two_pow_sub_one]
  simp [hj]
/-- How many of the first n bits are set. -/
def cnt (x : BitVec 64) : Nat → Nat
  | 0 => 0
  | n + 1 => cnt x n + (if x.getLsbD n = true then 1 else 0)
theorem cnt_le (x : BitVec 64) (n : Nat) : cnt x n ≤ n := by
  induction n with
  | zero => simp [cnt]
  | succ n ih => simp only [cnt]; split <;> omega
theorem cnt_mono (x : BitVec 64) {n m : Nat} (h : n ≤ m) : cnt x n ≤ cnt x m := by
  induction h with
  | refl => omega
  | step _ ih => simp only [cnt]; omega
theorem cnt_all (x : BitVec 64) (n : Nat) (h : ∀ j, j < n → x.getLsbD j = true) : cnt x n = n := by
  induction n with
  | zero => simp [cnt]
  | succ n ih => simp only [cnt]; rw [ih (fun j hj => h j (by omega)), if_pos (h n (by omega))]
theorem cnt_lt (x : BitVec 64) (n i : Nat) (hi : i < n) (h : x.getLsbD i = false) : cnt x n < n := by
  induction n with
  | zero => omega
  | succ n ih =>
    simp only [cnt]
    by_cases he : i = n
    · subst he; rw [h]; have := cnt_le x i; simp; omega
    · have := ih (by omega); split <;> omega
theorem cnt_congr (x y : BitVec 64) (n : Nat) (h : ∀ j, j < n → x.getLsbD j = y.getLsbD j) : cnt x n = cnt y n := by
  induction n with
  | zero => simp [cnt]
  | succ n ih => simp only [cnt]; rw [ih (fun j hj => h j (by omega)), h n (by omega)]
theorem cnt_set (x : BitVec 64) (n i : Nat) (hi : i < n) (hn : n ≤ 64) (h : x.getLsbD i = false) : cnt (x ||| BitVec.twoPow 64 i) n = cnt x n + 1 := by
  induction n with
  | zero => omega
  | succ n ih =>
    simp only [cnt, BitVec.getLsbD_or, BitVec.getLsbD_twoPow]
    by_cases he : i = n
    · subst he
      rw [cnt_congr (x ||| BitVec.twoPow 64 i) x i (fun j hj => by simp [BitVec.getLsbD_or, BitVec.getLsbD_twoPow]; omega), h]
      simp; omega
    · rw [ih (by omega) (by omega)]
      simp [he]; omega

theorem Has_eq (x : BitVec 64) {i : Int} (h0 : 0 ≤ i) (h1 : i < 64) : bits_Has.f (U x) i = some (x.getLsbD i.toNat) := by
  unfold bits_Has.f
  rw [wrapu_small h0 (by omega), if_pos h0, shr_U x h0 h1, bit_U]

theorem Set_eq (x : BitVec 64) {i : Int} (h0 : 0 ≤ i) (h1 : i < 64) : bits_Set.f (U x) i = some (U (x ||| BitVec.twoPow 64 i.toNat)) := by
  unfold bits_Set.f
  rw [wrapu_small h0 (by omega), if_pos h0, shl_U h0 h1, bits_or_U]
theorem Clear_eq (x : BitVec 64) {i : Int} (h0 : 0 ≤ i) (h1 : i < 64) : bits_Clear.f (U x) i = some (U (x &&& ~~~BitVec.twoPow 64 i.toNat)) := by
  unfold bits_Clear.f
  rw [wrapu_small h0 (by omega), if_pos h0, shl_U h0 h1, bits_andNot_U]

theorem Count_l0 (x : BitVec 64) {n : Int} (h1 : n ≤ 64) (d : Nat) : ∀ (k : Nat) (i : Int), 0 ≤ i → i ≤ n → n - i = d → d < k → bits_Count.l0 k (U x) (cnt x i.toNat) n i = some (cnt x n.toNat : Int) := by
  induction d with
  | zero =>
    intro k i hi0 hi1 hd hk
    obtain ⟨k, rfl⟩ : ∃ m, k = m + 1 := ⟨k - 1, by omega⟩
    simp only [bits_Count.l0]; rw [if_neg (by omega)]; congr 2; congr 1; omega
  | succ d ih =>
    intro k i hi0 hi1 hd hk
    obtain ⟨k, rfl⟩ : ∃ m, k = m + 1 := ⟨k - 1, by omega⟩
    have hc := cnt_le x i.toNat
    simp only [bits_Count.l0]
    rw [if_pos (by omega), wrapu_small (n := i) (by omega) (by omega), if_pos (by omega), shr_U x (by omega) (by omega), bitn_U, w64 (x := i + 1) (by omega) (by omega),
      w64 (x := if x.getLsbD i.toNat = true then 1 else 0) (by split <;> omega) (by split <;> omega), w64 (by split <;> omega) (by split <;> omega)]
    have := ih k (i + 1) (by omega) (by omega) (by omega) (by omega)
    rw [show (i + 1).toNat = i.toNat + 1 by omega] at this
    simp only [cnt] at this
    rw [← this]
    congr 1
    split <;> omega
theorem Count_eq (x : BitVec 64) {n : Int} (h0 : 0 ≤ n) (h1 : n ≤ 64) {k : Nat} (hk : 70 ≤ k) : bits_Count.f k (U x) n = some (cnt x n.toNat : Int) := by
  unfold bits_Count.f
  exact Count_l0 x h1 n.toNat k 0 (by omega) (by omega) (by omega) (by omega)

theorem addc_U (y : BitVec 64) : IntKind.u64.wrap (U y + 4294967296) = U (y + 4294967296#64) := by
  have := y.isLt
  unfold U
  rw [wrapu, BitVec.toNat_add]
  simp
theorem low_bit (x : BitVec 64) (j : Nat) (hj : j < 32) : x.getLsbD j = (x.toNat % 4294967296).testBit j := by
  unfold BitVec.getLsbD
  rw [show (4294967296 : Nat) = 2 ^ 32 from rfl, Nat.testBit_mod_two_pow]
  simp [hj]
theorem addc_bit (y : BitVec 64) (j : Nat) (hj : j < 32) : (y + 4294967296#64).getLsbD j = y.getLsbD j := by
  rw [low_bit _ j hj, low_bit _ j hj]
  have e : (y + 4294967296#64).toNat % 4294967296 = y.toNat % 4294967296 := by
    rw [BitVec.toNat_add]
    have : (4294967296#64).toNat = 4294967296 := by decide +kernel
    omega
  rw [e]
/-- How often a word was changed. -/
def chg (x : BitVec 64) : Nat := x.toNat / 4294967296
theorem chg_lt (x : BitVec 64) : chg x < 4294967296 := by have := x.isLt; unfold chg; omega
theorem addc_chg (y : BitVec 64) : chg (y + 4294967296#64) = (chg y + 1) % 4294967296 := by
  have := y.isLt
  unfold chg
  rw [BitVec.toNat_add]
  have : (4294967296#64).toNat = 4294967296 := by decide +kernel
  omega
theorem chg_eq {x y : BitVec 64} (h : ∀ j, 32 ≤ j → x.getLsbD j = y.getLsbD j) : chg x = chg y := by
  have : x >>> 32 = y >>> 32 := by
    apply BitVec.eq_of_getLsbD_eq
    intro j hj
    rw [BitVec.getLsbD_ushiftRight, BitVec.getLsbD_ushiftRight]
    exact h _ (by omega)
  have h2 := congrArg BitVec.toNat this
  rw [BitVec.toNat_ushiftRight, BitVec.toNat_ushiftRight, Nat.shiftRight_eq_div_pow, Nat.shiftRight_eq_div_pow] at h2
  exact h2
def claim (x : BitVec 64) (b : Nat) : BitVec 64 := (x ||| BitVec.twoPow 64 b) + 4294967296#64
def drop (x : BitVec 64) (b : Nat) : BitVec 64 := (x &&& ~~~BitVec.twoPow 64 b) + 4294967296#64
theorem claim_chg (x : BitVec 64) {b : Nat} (hb : b < 32) : chg (claim x b) = (chg x + 1) % 4294967296 := by
  unfold claim
  rw [addc_chg, chg_eq (x := x ||| BitVec.twoPow 64 b) (y := x)]
  intro j hj
  rw [BitVec.getLsbD_or, BitVec.getLsbD_twoPow]
  have : ¬ b = j := by omega
  simp [this]
theorem drop_chg (x : BitVec 64) {b : Nat} (hb : b < 32) : chg (drop x b) = (chg x + 1) % 4294967296 := by
  unfold drop
  rw [addc_chg, chg_eq (x := x &&& ~~~BitVec.twoPow 64 b) (y := x)]
  intro j hj
  rw [BitVec.getLsbD_and, BitVec.getLsbD_not, BitVec.getLsbD_twoPow]
  have : ¬ b = j := by omega
  by_cases h : j < 64
  · simp [this, h]
  · rw [BitVec.getLsbD_of_ge x j (by omega)]; simp
theorem claim_bit (x : BitVec 64) {b j : Nat} (hj : j < 32) : (claim x b).getLsbD j = (x.getLsbD j || decide (b = j)) := by
  unfold claim
  rw [addc_bit _ j hj, BitVec.getLsbD_or, BitVec.getLsbD_twoPow]
  by_cases h : b = j
  · subst h; simp [show b < 64 by omega]
  · simp [h]
theorem drop_bit (x : BitVec 64) {b j : Nat} (hj : j < 32) : (drop x b).getLsbD j = (x.getLsbD j && !decide (b = j)) := by
  unfold drop
  rw [addc_bit _ j hj, BitVec.getLsbD_and, BitVec.getLsbD_not, BitVec.getLsbD_twoPow]
  by_cases h : b = j
  · subst h; simp [show b < 64 by omega]
  · have : j < 64 := by omega
    simp [h, this]
theorem ne_of_chg {x y : BitVec 64} (h : chg x ≠ chg y) : x ≠ y := fun e => h (by rw [e])
theorem full_iff (x : BitVec 64) : (cnt x 32 = 32) ↔ ∀ j, j < 32 → x.getLsbD j = true := by
  constructor
  · intro h j hj
    cases hg : x.getLsbD j with
    | true => rfl
    | false => have := cnt_lt x 32 j hj hg; omega
  · exact cnt_all x 32
theorem full_mod (x : BitVec 64) : (cnt x 32 = 32) ↔ x.toNat % 4294967296 = 4294967295 := by
  rw [full_iff]
  constructor
  · intro h
    apply Nat.eq_of_testBit_eq
    intro j
    rw [show (4294967295 : Nat) = 2 ^ 32 - 1 from rfl, Nat.testBit_two_pow_sub_one]
    by_cases hj : j < 32
    · rw [← low_bit x j hj, h j hj]; simp [hj]
    · rw [show (4294967296 : Nat) = 2 ^ 32 from rfl, Nat.testBit_mod_two_pow]; simp [hj]
  · intro h j hj
    rw [low_bit x j hj, h, show (4294967295 : Nat) = 2 ^ 32 - 1 from rfl, Nat.testBit_two_pow_sub_one]
    simp [hj]

theorem Used_eq (x : BitVec 64) {i : Int} (h0 : 0 ≤ i) (h1 : i < 64) : word_Used.f (U x) i = some (x.getLsbD i.toNat) := by
  unfold word_Used.f; rw [Has_eq x h0 h1]; rfl
theorem Changes_eq (x : BitVec 64) : word_Changes.f (U x) = some ((chg x : Nat) : Int) := by
  unfold word_Changes.f chg U
  have := x.isLt
  congr 1; omega
theorem Claim_eq (x : BitVec 64) {i : Int} (h0 : 0 ≤ i) (h1 : i < 64) : word_Claim.f (U x) i = some (U (claim x i.toNat)) := by
  unfold word_Claim.f claim; rw [Set_eq x h0 h1, Option.bind_some, addc_U]
theorem Drop_eq (x : BitVec 64) {i : Int} (h0 : 0 ≤ i) (h1 : i < 64) : word_Drop.f (U x) i = some (U (drop x i.toNat)) := by
  unfold word_Drop.f drop; rw [Clear_eq x h0 h1, Option.bind_some, addc_U]

theorem Full_eq (x : BitVec 64) {k : Nat} (hk : 70 ≤ k) : word_Full.f k (U x) = some (decide (cnt x 32 = 32)) := by
  unfold word_Full.f
  rw [Count_eq x (by omega) (by omega) hk, Option.bind_some, show (32 : Int).toNat = 32 from rfl]
  congr 1
  rw [Bool.eq_iff_iff, beq_iff_eq, decide_eq_true_eq]
  omega

theorem awake_true {k : Nat} (hk : 2000 ≤ k) : lodgerlaw07_awake.f k = some true := at_rounds lodgerlaw07_awake.mono hk (by decide +kernel)
theorem WordClaims : lodgerlaw07_WordClaims.Pure := by
  intro a0 a1 a2 w0 w1 w2
  have b0 := wf_u64 w0
  have b1 := wf_u8 w1
  have b2 := wf_u8 w2
  refine ⟨3000, ?_⟩
  generalize hK : 3000 = k
  have hk : 3000 ≤ k := by omega
  clear hK
  obtain ⟨x, rfl⟩ := U_of b0.1 b0.2
  have e1 : wrap64 (Int.tmod a1 32) = a1 % 32 := by rw [tm (by omega), w64 (by omega) (by omega)]
  have e2 : wrap64 (Int.tmod a2 32) = a2 % 32 := by rw [tm (by omega), w64 (by omega) (by omega)]
  unfold lodgerlaw07_WordClaims.f
  rw [awake_true (by omega), Option.bind_some, if_pos rfl, e1, e2]
  have h1 : 0 ≤ a1 % 32 ∧ a1 % 32 < 32 := by omega
  have h2 : 0 ≤ a2 % 32 ∧ a2 % 32 < 32 := by omega
  generalize a1 % 32 = i at h1
  generalize a2 % 32 = q at h2
  have c0 := chg_lt x
  have c1 := claim_chg x (b := i.toNat) (by omega)
  have c2 := drop_chg (claim x i.toNat) (b := i.toNat) (by omega)
  have c3 := claim_chg (claim x i.toNat) (b := i.toNat) (by omega)
  have hj1 : ∀ n : Nat, 100 ≤ n → lodgerlaw07_WordClaims.j1 n (U x) i (U (claim x i.toNat)) (U (drop (claim x i.toNat) i.toNat)) false = some true := by
    intro n hn
    obtain ⟨n, rfl⟩ : ∃ z, n = z + 1 := ⟨n - 1, by omega⟩
    simp only [lodgerlaw07_WordClaims.j1]
    rw [if_neg (by simp), if_neg (fun e => ne_of_chg (by omega) (U_inj e)), if_neg (fun e => ne_of_chg (by omega) (U_inj e)), if_neg (fun e => ne_of_chg (by omega) (U_inj e)), Claim_eq _ h1.1 (by omega), Option.bind_some,
      if_neg (fun e => ne_of_chg (by omega) (U_inj e)), Full_eq _ (by omega), Option.bind_some]
    by_cases hf : cnt (claim x i.toNat) 32 = 32
    · rw [decide_eq_true hf, if_pos rfl]
    · rw [decide_eq_false hf, if_neg (by simp), Full_eq _ (by omega), Option.bind_some, decide_eq_false]
      · rfl
      · intro h
        apply hf
        rw [full_iff] at h ⊢
        intro j hj
        rw [claim_bit x hj, h j hj]; rfl
  rw [Claim_eq x h1.1 (by omega), Option.bind_some, Drop_eq _ h1.1 (by omega), Option.bind_some, Used_eq _ h1.1 (by omega), Option.bind_some, claim_bit x (by omega), if_pos (by simp), Used_eq _ h1.1 (by omega), Option.bind_some, drop_bit _ (by omega), if_neg (by simp),
    Changes_eq, Option.bind_some, Changes_eq, Option.bind_some, c1, if_pos (by omega), Changes_eq, Option.bind_some, Option.bind_some, c2, c1]
  rw [show (((((chg x + 1) % 4294967296 + 1) % 4294967296 : Nat) : Int) != ((chg x : Int) + 2) % 4294967296) = false by rw [bne_eq_false_iff_eq]; omega]
  obtain ⟨k, rfl⟩ : ∃ z, k = z + 1 := ⟨k - 1, by omega⟩
  simp only [lodgerlaw07_WordClaims.j0]
  rw [if_neg (by simp)]
  by_cases e : i = q
  · rw [if_pos e, hj1 k (by omega)]
  · have hne : ¬ i.toNat = q.toNat := by omega
    rw [if_neg e, Used_eq _ h2.1 (by omega), Option.bind_some, Used_eq _ h2.1 (by omega), Option.bind_some, claim_bit x (by omega), if_neg (by simp [hne]), Used_eq _ h2.1 (by omega), Option.bind_some, Option.bind_some, drop_bit _ (by omega), claim_bit x (by omega)]
    rw [show ((x.getLsbD q.toNat || decide (i.toNat = q.toNat)) && !decide (i.toNat = q.toNat)) = x.getLsbD q.toNat by simp [hne], show (x.getLsbD q.toNat != x.getLsbD q.toNat) = false by simp, hj1 k (by omega)]

end Go.Proofs.Ytdbpdpdpabhfbaa.Pure
