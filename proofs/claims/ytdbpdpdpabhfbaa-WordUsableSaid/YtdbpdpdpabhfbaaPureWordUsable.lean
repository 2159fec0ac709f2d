/- WordUsable answers true at every input: of the first cells as many bits aren't set as offsets are usable, and just their bits; no condition. -/
import Derived.Test.YtdbpdpdpabhfbaaQWordUsablex7
namespace Go.Proofs.Ytdbpdpdpabhfbaa.Pure
open Go.RowKit Go.Proofs.Ytdbpdpdpabhfbaa.PWordUsable Go.Proofs.YtdbpdpdpabhfbaaW.PrintWords Go.Proofs.YtdbpdpdpabhfbaaW.PrintLast Go.Proofs.YtdbpdpdpabhfbaaW.PrintMore
set_option linter.unusedVariables false
set_option linter.unusedSimpArgs false

theorem w64 {x : Int} (h1 : -9223372036854775808 ≤ x) (h2 : x ≤ 9223372036854775807) : wrap64 x = x := by unfold wrap64; omega
theorem td {a b : Int} (h : 0 ≤ a) : Int.tdiv a b = a / b := Int.tdiv_eq_ediv_of_nonneg h
theorem tm {a b : Int} (h : 0 ≤ a) : Int.tmod a b = a % b := Int.tmod_eq_emod_of_nonneg h
theorem more {k N : Nat} (h : N + 1 ≤ k) : ∃ m, k = m + 1 ∧ N ≤ m := ⟨k - 1, by omega, by omega⟩
theorem wf_u16 {a : Int} (h : (Lit.int .u16 a).wf = true) : 0 ≤ a ∧ a ≤ 65535 := by
  simp [Lit.wf, IntKind.min, IntKind.max, IntKind.signed, IntKind.bits] at h
  omega
theorem wf_u8 {a : Int} (h : (Lit.int .u8 a).wf = true) : 0 ≤ a ∧ a ≤ 255 := by
  simp [Lit.wf, IntKind.min, IntKind.max, IntKind.signed, IntKind.bits] at h
  omega
theorem wf_u32 {a : Int} (h : (Lit.int .u32 a).wf = true) : 0 ≤ a ∧ a ≤ 4294967295 := by
  simp [Lit.wf, IntKind.min, IntKind.max, IntKind.signed, IntKind.bits] at h
  omega
theorem wf_u64 {a : Int} (h : (Lit.int .u64 a).wf = true) : 0 ≤ a ∧ a ≤ 18446744073709551615 := by
  simp [Lit.wf, IntKind.min, IntKind.max, IntKind.signed, IntKind.bits] at h
  omega
theorem wf_i64 {a : Int} (h : (Lit.int .i64 a).wf = true) : -9223372036854775808 ≤ a ∧ a ≤ 9223372036854775807 := by
  simp [Lit.wf, IntKind.min, IntKind.max, IntKind.signed, IntKind.bits] at h
  omega

/-- A word, as the machine's number. -/
def U (x : BitVec 64) : Int := (x.toNat : Int)
theorem U_lt (x : BitVec 64) : 0 ≤ U x ∧ U x < 18446744073709551616 := by have := x.isLt; unfold U; omega
theorem U_of {a : Int} (h0 : 0 ≤ a) (h1 : a ≤ 18446744073709551615) : ∃ x : BitVec 64, a = U x := by
  refine ⟨BitVec.ofNat 64 a.toNat, ?_⟩
  unfold U
  rw [BitVec.toNat_ofNat, Nat.mod_eq_of_lt (by omega)]
  omega
theorem U_inj {x y : BitVec 64} (h : U x = U y) : x = y := by unfold U at h; exact BitVec.eq_of_toNat_eq (by omega)
theorem U_eq {x y : BitVec 64} : (U x == U y) = (x == y) := by
  rw [Bool.eq_iff_iff, beq_iff_eq, beq_iff_eq]; exact ⟨U_inj, fun h => by rw [h]⟩
theorem wrapu (n : Int) : IntKind.u64.wrap n = n % 18446744073709551616 := by simp [IntKind.wrap, IntKind.bits, IntKind.signed]
theorem wrapu_small {n : Int} (h0 : 0 ≤ n) (h1 : n < 18446744073709551616) : IntKind.u64.wrap n = n := by rw [wrapu]; omega
theorem wrapu_U (x : BitVec 64) : IntKind.u64.wrap ((x.toNat : Nat) : Int) = U x := by have := x.isLt; unfold U; rw [wrapu]; omega
theorem ofInt_U (x : BitVec 64) : BitVec.ofInt 64 (U x) = x := by unfold U; rw [BitVec.ofInt_natCast]; simp
theorem bits_or_U (x y : BitVec 64) : Go.bits .or .u64 (U x) (U y) = U (x ||| y) := by
  show IntKind.u64.wrap ((BitVec.ofInt 64 (U x) ||| BitVec.ofInt 64 (U y)).toNat : Nat) = _
  rw [ofInt_U, ofInt_U, wrapu_U]
theorem bits_and_U (x y : BitVec 64) : Go.bits .and .u64 (U x) (U y) = U (x &&& y) := by
  show IntKind.u64.wrap ((BitVec.ofInt 64 (U x) &&& BitVec.ofInt 64 (U y)).toNat : Nat) = _
  rw [ofInt_U, ofInt_U, wrapu_U]
theorem bits_xor_U (x y : BitVec 64) : Go.bits .xor .u64 (U x) (U y) = U (x ^^^ y) := by
  show IntKind.u64.wrap ((BitVec.ofInt 64 (U x) ^^^ BitVec.ofInt 64 (U y)).toNat : Nat) = _
  rw [ofInt_U, ofInt_U, wrapu_U]
theorem bits_andNot_U (x y : BitVec 64) : Go.bits .andNot .u64 (U x) (U y) = U (x &&& ~~~y) := by
  show IntKind.u64.wrap ((BitVec.ofInt 64 (U x) &&& ~~~BitVec.ofInt 64 (U y)).toNat : Nat) = _
  rw [ofInt_U, ofInt_U, wrapu_U]
theorem shl_U {i : Int} (h0 : 0 ≤ i) (h1 : i < 64) : shl .u64 1 i = U (BitVec.twoPow 64 i.toNat) := by
  unfold shl U
  rw [Nat.min_eq_left (by simp [IntKind.bits]; omega), BitVec.toNat_twoPow, wrapu, Int.one_mul]
  simp
theorem shr_U (x : BitVec 64) {i : Int} (h0 : 0 ≤ i) (h1 : i < 64) : shr .u64 (U x) i = U (x >>> i.toNat) := by
  unfold shr U
  rw [Nat.min_eq_left (by simp [IntKind.bits]; omega), BitVec.toNat_ushiftRight, Nat.shiftRight_eq_div_pow]
  simp
theorem one_U : (1 : Int) = U 1#64 := rfl
theorem bit_U (x : BitVec 64) (i : Nat) : (Go.bits .and .u64 (U (x >>> i)) 1 == 1) = x.getLsbD i := by
  rw [one_U, bits_and_U, U_eq, Bool.eq_iff_iff, beq_iff_eq]
  constructor
  · intro h
    have := congrArg (fun z => z.getLsbD 0) h
    simpa using this
  · intro h
    apply BitVec.eq_of_getLsbD_eq
    intro j hj
    rw [BitVec.getLsbD_and, BitVec.getLsbD_one, BitVec.getLsbD_ushiftRight]
    by_cases hz : j = 0
    · subst hz; simp [h]
    · simp [hz]
theorem bitn_U (x : BitVec 64) (i : Nat) : Go.bits .and .u64 (U (x >>> i)) 1 = (if x.getLsbD i = true then 1 else 0) := by
  have h := bit_U x i
  have hb : Go.bits .and .u64 (U (x >>> i)) 1 = 0 ∨ Go.bits .and .u64 (U (x >>> i)) 1 = 1 := by
    rw [one_U, bits_and_U]
    unfold U
    rw [BitVec.toNat_and]
    have : (x >>> i).toNat &&& (1#64).toNat ≤ 1 := Nat.and_le_right
    simp at this ⊢
    omega
  split
  · rename_i hg; rw [hg] at h; exact eq_of_beq h
  · rename_i hg
    rcases hb with hb | hb
    · exact hb
    · rw [hb] at h; exact absurd h.symm hg
/-- The word of the lowest bits. -/
def mask (n : Nat) : BitVec 64 := BitVec.ofNat 64 (2 ^ n - 1)
theorem mask_bit (n j : Nat) (hj : j < 64) : (mask n).getLsbD j = decide (j < n) := by
  unfold mask
  rw [BitVec.getLsbD_ofNat, Nat.testBit_two_pow_sub_one]
  simp [hj]
/-- How many of the first n bits are set. -/
def cnt (x : BitVec 64) : Nat → Nat
  | 0 => 0
  | n + 1 => cnt x n + (if x.getLsbD n = true then 1 else 0)
theorem cnt_le (x : BitVec 64) (n : Nat) : cnt x n ≤ n := by
  induction n with
  | zero => simp [cnt]
  | succ n ih => simp only [cnt]; split <;> omega
theorem cnt_mono (x : BitVec 64) {n m : Nat} (h : n ≤ m) : cnt x n ≤ cnt x m := by
  induction h with
  | refl => omega
  | step _ ih => simp only [cnt]; omega
theorem cnt_all (x : BitVec 64) (n : Nat) (h : ∀ j, j < n → x.getLsbD j = true) : cnt x n = n := by
  induction n with
  | zero => simp [cnt]
  | succ n ih => simp only [cnt]; rw [ih (fun j hj => h j (by omega)), if_pos (h n (by omega))]
theorem cnt_lt (x : BitVec 64) (n i : Nat) (hi : i < n) (h : x.getLsbD i = false) : cnt x n < n := by
  induction n with
  | zero => omega
  | succ n ih =>
    simp only [cnt]
    by_cases he : i = n
    · subst he; rw [h]; have := cnt_le x i; simp; omega
    · have := ih (by omega); split <;> omega
theorem cnt_congr (x y : BitVec 64) (n : Nat) (h : ∀ j, j < n → x.getLsbD j = y.getLsbD j) : cnt x n = cnt y n := by
  induction n with
  | zero => simp [cnt]
  | succ n ih => simp only [cnt]; rw [ih (fun j hj => h j (by omega)), h n (by omega)]
theorem cnt_set (x : BitVec 64) (n i : Nat) (hi : i < n) (hn : n ≤ 64) (h : x.getLsbD i = false) : cnt (x ||| BitVec.twoPow 64 i) n = cnt x n + 1 := by
  induction n with
  | zero => omega
  | succ n ih =>
    simp only [cnt, BitVec.getLsbD_or, BitVec.getLsbD_twoPow]
    by_cases he : i = n
    · subst he
      rw [cnt_congr (x ||| BitVec.twoPow 64 i) x i (fun j hj => by simp [BitVec.getLsbD_or, BitVec.getLsbD_twoPow]; omega), h]
      simp; omega
    · rw [ih (by omega) (by omega)]
      simp [he]; omega

/-- How many addresses a block of this prefix has. -/
def M (p : Int) : Int := 2 ^ (32 - p).toNat
theorem p_cases {p : Int} (h1 : 16 ≤ p) (h2 : p ≤ 32) : p = 16 ∨ p = 17 ∨ p = 18 ∨ p = 19 ∨ p = 20 ∨ p = 21 ∨ p = 22 ∨ p = 23 ∨ p = 24 ∨ p = 25 ∨ p = 26 ∨ p = 27 ∨ p = 28 ∨ p = 29 ∨ p = 30 ∨ p = 31 ∨ p = 32 := by omega
theorem M_bounds {p : Int} (h1 : 16 ≤ p) (h2 : p ≤ 32) : 1 ≤ M p ∧ M p ≤ 65536 := by
  rcases p_cases h1 h2 with rfl | rfl | rfl | rfl | rfl | rfl | rfl | rfl | rfl | rfl | rfl | rfl | rfl | rfl | rfl | rfl | rfl <;> decide
theorem M_fits {p B : Int} (h1 : 16 ≤ p) (h2 : p ≤ 32) (hB0 : 0 ≤ B) (hB1 : B ≤ 4294967295) (hm : B % M p = 0) : B + M p ≤ 4294967296 := by
  rcases p_cases h1 h2 with rfl | rfl | rfl | rfl | rfl | rfl | rfl | rfl | rfl | rfl | rfl | rfl | rfl | rfl | rfl | rfl | rfl
  · rw [show M 16 = 65536 by decide] at *; omega
  · rw [show M 17 = 32768 by decide] at *; omega
  · rw [show M 18 = 16384 by decide] at *; omega
  · rw [show M 19 = 8192 by decide] at *; omega
  · rw [show M 20 = 4096 by decide] at *; omega
  · rw [show M 21 = 2048 by decide] at *; omega
  · rw [show M 22 = 1024 by decide] at *; omega
  · rw [show M 23 = 512 by decide] at *; omega
  · rw [show M 24 = 256 by decide] at *; omega
  · rw [show M 25 = 128 by decide] at *; omega
  · rw [show M 26 = 64 by decide] at *; omega
  · rw [show M 27 = 32 by decide] at *; omega
  · rw [show M 28 = 16 by decide] at *; omega
  · rw [show M 29 = 8 by decide] at *; omega
  · rw [show M 30 = 4 by decide] at *; omega
  · rw [show M 31 = 2 by decide] at *; omega
  · rw [show M 32 = 1 by decide] at *; omega
theorem wraps_u64 (n : Int) (h0 : 0 ≤ n) (h1 : n < 2 ^ 64) : IntKind.u64.wrap n = n := by rw [wrapu]; omega
theorem Many_eq (B : Int) {p : Int} (h1 : 16 ≤ p) (h2 : p ≤ 32) : block_Many.f B p = some (M p) := by
  have hb := M_bounds h1 h2
  unfold block_Many.f
  rw [w64 (x := 32 - p) (by omega) (by omega), wrapu_small (by omega) (by omega), if_pos (by omega)]
  unfold M at hb
  unfold shl M
  rw [Nat.min_eq_left (by simp [IntKind.bits]; omega), Int.one_mul, IntKind.wrap_i64]
  generalize (2 : Int) ^ (32 - p).toNat = q at *
  congr 1; omega
/-- May such a block be? -/
def bmay (B p : Int) : Bool := decide (16 ≤ p ∧ p ≤ 32 ∧ B % M p = 0)

theorem Has_eq (x : BitVec 64) {i : Int} (h0 : 0 ≤ i) (h1 : i < 64) : bits_Has.f (U x) i = some (x.getLsbD i.toNat) := by
  unfold bits_Has.f
  rw [wrapu_small h0 (by omega), if_pos h0, shr_U x h0 h1, bit_U]

theorem Set_eq (x : BitVec 64) {i : Int} (h0 : 0 ≤ i) (h1 : i < 64) : bits_Set.f (U x) i = some (U (x ||| BitVec.twoPow 64 i.toNat)) := by
  unfold bits_Set.f
  rw [wrapu_small h0 (by omega), if_pos h0, shl_U h0 h1, bits_or_U]
theorem Clear_eq (x : BitVec 64) {i : Int} (h0 : 0 ≤ i) (h1 : i < 64) : bits_Clear.f (U x) i = some (U (x &&& ~~~BitVec.twoPow 64 i.toNat)) := by
  unfold bits_Clear.f
  rw [wrapu_small h0 (by omega), if_pos h0, shl_U h0 h1, bits_andNot_U]

theorem First_l0 (x : BitVec 64) {n : Int} (h1 : n ≤ 64) (d : Nat) : ∀ (i : Int), 0 ≤ i → i ≤ n → n - i = d → (∀ j : Nat, j < i.toNat → x.getLsbD j = true) →
    (∃ a : Nat, a < n ∧ x.getLsbD a = false ∧ (∀ j : Nat, j < a → x.getLsbD j = true) ∧ ∀ k, d < k → bits_First.l0 k (U x) n i = some ((a : Int), true)) ∨
    ((∀ j : Nat, j < n → x.getLsbD j = true) ∧ ∀ k, d < k → bits_First.l0 k (U x) n i = some (0, false)) := by
  induction d with
  | zero =>
    intro i hi0 hi1 hd hb
    refine .inr ⟨fun j hj => hb j (by omega), fun k hk => ?_⟩
    obtain ⟨k, rfl⟩ : ∃ m, k = m + 1 := ⟨k - 1, by omega⟩
    simp only [bits_First.l0]; rw [if_neg (by omega)]
  | succ d ih =>
    intro i hi0 hi1 hd hb
    cases hg : x.getLsbD i.toNat with
    | false =>
      refine .inl ⟨i.toNat, by omega, hg, hb, fun k hk => ?_⟩
      obtain ⟨k, rfl⟩ : ∃ m, k = m + 1 := ⟨k - 1, by omega⟩
      simp only [bits_First.l0]; rw [if_pos (by omega), Has_eq x (by omega) (by omega), Option.bind_some, hg, if_neg (by simp), Int.toNat_of_nonneg hi0]
    | true =>
      have hs : ∀ k, d + 1 < k + 1 → bits_First.l0 (k + 1) (U x) n i = bits_First.l0 k (U x) n (i + 1) := by
        intro k hk
        simp only [bits_First.l0]; rw [if_pos (by omega), Has_eq x (by omega) (by omega), Option.bind_some, hg, if_pos rfl, w64 (by omega) (by omega)]
      have hb' : ∀ j : Nat, j < (i + 1).toNat → x.getLsbD j = true := by
        intro j hj
        by_cases he : j = i.toNat
        · subst he; exact hg
        · exact hb j (by omega)
      rcases ih (i + 1) (by omega) (by omega) (by omega) hb' with ⟨a, h2, h3, h4, h5⟩ | ⟨h2, h3⟩
      · refine .inl ⟨a, h2, h3, h4, fun k hk => ?_⟩
        obtain ⟨k, rfl⟩ : ∃ m, k = m + 1 := ⟨k - 1, by omega⟩
        rw [hs k (by omega)]; exact h5 k (by omega)
      · refine .inr ⟨h2, fun k hk => ?_⟩
        obtain ⟨k, rfl⟩ : ∃ m, k = m + 1 := ⟨k - 1, by omega⟩
        rw [hs k (by omega)]; exact h3 k (by omega)
theorem First_eq (x : BitVec 64) {n : Int} (h0 : 0 ≤ n) (h1 : n ≤ 64) :
    (∃ a : Nat, a < n ∧ x.getLsbD a = false ∧ (∀ j : Nat, j < a → x.getLsbD j = true) ∧ ∀ k, 70 ≤ k → bits_First.f k (U x) n = some ((a : Int), true)) ∨
    ((∀ j : Nat, j < n → x.getLsbD j = true) ∧ ∀ k, 70 ≤ k → bits_First.f k (U x) n = some (0, false)) := by
  unfold bits_First.f
  rcases First_l0 x h1 n.toNat 0 (by omega) (by omega) (by omega) (fun j hj => by omega) with ⟨a, h2, h3, h4, h5⟩ | ⟨h2, h3⟩
  · exact .inl ⟨a, h2, h3, h4, fun k hk => h5 k (by omega)⟩
  · exact .inr ⟨h2, fun k hk => h3 k (by omega)⟩

theorem Count_l0 (x : BitVec 64) {n : Int} (h1 : n ≤ 64) (d : Nat) : ∀ (k : Nat) (i : Int), 0 ≤ i → i ≤ n → n - i = d → d < k → bits_Count.l0 k (U x) (cnt x i.toNat) n i = some (cnt x n.toNat : Int) := by
  induction d with
  | zero =>
    intro k i hi0 hi1 hd hk
    obtain ⟨k, rfl⟩ : ∃ m, k = m + 1 := ⟨k - 1, by omega⟩
    simp only [bits_Count.l0]; rw [if_neg (by omega)]; congr 2; congr 1; omega
  | succ d ih =>
    intro k i hi0 hi1 hd hk
    obtain ⟨k, rfl⟩ : ∃ m, k = m + 1 := ⟨k - 1, by omega⟩
    have hc := cnt_le x i.toNat
    simp only [bits_Count.l0]
    rw [if_pos (by omega), wrapu_small (n := i) (by omega) (by omega), if_pos (by omega), shr_U x (by omega) (by omega), bitn_U, w64 (x := i + 1) (by omega) (by omega),
      w64 (x := if x.getLsbD i.toNat = true then 1 else 0) (by split <;> omega) (by split <;> omega), w64 (by split <;> omega) (by split <;> omega)]
    have := ih k (i + 1) (by omega) (by omega) (by omega) (by omega)
    rw [show (i + 1).toNat = i.toNat + 1 by omega] at this
    simp only [cnt] at this
    rw [← this]
    congr 1
    split <;> omega
theorem Count_eq (x : BitVec 64) {n : Int} (h0 : 0 ≤ n) (h1 : n ≤ 64) {k : Nat} (hk : 70 ≤ k) : bits_Count.f k (U x) n = some (cnt x n.toNat : Int) := by
  unfold bits_Count.f
  exact Count_l0 x h1 n.toNat k 0 (by omega) (by omega) (by omega) (by omega)

theorem Mask_eq {n : Int} (h0 : 0 ≤ n) (h1 : n ≤ 64) : bits_Mask.f n = some (U (mask n.toNat)) := by
  unfold bits_Mask.f
  rw [wrapu_small h0 (by omega), if_pos h0]
  congr 1
  unfold mask U shl
  have hp : 0 < 2 ^ n.toNat := Nat.two_pow_pos _
  have hq : 2 ^ n.toNat ≤ 2 ^ 64 := Nat.pow_le_pow_right (by decide) (by omega)
  rw [Nat.min_eq_left (by simp [IntKind.bits]; omega), BitVec.toNat_ofNat, wrapu, wrapu, Nat.mod_eq_of_lt (by omega), Int.one_mul]
  rw [show ((2 : Int) ^ n.toNat) = ((2 ^ n.toNat : Nat) : Int) by simp]
  generalize 2 ^ n.toNat = P at *
  omega

theorem Leaf_eq {o : Int} (h0 : 0 ≤ o) (h1 : o ≤ 1000000000000) : place_Leaf.f o = some (o / 32, o % 32) := by
  unfold place_Leaf.f; rw [td h0, tm h0, w64 (by omega) (by omega)]
theorem up32 {n : Int} (h0 : 0 ≤ n) (h1 : n ≤ 1000000000000) : place_up_int.f n 32 = some ((n + 31) / 32) := by
  unfold place_up_int.f
  rw [if_neg (by omega), w64 (x := n + 32) (by omega) (by omega), w64 (x := n + 32 - 1) (by omega) (by omega), td (by omega), w64 (by omega) (by omega)]
  congr 1; omega
theorem up64 {n : Int} (h0 : 0 ≤ n) (h1 : n ≤ 1000000000000) : place_up_int.f n 64 = some ((n + 63) / 64) := by
  unfold place_up_int.f
  rw [if_neg (by omega), w64 (x := n + 64) (by omega) (by omega), w64 (x := n + 64 - 1) (by omega) (by omega), td (by omega), w64 (by omega) (by omega)]
  congr 1; omega
theorem Leaves_eq {n : Int} (h0 : 0 ≤ n) (h1 : n ≤ 1000000000000) : place_Leaves.f n = some ((n + 31) / 32) := by
  unfold place_Leaves.f; rw [up32 h0 h1]; rfl
theorem Tops_eq {n : Int} (h0 : 0 ≤ n) (h1 : n ≤ 1000000000000) : place_Tops.f n = some (((n + 31) / 32 + 63) / 64) := by
  unfold place_Tops.f; rw [Leaves_eq h0 h1, Option.bind_some, up64 (by omega) (by omega)]; rfl
theorem Cells_eq {n : Int} (h0 : 0 ≤ n) (h1 : n ≤ 1000000000000) : place_Cells.f n = some ((n + 31) / 32 + ((n + 31) / 32 + 63) / 64 + 1) := by
  unfold place_Cells.f; rw [Leaves_eq h0 h1, Option.bind_some, Tops_eq h0 h1, Option.bind_some, w64 (x := (n + 31) / 32 + ((n + 31) / 32 + 63) / 64) (by omega) (by omega), w64 (by omega) (by omega)]
theorem Top_eq {n l : Int} (h0 : 0 ≤ n) (h1 : n ≤ 1000000000000) (h2 : 0 ≤ l) (h3 : l ≤ 1000000000000) : place_Top.f n l = some ((n + 31) / 32 + l / 64, l % 64) := by
  unfold place_Top.f; rw [Leaves_eq h0 h1, Option.bind_some, td h2, tm h2, w64 (x := l / 64) (by omega) (by omega), w64 (by omega) (by omega)]
theorem Root_eq {n l : Int} (h0 : 0 ≤ n) (h1 : n ≤ 1000000000000) (h2 : 0 ≤ l) (h3 : l ≤ 1000000000000) : place_Root.f n l = some ((n + 31) / 32 + ((n + 31) / 32 + 63) / 64, l / 64) := by
  unfold place_Root.f; rw [Cells_eq h0 h1, Option.bind_some, td h2, w64 (x := l / 64) (by omega) (by omega), w64 (by omega) (by omega)]
  congr 2; omega
theorem Width_eq {n l : Int} (h0 : 0 ≤ n) (h1 : n ≤ 1000000000000) (h2 : 0 ≤ l) (h3 : l ≤ 1000000000000) : place_Width.f n l = some (mn 32 (n - l * 32)) := by
  unfold place_Width.f; rw [w64 (x := l * 32) (by omega) (by omega), w64 (by omega) (by omega)]

theorem rd_mid (pre xs : List Int) (x : Int) : rd (pre ++ x :: xs) (pre.length : Int) = x := by simp [rd]

/-- Does a list rise, from behind a number on, below a bound? -/
def rises (last m : Int) : List Int → Bool
  | [] => true
  | x :: xs => decide (last < x) && decide (x < m) && rises x m xs
/-- What a configuration's numbers must be. -/
def chead (B p : Int) (l : List Int) (s w q t : Int) : Bool := decide (16 ≤ p ∧ p ≤ 32 ∧ B % M p = 0 ∧ (l.length : Int) ≤ 64 ∧ 1 ≤ s ∧ s ≤ 64 ∧ 1 ≤ w ∧ w ≤ 64 ∧ 1 ≤ q ∧ q ≤ 64 ∧ 1 ≤ t ∧ t ≤ 8)
/-- May such a configuration be? -/
def cmay (B p : Int) (l : List Int) (s w q t : Int) : Bool := chead B p l s w q t && rises (-1) (M p) l
theorem cmay_head {B p : Int} {l : List Int} {s w q t : Int} (h : cmay B p l s w q t = true) : 16 ≤ p ∧ p ≤ 32 ∧ B % M p = 0 ∧ (l.length : Int) ≤ 64 ∧ 1 ≤ s ∧ s ≤ 64 ∧ 1 ≤ w ∧ w ≤ 64 ∧ 1 ≤ q ∧ q ≤ 64 ∧ 1 ≤ t ∧ t ≤ 8 := by
  unfold cmay chead at h
  rw [Bool.and_eq_true, decide_eq_true_eq] at h
  exact h.1
theorem cmay_rises {B p : Int} {l : List Int} {s w q t : Int} (h : cmay B p l s w q t = true) : rises (-1) (M p) l = true := by
  unfold cmay at h
  rw [Bool.and_eq_true] at h
  exact h.2

theorem rises_bounds {last m : Int} {l : List Int} (h : rises last m l = true) : ∀ x ∈ l, last < x ∧ x < m := by
  induction l generalizing last with
  | nil => intro x hx; cases hx
  | cons y ys ih =>
    simp only [rises, Bool.and_eq_true, decide_eq_true_eq] at h
    intro x hx
    rcases List.mem_cons.1 hx with rfl | hx
    · exact h.1
    · have := ih h.2 x hx
      omega
theorem rises_drop {last m : Int} {xs ys : List Int} {y : Int} (h : rises last m (xs ++ y :: ys) = true) : rises last m (xs ++ ys) = true := by
  induction xs generalizing last with
  | nil =>
    simp only [List.nil_append, rises, Bool.and_eq_true, decide_eq_true_eq] at h ⊢
    cases ys with
    | nil => rfl
    | cons z zs =>
      simp only [rises, Bool.and_eq_true, decide_eq_true_eq] at h ⊢
      exact ⟨⟨by omega, h.2.1.2⟩, h.2.2⟩
  | cons x xs ih =>
    simp only [List.cons_append, rises, Bool.and_eq_true] at h ⊢
    exact ⟨h.1, ih h.2⟩
theorem rises_notin {last m : Int} {xs ys : List Int} {y : Int} (h : rises last m (xs ++ y :: ys) = true) : y ∉ xs ++ ys := by
  induction xs generalizing last with
  | nil =>
    simp only [List.nil_append, rises, Bool.and_eq_true, decide_eq_true_eq] at h ⊢
    intro hy
    have := rises_bounds h.2 y hy
    omega
  | cons x xs ih =>
    simp only [List.cons_append, rises, Bool.and_eq_true] at h ⊢
    have h1 := rises_bounds h.2 y (by simp)
    intro hy
    rcases List.mem_cons.1 hy with rfl | hy
    · omega
    · exact ih h.2 hy
/-- How many of a list lie below a number. -/
def below (l : List Int) (n : Int) : Nat := (l.filter (fun x => decide (x < n))).length
theorem below_le (l : List Int) (n : Int) : below l n ≤ l.length := List.length_filter_le _ _
theorem below_all {l : List Int} {n : Int} (h : ∀ x ∈ l, x < n) : below l n = l.length := by
  unfold below
  rw [List.filter_eq_self.2 (fun x hx => by simpa using h x hx)]
theorem below_none {l : List Int} {n : Int} (h : ∀ x ∈ l, n ≤ x) : below l n = 0 := by
  unfold below
  rw [List.filter_eq_nil_iff.2 (fun x hx => by have := h x hx; simp; omega)]; rfl
theorem below_succ {last m : Int} {l : List Int} (h : rises last m l = true) (n : Int) : below l (n + 1) = below l n + (if n ∈ l then 1 else 0) := by
  induction l generalizing last with
  | nil => simp [below]
  | cons x xs ih =>
    simp only [rises, Bool.and_eq_true, decide_eq_true_eq] at h
    have h2 := ih h.2
    have hb := rises_bounds h.2
    unfold below at h2 ⊢
    simp only [List.filter_cons]
    by_cases c1 : x < n
    · have : ¬ n = x := by omega
      simp only [show x < n + 1 by omega, c1, decide_true, if_true, List.length_cons, List.mem_cons, this, false_or]
      omega
    · by_cases c2 : x = n
      · subst c2
        have hn : x ∉ xs := fun hx => by have := (hb x hx).1; omega
        simp only [show x < x + 1 by omega, show ¬ x < x by omega, decide_true, decide_false, if_true, List.length_cons, List.mem_cons, true_or, if_neg hn] at h2 ⊢
        simp; omega
      · have : ¬ n = x := fun e => c2 e.symm
        simp only [show ¬ x < n + 1 by omega, c1, decide_false, List.mem_cons, this, false_or]
        simpa using h2

theorem ref04Many_eq {p : Int} (h1 : 16 ≤ p) (h2 : p ≤ 32) {k : Nat} (hk : 20 ≤ k) : lodgerref04_Many.f k p = some (M p) := by
  rcases p_cases h1 h2 with rfl | rfl | rfl | rfl | rfl | rfl | rfl | rfl | rfl | rfl | rfl | rfl | rfl | rfl | rfl | rfl | rfl <;> exact at_rounds (fun k => lodgerref04_Many.mono _ k) hk (by decide +kernel)
theorem ref04May_eq {B p : Int} (hB0 : 0 ≤ B) (hB1 : B ≤ 4294967295) {k : Nat} (hk : 20 ≤ k) : lodgerref04_May.f k B p = some (bmay B p) := by
  unfold lodgerref04_May.f bmay
  by_cases c1 : p ≥ 16
  · rw [if_pos c1]
    by_cases c2 : p ≤ 32
    · have hb := M_bounds (p := p) (by omega) (by omega)
      rw [if_pos c2, ref04Many_eq (by omega) (by omega) hk, Option.bind_some, if_neg (by omega), w64 (by omega) (by omega), tm hB0]
      congr 1
      rw [Bool.eq_iff_iff, beq_iff_eq, decide_eq_true_eq]
      omega
    · rw [if_neg c2, decide_eq_false (by omega)]
  · rw [if_neg c1, decide_eq_false (by omega)]

theorem ref05Many_eq (B : Int) {p : Int} (h1 : 16 ≤ p) (h2 : p ≤ 32) {k : Nat} (hk : 20 ≤ k) : lodgerref05_Many.f k B p = some (M p) := by
  unfold lodgerref05_Many.f; rw [ref04Many_eq h1 h2 hk]; rfl

theorem refMay_l0 (B p : Int) (l : List Int) (s w q t : Int) (hl : l.length ≤ maxLen) (h1 : 16 ≤ p) (h2 : p ≤ 32) : ∀ (xs pre : List Int) (last : Int) (k : Nat), l = pre ++ xs → (pre = [] ∧ last = -1 ∨ (∃ pr, pre = pr ++ [last]) ∧ 0 ≤ last) → xs.length + 30 < k →
    lodgerref05_May.l0 k (pre.length : Int) B p l s w q t = some (rises last (M p) xs) := by
  unfold maxLen at hl
  intro xs
  induction xs with
  | nil =>
    intro pre last k hp hpre hk
    obtain ⟨k, rfl⟩ : ∃ m, k = m + 1 := ⟨k - 1, by omega⟩
    simp only [lodgerref05_May.l0]; rw [if_neg (by rw [hp]; simp)]; rfl
  | cons x xs ih =>
    intro pre last k hp hpre hk
    simp only [List.length_cons] at hk
    obtain ⟨k, rfl⟩ : ∃ m, k = m + 1 := ⟨k - 1, by omega⟩
    have hlt : pre.length < l.length := by rw [hp]; simp
    simp only [lodgerref05_May.l0, rises]
    have hx : rd l (pre.length : Int) = x := by rw [hp]; exact rd_mid ..
    rw [if_pos (by omega), if_pos (by omega), hx]
    by_cases c1 : x < 0
    · rw [if_pos c1, decide_eq_false (p := last < x) (by rcases hpre with ⟨_, h⟩ | ⟨_, h⟩ <;> omega)]; rfl
    rw [if_neg c1, ref05Many_eq B h1 h2 (by omega), Option.bind_some]
    by_cases c2 : x ≥ M p
    · rw [if_pos c2, decide_eq_false (p := x < M p) (by omega)]; simp
    have h := ih (pre ++ [x]) x k (by rw [hp]; simp) (.inr ⟨⟨pre, rfl⟩, by omega⟩) (by omega)
    simp only [List.length_append, List.length_cons, List.length_nil, Nat.zero_add, Int.natCast_add, Int.natCast_one] at h
    rw [if_neg c2, decide_eq_true (p := x < M p) (by omega), w64 (x := (pre.length : Int) + 1) (by omega) (by omega), h]
    rcases hpre with ⟨rfl, rfl⟩ | ⟨⟨pr, rfl⟩, h0⟩
    · rw [if_neg (by simp), decide_eq_true (p := -1 < x) (by omega)]; rfl
    · have hy : rd l (((pr ++ [last]).length : Int) - 1) = last := by
        rw [hp]; simp [rd]
      have hl1 : (pr ++ [last]).length = pr.length + 1 := by simp
      rw [if_pos (by omega), w64 (by omega) (by omega), if_pos (by omega), if_pos (by omega), hy]
      by_cases c3 : x ≤ last
      · rw [if_pos c3, decide_eq_false (p := last < x) (by omega)]; rfl
      · rw [if_neg c3, decide_eq_true (p := last < x) (by omega)]; rfl
theorem ref05May_eq {B p : Int} (l : List Int) (s w q t : Int) (hl : l.length ≤ maxLen) (hB0 : 0 ≤ B) (hB1 : B ≤ 4294967295) {k : Nat} (hk : l.length + 40 < k) : lodgerref05_May.f k B p l s w q t = some (cmay B p l s w q t) := by
  obtain ⟨k, rfl⟩ : ∃ m, k = m + 1 := ⟨k - 1, by omega⟩
  have hj : lodgerref05_May.j0 (k + 1) true B p l s w q t = some false := by simp only [lodgerref05_May.j0, ↓reduceIte]
  unfold lodgerref05_May.f cmay
  rw [ref04May_eq hB0 hB1 (by omega), Option.bind_some]
  by_cases h : chead B p l s w q t = true
  · have h' := h
    unfold chead at h'
    rw [decide_eq_true_eq] at h'
    have hb : bmay B p = true := by unfold bmay; rw [decide_eq_true_eq]; omega
    rw [h, hb, if_pos rfl, if_neg (by omega), if_neg (by omega), if_neg (by omega), if_neg (by omega), if_neg (by omega), if_neg (by omega), if_neg (by omega), if_neg (by omega), decide_eq_false (p := t > 8) (by omega)]
    simp only [lodgerref05_May.j0]
    rw [if_neg (by simp)]
    have := refMay_l0 B p l s w q t hl (by omega) (by omega) l [] (-1) k rfl (.inl ⟨rfl, rfl⟩) (by omega)
    rw [show (([] : List Int).length : Int) = 0 from rfl] at this
    rw [this]; rfl
  · rw [Bool.not_eq_true] at h
    rw [h, hj]
    by_cases hb : bmay B p = true
    · rw [hb, if_pos rfl]
      have hb' := hb
      unfold bmay at hb'
      rw [decide_eq_true_eq] at hb'
      unfold chead at h
      rw [decide_eq_false_iff_not] at h
      by_cases c1 : (l.length : Int) > 64
      · rw [if_pos c1]; rfl
      rw [if_neg c1]
      by_cases c2 : s < 1
      · rw [if_pos c2]; rfl
      rw [if_neg c2]
      by_cases c3 : s > 64
      · rw [if_pos c3]; rfl
      rw [if_neg c3]
      by_cases c4 : w < 1
      · rw [if_pos c4]; rfl
      rw [if_neg c4]
      by_cases c5 : w > 64
      · rw [if_pos c5]; rfl
      rw [if_neg c5]
      by_cases c6 : q < 1
      · rw [if_pos c6]; rfl
      rw [if_neg c6]
      by_cases c7 : q > 64
      · rw [if_pos c7]; rfl
      rw [if_neg c7]
      by_cases c8 : t < 1
      · rw [if_pos c8]; rfl
      rw [if_neg c8, decide_eq_true (p := t > 8) (by omega), hj]; rfl
    · rw [if_neg hb]; rfl

theorem refHeld_l0 (B p : Int) (l : List Int) (s w q t : Int) (hl : l.length ≤ maxLen) (a : Int) : ∀ (xs pre : List Int) (k : Nat), l = pre ++ xs → xs.length < k →
    lodgerref05_Held.l0 k a (pre.length : Int) B p l s w q t = some (decide (a ∈ xs)) := by
  unfold maxLen at hl
  intro xs
  induction xs with
  | nil =>
    intro pre k hp hk
    obtain ⟨k, rfl⟩ : ∃ m, k = m + 1 := ⟨k - 1, by omega⟩
    simp only [lodgerref05_Held.l0]; rw [if_neg (by rw [hp]; simp)]; simp
  | cons x xs ih =>
    intro pre k hp hk
    simp only [List.length_cons] at hk
    obtain ⟨k, rfl⟩ : ∃ m, k = m + 1 := ⟨k - 1, by omega⟩
    have hlt : pre.length < l.length := by rw [hp]; simp
    simp only [lodgerref05_Held.l0]
    rw [if_pos (by omega), if_pos (by omega)]
    have hx : rd l (pre.length : Int) = x := by rw [hp]; exact rd_mid ..
    rw [hx]
    by_cases e : x = a
    · rw [if_pos e]; simp [e]
    · rw [if_neg e, w64 (by omega) (by omega)]
      have h1 := ih (pre ++ [x]) k (by rw [hp]; simp) (by omega)
      simp only [List.length_append, List.length_cons, List.length_nil, Nat.zero_add, Int.natCast_add, Int.natCast_one] at h1
      rw [h1]
      have : ¬ a = x := fun h => e h.symm
      simp [this]
theorem refHeld_eq (B p : Int) (l : List Int) (s w q t : Int) (hl : l.length ≤ maxLen) (a : Int) {k : Nat} (hk : l.length < k) : lodgerref05_Held.f k B p l s w q t a = some (decide (a ∈ l)) := by
  unfold lodgerref05_Held.f
  exact refHeld_l0 B p l s w q t hl a l [] k rfl hk

theorem Pow_l0 {n : Int} (h1 : n < 64) (d : Nat) : ∀ (k : Nat) (i : Nat), (i : Int) ≤ n → n - i = d → d < k → lodgerref01_Pow.l0 k n ((2 ^ i : Nat) : Int) i = some ((2 ^ n.toNat : Nat) : Int) := by
  induction d with
  | zero =>
    intro k i hi hd hk
    obtain ⟨k, rfl⟩ : ∃ m, k = m + 1 := ⟨k - 1, by omega⟩
    have : i = n.toNat := by omega
    subst this
    simp only [lodgerref01_Pow.l0]; rw [if_neg (by omega)]
  | succ d ih =>
    intro k i hi hd hk
    obtain ⟨k, rfl⟩ : ∃ m, k = m + 1 := ⟨k - 1, by omega⟩
    have hp : 2 ^ (i + 1) ≤ 9223372036854775808 := Nat.pow_le_pow_right (n := 2) (j := 63) (by decide) (by omega)
    have := ih k (i + 1) (by omega) (by omega) (by omega)
    have e : 2 ^ (i + 1) = 2 ^ i * 2 := Nat.pow_succ ..
    rw [e] at this hp
    simp only [lodgerref01_Pow.l0]
    generalize 2 ^ i = P at this hp ⊢
    rw [if_pos (by omega), wrapu_small (by omega) (by omega), w64 (by omega) (by omega)]
    rw [Int.natCast_mul, Int.natCast_add] at this
    exact this
theorem Pow_eq {n : Int} (h0 : 0 ≤ n) (h1 : n < 64) {k : Nat} (hk : 70 ≤ k) : lodgerref01_Pow.f k n = some ((2 ^ n.toNat : Nat) : Int) := by
  unfold lodgerref01_Pow.f
  exact Pow_l0 h1 n.toNat k 0 (by omega) (by omega) (by omega)
theorem refHas_eq (x : BitVec 64) {i : Int} (h0 : 0 ≤ i) (h1 : i < 64) {k : Nat} (hk : 70 ≤ k) : lodgerref01_Has.f k (U x) i = some (x.getLsbD i.toNat) := by
  unfold lodgerref01_Has.f
  have hp : 0 < 2 ^ i.toNat := Nat.two_pow_pos _
  have hx := x.isLt
  rw [Pow_eq h0 h1 hk, Option.bind_some, if_neg (by omega), td (U_lt x).1]
  congr 1
  unfold U
  rw [← Int.natCast_ediv]
  have hle : x.toNat / 2 ^ i.toNat ≤ x.toNat := Nat.div_le_self _ _
  unfold BitVec.getLsbD
  rw [Nat.testBit_eq_decide_div_mod_eq]
  generalize x.toNat / 2 ^ i.toNat = q at hle ⊢
  rw [wrapu_small (by omega) (by omega), tm (by omega), Bool.eq_iff_iff, beq_iff_eq, decide_eq_true_eq]
  omega

theorem addc_U (y : BitVec 64) : IntKind.u64.wrap (U y + 4294967296) = U (y + 4294967296#64) := by
  have := y.isLt
  unfold U
  rw [wrapu, BitVec.toNat_add]
  simp
theorem low_bit (x : BitVec 64) (j : Nat) (hj : j < 32) : x.getLsbD j = (x.toNat % 4294967296).testBit j := by
  unfold BitVec.getLsbD
  rw [show (4294967296 : Nat) = 2 ^ 32 from rfl, Nat.testBit_mod_two_pow]
  simp [hj]
theorem addc_bit (y : BitVec 64) (j : Nat) (hj : j < 32) : (y + 4294967296#64).getLsbD j = y.getLsbD j := by
  rw [low_bit _ j hj, low_bit _ j hj]
  have e : (y + 4294967296#64).toNat % 4294967296 = y.toNat % 4294967296 := by
    rw [BitVec.toNat_add]
    have : (4294967296#64).toNat = 4294967296 := by decide +kernel
    omega
  rw [e]
/-- How often a word was changed. -/
def chg (x : BitVec 64) : Nat := x.toNat / 4294967296
theorem chg_lt (x : BitVec 64) : chg x < 4294967296 := by have := x.isLt; unfold chg; omega
theorem addc_chg (y : BitVec 64) : chg (y + 4294967296#64) = (chg y + 1) % 4294967296 := by
  have := y.isLt
  unfold chg
  rw [BitVec.toNat_add]
  have : (4294967296#64).toNat = 4294967296 := by decide +kernel
  omega
theorem chg_eq {x y : BitVec 64} (h : ∀ j, 32 ≤ j → x.getLsbD j = y.getLsbD j) : chg x = chg y := by
  have : x >>> 32 = y >>> 32 := by
    apply BitVec.eq_of_getLsbD_eq
    intro j hj
    rw [BitVec.getLsbD_ushiftRight, BitVec.getLsbD_ushiftRight]
    exact h _ (by omega)
  have h2 := congrArg BitVec.toNat this
  rw [BitVec.toNat_ushiftRight, BitVec.toNat_ushiftRight, Nat.shiftRight_eq_div_pow, Nat.shiftRight_eq_div_pow] at h2
  exact h2
def claim (x : BitVec 64) (b : Nat) : BitVec 64 := (x ||| BitVec.twoPow 64 b) + 4294967296#64
def drop (x : BitVec 64) (b : Nat) : BitVec 64 := (x &&& ~~~BitVec.twoPow 64 b) + 4294967296#64
theorem claim_chg (x : BitVec 64) {b : Nat} (hb : b < 32) : chg (claim x b) = (chg x + 1) % 4294967296 := by
  unfold claim
  rw [addc_chg, chg_eq (x := x ||| BitVec.twoPow 64 b) (y := x)]
  intro j hj
  rw [BitVec.getLsbD_or, BitVec.getLsbD_twoPow]
  have : ¬ b = j := by omega
  simp [this]
theorem drop_chg (x : BitVec 64) {b : Nat} (hb : b < 32) : chg (drop x b) = (chg x + 1) % 4294967296 := by
  unfold drop
  rw [addc_chg, chg_eq (x := x &&& ~~~BitVec.twoPow 64 b) (y := x)]
  intro j hj
  rw [BitVec.getLsbD_and, BitVec.getLsbD_not, BitVec.getLsbD_twoPow]
  have : ¬ b = j := by omega
  by_cases h : j < 64
  · simp [this, h]
  · rw [BitVec.getLsbD_of_ge x j (by omega)]; simp
theorem claim_bit (x : BitVec 64) {b j : Nat} (hj : j < 32) : (claim x b).getLsbD j = (x.getLsbD j || decide (b = j)) := by
  unfold claim
  rw [addc_bit _ j hj, BitVec.getLsbD_or, BitVec.getLsbD_twoPow]
  by_cases h : b = j
  · subst h; simp [show b < 64 by omega]
  · simp [h]
theorem drop_bit (x : BitVec 64) {b j : Nat} (hj : j < 32) : (drop x b).getLsbD j = (x.getLsbD j && !decide (b = j)) := by
  unfold drop
  rw [addc_bit _ j hj, BitVec.getLsbD_and, BitVec.getLsbD_not, BitVec.getLsbD_twoPow]
  by_cases h : b = j
  · subst h; simp [show b < 64 by omega]
  · have : j < 64 := by omega
    simp [h, this]
theorem ne_of_chg {x y : BitVec 64} (h : chg x ≠ chg y) : x ≠ y := fun e => h (by rw [e])
theorem full_iff (x : BitVec 64) : (cnt x 32 = 32) ↔ ∀ j, j < 32 → x.getLsbD j = true := by
  constructor
  · intro h j hj
    cases hg : x.getLsbD j with
    | true => rfl
    | false => have := cnt_lt x 32 j hj hg; omega
  · exact cnt_all x 32
theorem full_mod (x : BitVec 64) : (cnt x 32 = 32) ↔ x.toNat % 4294967296 = 4294967295 := by
  rw [full_iff]
  constructor
  · intro h
    apply Nat.eq_of_testBit_eq
    intro j
    rw [show (4294967295 : Nat) = 2 ^ 32 - 1 from rfl, Nat.testBit_two_pow_sub_one]
    by_cases hj : j < 32
    · rw [← low_bit x j hj, h j hj]; simp [hj]
    · rw [show (4294967296 : Nat) = 2 ^ 32 from rfl, Nat.testBit_mod_two_pow]; simp [hj]
  · intro h j hj
    rw [low_bit x j hj, h, show (4294967295 : Nat) = 2 ^ 32 - 1 from rfl, Nat.testBit_two_pow_sub_one]
    simp [hj]

theorem Used_eq (x : BitVec 64) {i : Int} (h0 : 0 ≤ i) (h1 : i < 64) : word_Used.f (U x) i = some (x.getLsbD i.toNat) := by
  unfold word_Used.f; rw [Has_eq x h0 h1]; rfl
theorem Changes_eq (x : BitVec 64) : word_Changes.f (U x) = some ((chg x : Nat) : Int) := by
  unfold word_Changes.f chg U
  have := x.isLt
  congr 1; omega
theorem Claim_eq (x : BitVec 64) {i : Int} (h0 : 0 ≤ i) (h1 : i < 64) : word_Claim.f (U x) i = some (U (claim x i.toNat)) := by
  unfold word_Claim.f claim; rw [Set_eq x h0 h1, Option.bind_some, addc_U]
theorem Drop_eq (x : BitVec 64) {i : Int} (h0 : 0 ≤ i) (h1 : i < 64) : word_Drop.f (U x) i = some (U (drop x i.toNat)) := by
  unfold word_Drop.f drop; rw [Clear_eq x h0 h1, Option.bind_some, addc_U]

theorem Full_eq (x : BitVec 64) {k : Nat} (hk : 70 ≤ k) : word_Full.f k (U x) = some (decide (cnt x 32 = 32)) := by
  unfold word_Full.f
  rw [Count_eq x (by omega) (by omega) hk, Option.bind_some, show (32 : Int).toNat = 32 from rfl]
  congr 1
  rw [Bool.eq_iff_iff, beq_iff_eq, decide_eq_true_eq]
  omega

theorem WFirst_eq (x : BitVec 64) :
    (∃ a : Nat, a < 32 ∧ x.getLsbD a = false ∧ (∀ j : Nat, j < a → x.getLsbD j = true) ∧ ∀ k, 70 ≤ k → word_First.f k (U x) = some ((a : Int), true)) ∨
    ((∀ j : Nat, j < 32 → x.getLsbD j = true) ∧ ∀ k, 70 ≤ k → word_First.f k (U x) = some (0, false)) := by
  rcases First_eq x (n := 32) (by omega) (by omega) with ⟨a, g1, g2, g3, g4⟩ | ⟨g1, g2⟩
  · exact .inl ⟨a, by omega, g2, g3, fun k hk => by unfold word_First.f; rw [g4 k hk]; rfl⟩
  · exact .inr ⟨fun j hj => g1 j (by omega), fun k hk => by unfold word_First.f; rw [g2 k hk]; rfl⟩

/-- A list of n words, each told by its place. -/
def tab (n : Nat) (g : Nat → BitVec 64) : List Int := (List.range n).map (fun j => U (g j))
theorem tab_len (n : Nat) (g : Nat → BitVec 64) : (tab n g).length = n := by simp [tab]
theorem tab_rd {n : Nat} {g : Nat → BitVec 64} {i : Int} (h0 : 0 ≤ i) (h1 : i < n) : rd (tab n g) i = U (g i.toNat) := by
  have : i.toNat < n := by omega
  unfold rd tab
  simp [List.getD_eq_getElem?_getD, this]
theorem tab_set {n : Nat} {g : Nat → BitVec 64} (i : Int) (v : BitVec 64) : (tab n g).set i.toNat (U v) = tab n (fun j => if j = i.toNat then v else g j) := by
  apply List.ext_getElem
  · simp [tab]
  · intro j h1 h2
    simp only [tab, List.getElem_set, List.getElem_map, List.getElem_range]
    by_cases e : i.toNat = j
    · rw [if_pos e, if_pos e.symm]
    · rw [if_neg e, if_neg (fun h => e h.symm)]
theorem tab_congr {n : Nat} {g h : Nat → BitVec 64} (e : ∀ j, j < n → g j = h j) : tab n g = tab n h := by
  unfold tab
  apply List.map_congr_left
  intro j hj
  rw [e j (List.mem_range.1 hj)]
theorem tab_snoc (n : Nat) (g : Nat → BitVec 64) : tab n g ++ [U (g n)] = tab (n + 1) g := by simp [tab, List.range_succ]
theorem tab_zero (n : Nat) : List.replicate n (0 : Int) = tab n (fun _ => 0#64) := by
  apply List.ext_getElem
  · simp [tab]
  · intro j h1 h2; simp [tab, U]
/-- The word whose first n bits are those of f. -/
def ofb (f : Nat → Bool) : Nat → BitVec 64
  | 0 => 0#64
  | n + 1 => if f n = true then ofb f n ||| BitVec.twoPow 64 n else ofb f n
theorem ofb_bit (f : Nat → Bool) (n : Nat) (hn : n ≤ 64) (j : Nat) : (ofb f n).getLsbD j = (decide (j < n) && f j) := by
  induction n with
  | zero => simp [ofb]
  | succ n ih =>
    have ih := ih (by omega)
    unfold ofb
    split
    · rename_i h
      rw [BitVec.getLsbD_or, BitVec.getLsbD_twoPow, ih]
      by_cases e : n = j
      · subst e; simp [h]; omega
      · have e9 : decide (j < n + 1) = decide (j < n) := decide_eq_decide.2 (by omega)
        rw [e9]; simp [e]
    · rename_i h
      rw [ih]
      by_cases e : n = j
      · subst e; simp [h]
      · have e9 : decide (j < n + 1) = decide (j < n) := decide_eq_decide.2 (by omega)
        rw [e9]

theorem nx {i : Nat} (h : i ≤ 1000000) : wrap64 ((i : Int) + 1) = ((i + 1 : Nat) : Int) := by rw [w64 (by omega) (by omega)]; omega
theorem nx2 {i j : Nat} (h : i ≤ 1000000) (h2 : j ≤ 1000000) : wrap64 ((i : Int) + (j : Int)) = ((i + j : Nat) : Int) := by rw [w64 (by omega) (by omega)]; omega
theorem nx3 {i j : Nat} (h : i ≤ 1000000) (h2 : j ≤ 1000000) : wrap64 ((i : Int) + (j : Int) + 1 - 1) = ((i + j : Nat) : Int) := by rw [w64 (by omega) (by omega)]; omega
/-- Is a leaf's bit set at first? -/
def nbit (m : Int) (H : List Int) (l b : Nat) : Bool := decide (m ≤ 32 * (l : Int) + b) || decide (32 * (l : Int) + b ∈ H)
/-- A leaf's first word. -/
def nw (m : Int) (H : List Int) (l : Nat) : BitVec 64 := ofb (nbit m H l) 32
/-- Is it full? -/
def fl (m : Int) (H : List Int) (l : Nat) : Bool := decide (cnt (nw m H l) 32 = 32)
/-- A top's first word. -/
def tw (m : Int) (H : List Int) (L t : Nat) : BitVec 64 := ofb (fun b => decide (L ≤ 64 * t + b) || fl m H (64 * t + b)) 64
/-- The root's first word. -/
def rt (m : Int) (H : List Int) (L T : Nat) : BitVec 64 := ofb (fun t => decide (T ≤ t) || decide (tw m H L t = mask 64)) 64
/-- All first words. -/
def cw (m : Int) (H : List Int) (L T j : Nat) : BitVec 64 := if j < L then nw m H j else if j < L + T then tw m H L (j - L) else rt m H L T
theorem nw_bit (m : Int) (H : List Int) (l j : Nat) : (nw m H l).getLsbD j = (decide (j < 32) && nbit m H l j) := ofb_bit _ 32 (by omega) j
theorem tw_bit (m : Int) (H : List Int) (L t j : Nat) : (tw m H L t).getLsbD j = (decide (j < 64) && (decide (L ≤ 64 * t + j) || fl m H (64 * t + j))) := ofb_bit _ 64 (by omega) j
theorem rt_bit (m : Int) (H : List Int) (L T j : Nat) : (rt m H L T).getLsbD j = (decide (j < 64) && (decide (T ≤ j) || decide (tw m H L j = mask 64))) := ofb_bit _ 64 (by omega) j
theorem wNew_l0 (H : List Int) (hl : H.length ≤ maxLen) (hb : ∀ x ∈ H, 0 ≤ x ∧ x < 70000) (l : Nat) : ∀ (xs pre : List Int) (k : Nat) (y : BitVec 64), H = pre ++ xs → xs.length < k →
    ∃ z, word_New.l0 k l (U y) H (H.length : Int) (pre.length : Int) = some (U z) ∧ ∀ j, j < 64 → z.getLsbD j = (y.getLsbD j || decide (j < 32 ∧ 32 * (l : Int) + j ∈ xs)) := by
  unfold maxLen at hl
  intro xs
  induction xs with
  | nil =>
    intro pre k y hp hk
    obtain ⟨k, rfl⟩ : ∃ m, k = m + 1 := ⟨k - 1, by omega⟩
    refine ⟨y, ?_, by simp⟩
    simp only [word_New.l0]; rw [if_neg (by rw [hp]; simp)]
  | cons x xs ih =>
    intro pre k y hp hk
    simp only [List.length_cons] at hk
    obtain ⟨k, rfl⟩ : ∃ m, k = m + 1 := ⟨k - 1, by omega⟩
    have hlt : pre.length < H.length := by rw [hp]; simp
    simp only [word_New.l0]
    have hx : rd H (pre.length : Int) = x := by rw [hp]; exact rd_mid ..
    have bx := hb x (by rw [hp]; simp)
    rw [if_pos (by omega), if_pos (by omega), if_pos (by omega), hx, Leaf_eq (by omega) (by omega), Option.bind_some, w64 (by omega) (by omega)]
    have hs : H = (pre ++ [x]) ++ xs := by rw [hp]; simp
    have hn : ((pre ++ [x]).length : Int) = (pre.length : Int) + 1 := by simp
    by_cases c : x / 32 = (l : Int)
    · rw [if_pos c, Set_eq _ (by omega) (by omega), Option.bind_some]
      obtain ⟨z, z1, z2⟩ := ih (pre ++ [x]) k (y ||| BitVec.twoPow 64 (x % 32).toNat) hs (by omega)
      rw [hn] at z1
      refine ⟨z, z1, fun j hj => ?_⟩
      rw [z2 j hj, BitVec.getLsbD_or, BitVec.getLsbD_twoPow, Bool.or_assoc]
      congr 1
      rw [Bool.eq_iff_iff]
      simp only [Bool.or_eq_true, Bool.and_eq_true, decide_eq_true_eq, List.mem_cons]
      constructor
      · rintro (⟨a, b⟩ | ⟨a, b⟩)
        · exact ⟨by omega, Or.inl (by omega)⟩
        · exact ⟨a, Or.inr b⟩
      · rintro ⟨a, b | b⟩
        · exact Or.inl ⟨by omega, by omega⟩
        · exact Or.inr ⟨a, b⟩
    · rw [if_neg c]
      obtain ⟨z, z1, z2⟩ := ih (pre ++ [x]) k y hs (by omega)
      rw [hn] at z1
      refine ⟨z, z1, fun j hj => ?_⟩
      rw [z2 j hj]
      congr 1
      rw [Bool.eq_iff_iff]
      simp only [decide_eq_true_eq, List.mem_cons]
      constructor
      · rintro ⟨a, b⟩; exact ⟨a, Or.inr b⟩
      · rintro ⟨a, b | b⟩
        · exfalso; omega
        · exact ⟨a, b⟩
theorem wNew_eq (B : Int) {p : Int} (H : List Int) (s w q t : Int) (hl : H.length ≤ maxLen) (h1 : 16 ≤ p) (h2 : p ≤ 32) (hb : ∀ x ∈ H, 0 ≤ x ∧ x < 70000) (l : Nat) (hm : 32 * (l : Int) < M p) {k : Nat} (hk : H.length < k) :
    word_New.f k B p H s w q t l = some (U (nw (M p) H l)) := by
  have mb := M_bounds h1 h2
  unfold word_New.f
  have wd : 1 ≤ mn 32 (M p - (l : Int) * 32) ∧ mn 32 (M p - (l : Int) * 32) ≤ 32 := by unfold mn; split <;> omega
  have we : ∀ j : Nat, j < 32 → ((j : Int) < mn 32 (M p - (l : Int) * 32) ↔ ¬ M p ≤ 32 * (l : Int) + j) := by intro j hj; unfold mn; split <;> omega
  rw [Mask_eq (by omega) (by omega), Option.bind_some, Many_eq B h1 h2, Option.bind_some, Width_eq (by omega) (by omega) (by omega) (by omega), Option.bind_some]
  generalize mn 32 (M p - (l : Int) * 32) = v at *
  rw [Mask_eq (by omega) (by omega), Option.bind_some, bits_andNot_U]
  obtain ⟨z, z1, z2⟩ := wNew_l0 H hl hb l H [] k (mask (32 : Int).toNat &&& ~~~mask v.toNat) rfl hk
  rw [show (([] : List Int).length : Int) = 0 from rfl] at z1
  rw [z1]
  congr 2
  apply BitVec.eq_of_getLsbD_eq
  intro j hj
  rw [z2 j hj, nw_bit, BitVec.getLsbD_and, BitVec.getLsbD_not, mask_bit _ _ hj, mask_bit _ _ hj]
  unfold nbit
  have we := we j
  rw [Bool.eq_iff_iff]
  by_cases c : j < 32
  · have we := we c
    by_cases d : 32 * (l : Int) + j ∈ H
    · simp [c, d]
    · simp [c, d, hj]; omega
  · simp [c]
/-- What the first cells are while leaves are gone through. -/
def Inv (m : Int) (H : List Int) (L T i : Nat) (g : Nat → BitVec 64) : Prop :=
  (∀ j, j < i → g j = nw m H j) ∧ (∀ t b, t < T → b < 64 → (g (L + t)).getLsbD b = !(decide (64 * t + b < i) && !fl m H (64 * t + b))) ∧
  (∀ t, t < 64 → ((g (L + T)).getLsbD t = true ↔ ∀ l, l < i → l / 64 = t → fl m H l = true))
theorem Inv_end {m : Int} {H : List Int} {L T : Nat} {g : Nat → BitVec 64} (hT : T = (L + 63) / 64) (h : Inv m H L T L g) : ∀ j, j < L + T + 1 → g j = cw m H L T j := by
  intro j hj
  obtain ⟨a, b, c⟩ := h
  unfold cw
  by_cases c1 : j < L
  · rw [if_pos c1, a j c1]
  rw [if_neg c1]
  by_cases c2 : j < L + T
  · rw [if_pos c2]
    apply BitVec.eq_of_getLsbD_eq
    intro i hi
    have := b (j - L) i (by omega) hi
    rw [show L + (j - L) = j by omega] at this
    rw [this, tw_bit]
    by_cases d : 64 * (j - L) + i < L
    · simp [d, hi]; omega
    · simp [d, hi]; omega
  · rw [if_neg c2]
    obtain rfl : j = L + T := by omega
    apply BitVec.eq_of_getLsbD_eq
    intro t ht
    rw [Bool.eq_iff_iff, c t ht, rt_bit]
    simp only [Bool.and_eq_true, Bool.or_eq_true, decide_eq_true_eq]
    constructor
    · intro h
      refine ⟨ht, ?_⟩
      by_cases d : T ≤ t
      · exact Or.inl d
      · right
        apply BitVec.eq_of_getLsbD_eq
        intro i hi
        rw [tw_bit, mask_bit _ _ hi]
        by_cases e : L ≤ 64 * t + i
        · simp [e, hi]
        · simp [hi, h (64 * t + i) (by omega) (by omega)]
    · rintro ⟨_, h | h⟩ l h1 h2
      · exfalso; omega
      · have e := congrArg (fun z => z.getLsbD (l % 64)) h
        rw [tw_bit, mask_bit _ _ (by omega), show 64 * t + l % 64 = l by omega] at e
        have e8 : ¬ L ≤ l := by omega
        simpa [show l % 64 < 64 by omega, e8] using e

theorem wCells_l1 (B : Int) {p : Int} (H : List Int) (s w q t : Int) (hl : H.length ≤ 64) (h1 : 16 ≤ p) (h2 : p ≤ 32) (hb : ∀ x ∈ H, 0 ≤ x ∧ x < 70000) {L T : Nat} (hL : (M p + 31) / 32 = L) (hT : T = (L + 63) / 64) (d : Nat) :
    ∀ (k i : Nat) (g : Nat → BitVec 64), Inv (M p) H L T i g → i ≤ L → L - i = d → d + 200 + H.length < k →
    word_Cells.l1 k (M p) (tab (L + T + 1) g) ((L + T : Nat) : Int) L i B p H s w q t = some (tab (L + T + 1) (cw (M p) H L T)) := by
  have mb := M_bounds h1 h2
  induction d with
  | zero =>
    intro k i g hi hi1 hd hk
    obtain ⟨k, rfl⟩ : ∃ m, k = m + 1 := ⟨k - 1, by omega⟩
    obtain rfl : i = L := by omega
    simp only [word_Cells.l1]
    rw [if_neg (by omega), tab_congr (Inv_end hT hi)]
  | succ d ih =>
    intro k i g hi hi1 hd hk
    obtain ⟨k, rfl⟩ : ∃ m, k = m + 1 := ⟨k - 1, by omega⟩
    simp only [word_Cells.l1]
    have ei : ((i : Nat) : Int).toNat = i := by omega
    rw [if_pos (by omega), wNew_eq B H s w q t (by unfold maxLen; omega) h1 h2 hb i (by omega) (by omega), Option.bind_some, if_pos (by omega), if_pos (by rw [tab_len]; omega), Option.bind_some, tab_set,
      tab_rd (by omega) (by omega), if_pos rfl, Full_eq _ (by omega), Option.bind_some, nx (i := i) (by omega)]
    obtain ⟨a, b, c⟩ := hi
    by_cases hf : cnt (nw (M p) H i) 32 = 32
    · rw [decide_eq_true hf, if_pos rfl]
      have hfl : fl (M p) H i = true := by unfold fl; rw [decide_eq_true hf]
      refine ih k (i + 1) _ ⟨?_, ?_, ?_⟩ (by omega) (by omega) (by omega)
      · intro j hj
        show (if j = ((i : Nat) : Int).toNat then _ else _) = _
        rw [ei]
        by_cases e : j = i
        · rw [if_pos e, e]
        · rw [if_neg e, a j (by omega)]
      · intro t b' ht hb'
        show (if L + t = ((i : Nat) : Int).toNat then _ else _ : BitVec 64).getLsbD b' = _
        rw [ei, if_neg (by omega), b t b' ht hb']
        by_cases e : 64 * t + b' = i
        · rw [e, hfl]; simp
        · have e9 : decide (64 * t + b' < i + 1) = decide (64 * t + b' < i) := decide_eq_decide.2 (by omega)
          rw [e9]
      · intro t ht
        show ((if L + T = ((i : Nat) : Int).toNat then _ else _ : BitVec 64).getLsbD t = true) ↔ _
        rw [ei, if_neg (by omega), c t ht]
        constructor
        · intro h l hl1 hl2
          by_cases e : l = i
          · rw [e, hfl]
          · exact h l (by omega) hl2
        · intro h l hl1 hl2
          exact h l (by omega) hl2
    · rw [decide_eq_false hf, if_neg (by simp), Top_eq (by omega) (by omega) (by omega) (by omega), Option.bind_some, Root_eq (by omega) (by omega) (by omega) (by omega), Option.bind_some, hL]
      have hfl : fl (M p) H i = false := by unfold fl; rw [decide_eq_false hf]
      have et : (((L : Nat) : Int) + (i : Int) / 64).toNat = L + i / 64 := by omega
      have er : (((L + T : Nat) : Int)).toNat = L + T := by omega
      have e6 : ((i : Int) % 64).toNat = i % 64 := by omega
      have e7 : ((i : Int) / 64).toNat = i / 64 := by omega
      rw [if_pos (by omega), if_pos (by rw [tab_len]; omega), tab_rd (by omega) (by omega), Clear_eq _ (by omega) (by omega), Option.bind_some, if_pos (by omega), if_pos (by rw [tab_len]; omega),
        tab_rd (by omega) (by omega), Clear_eq _ (by omega) (by omega), Option.bind_some, tab_set, tab_set]
      simp only [ei, et, er, e6, e7]
      refine ih k (i + 1) _ ⟨?_, ?_, ?_⟩ (by omega) (by omega) (by omega)
      · intro j hj
        simp only
        rw [if_neg (by omega), if_neg (by omega)]
        by_cases e : j = i
        · rw [if_pos e, e]
        · rw [if_neg e, a j (by omega)]
      · intro t b' ht hb'
        simp only
        rw [if_neg (by omega)]
        have bb := b t b' ht hb'
        by_cases e : t = i / 64
        · subst e
          rw [if_pos rfl, if_neg (by omega), BitVec.getLsbD_and, BitVec.getLsbD_not, BitVec.getLsbD_twoPow, bb]
          by_cases f : b' = i % 64
          · have : 64 * (i / 64) + b' = i := by omega
            rw [this, hfl]
            simp [f]
          · have e9 : decide (64 * (i / 64) + b' < i + 1) = decide (64 * (i / 64) + b' < i) := decide_eq_decide.2 (by omega)
            rw [e9]
            have : ¬ i % 64 = b' := fun h => f h.symm
            simp [this, hb']
        · have e9 : decide (64 * t + b' < i + 1) = decide (64 * t + b' < i) := decide_eq_decide.2 (by omega)
          rw [if_neg (by omega), if_neg (by omega), bb, e9]
      · intro t ht
        simp only
        rw [if_pos trivial, if_neg (show ¬ L + T = i by omega), BitVec.getLsbD_and, BitVec.getLsbD_not, BitVec.getLsbD_twoPow, Bool.and_eq_true, c t ht]
        by_cases e : i / 64 = t
        · constructor
          · rintro ⟨_, h⟩
            simp [e, ht] at h
          · intro h
            have := h i (by omega) e
            rw [hfl] at this
            exact absurd this (by simp)
        · constructor
          · rintro ⟨h, _⟩ l hl1 hl2
            by_cases e2 : l = i
            · subst e2; exact absurd hl2 e
            · exact h l (by omega) hl2
          · intro h
            exact ⟨fun l hl1 hl2 => h l (by omega) hl2, by simp [e, ht]⟩
theorem wCells_l0 (B : Int) {p : Int} (H : List Int) (s w q t : Int) (hl : H.length ≤ 64) (h1 : 16 ≤ p) (h2 : p ≤ 32) (hb : ∀ x ∈ H, 0 ≤ x ∧ x < 70000) {L T : Nat} (hL : (M p + 31) / 32 = L) (hT : T = (L + 63) / 64) (d : Nat) :
    ∀ (k i : Nat), i ≤ T → T - i = d → d + L + 300 + H.length < k →
    word_Cells.l0 k (M p) (tab (L + T + 1) (fun j => if L ≤ j ∧ j < L + i then mask 64 else 0#64)) T i B p H s w q t = some (tab (L + T + 1) (cw (M p) H L T)) := by
  have mb := M_bounds h1 h2
  have m64 : mask (64 : Int).toNat = mask 64 := rfl
  induction d with
  | zero =>
    intro k i hi1 hd hk
    obtain ⟨k, rfl⟩ : ∃ m, k = m + 1 := ⟨k - 1, by omega⟩
    obtain rfl : i = T := by omega
    simp only [word_Cells.l0]
    have e1 : (((M p + 31) / 32 + 63) / 64 : Int) = ((i : Nat) : Int) := by omega
    rw [if_neg (by omega), Cells_eq (by omega) (by omega), Option.bind_some, Mask_eq (by omega) (by omega), Option.bind_some, e1, hL, nx3 (i := L) (j := i) (by omega) (by omega), if_pos (by omega), if_pos (by rw [tab_len]; omega), Leaves_eq (by omega) (by omega), Option.bind_some, hL, tab_set, m64]
    refine wCells_l1 B H s w q t hl h1 h2 hb hL hT L k 0 _ ⟨?_, ?_, ?_⟩ (by omega) (by omega) (by omega)
    · intro j hj; omega
    · intro t b ht hb'
      simp only
      rw [if_neg (by omega), if_pos (by omega), mask_bit _ _ hb']
      simp [hb']
    · intro t ht
      simp only
      rw [if_pos (by omega), mask_bit _ _ ht]
      simp [ht]
  | succ d ih =>
    intro k i hi1 hd hk
    obtain ⟨k, rfl⟩ : ∃ m, k = m + 1 := ⟨k - 1, by omega⟩
    simp only [word_Cells.l0]
    rw [if_pos (by omega), Leaves_eq (by omega) (by omega), Option.bind_some, Mask_eq (by omega) (by omega), Option.bind_some, hL, nx2 (i := L) (j := i) (by omega) (by omega), if_pos (by omega), if_pos (by rw [tab_len]; omega), tab_set, m64, nx (i := i) (by omega)]
    have := ih k (i + 1) (by omega) (by omega) (by omega)
    rw [tab_congr (h := fun j => if L ≤ j ∧ j < L + (i + 1) then mask 64 else 0#64)]
    · exact this
    · intro j hj
      simp only [show ((L + i : Nat) : Int).toNat = L + i by omega]
      by_cases c : j = L + i
      · rw [if_pos c, if_pos (by omega)]
      · rw [if_neg c]
        by_cases c2 : L ≤ j ∧ j < L + i
        · rw [if_pos c2, if_pos (by omega)]
        · rw [if_neg c2, if_neg (by omega)]
theorem wCells_eq (B : Int) {p : Int} (H : List Int) (s w q t : Int) (hl : H.length ≤ 64) (h1 : 16 ≤ p) (h2 : p ≤ 32) (hb : ∀ x ∈ H, 0 ≤ x ∧ x < 70000) {L T : Nat} (hL : (M p + 31) / 32 = L) (hT : T = (L + 63) / 64) {k : Nat} (hk : 5000 ≤ k) :
    word_Cells.f k B p H s w q t = some (tab (L + T + 1) (cw (M p) H L T)) := by
  have mb := M_bounds h1 h2
  unfold word_Cells.f
  have e1 : (((M p + 31) / 32 + 63) / 64 : Int) = (T : Int) := by omega
  have e3 : ((L : Int) + (T : Int) + 1).toNat = L + T + 1 := by omega
  rw [Many_eq B h1 h2, Option.bind_some, Cells_eq (by omega) (by omega), Option.bind_some, e1, hL, if_pos (by omega), if_pos (by omega), Tops_eq (by omega) (by omega), Option.bind_some, e1, e3, tab_zero]
  have := wCells_l0 B H s w q t hl h1 h2 hb hL hT T k 0 (by omega) (by omega) (by omega)
  rw [← this]
  congr 1
  apply tab_congr
  intro j hj
  rw [if_neg (by omega)]

theorem refLeaves_l0 {n : Int} (h0 : 0 ≤ n) (h1 : n ≤ 100000) (d : Nat) : ∀ (k : Nat) (i : Int), 0 ≤ i → i ≤ (n + 31) / 32 → (n + 31) / 32 - i = d → d < k → lodgerref06_Leaves.l0 k n i = some ((n + 31) / 32) := by
  induction d with
  | zero =>
    intro k i hi0 hi1 hd hk
    obtain ⟨k, rfl⟩ : ∃ m, k = m + 1 := ⟨k - 1, by omega⟩
    simp only [lodgerref06_Leaves.l0]; rw [w64 (x := 32 * i) (by omega) (by omega), if_neg (by omega)]; congr 1; omega
  | succ d ih =>
    intro k i hi0 hi1 hd hk
    obtain ⟨k, rfl⟩ : ∃ m, k = m + 1 := ⟨k - 1, by omega⟩
    simp only [lodgerref06_Leaves.l0]; rw [w64 (x := 32 * i) (by omega) (by omega), if_pos (by omega), w64 (by omega) (by omega)]
    exact ih k (i + 1) (by omega) (by omega) (by omega) (by omega)
theorem refLeaves {n : Int} (h0 : 0 ≤ n) (h1 : n ≤ 100000) {k : Nat} (hk : 4000 ≤ k) : lodgerref06_Leaves.f k n = some ((n + 31) / 32) := by
  unfold lodgerref06_Leaves.f
  exact refLeaves_l0 h0 h1 ((n + 31) / 32).toNat k 0 (by omega) (by omega) (by omega) (by omega)

theorem refTops_l0 {n : Int} (h0 : 0 ≤ n) (h1 : n ≤ 100000) (d : Nat) : ∀ (k : Nat) (i : Int), 0 ≤ i → i ≤ ((n + 31) / 32 + 63) / 64 → ((n + 31) / 32 + 63) / 64 - i = d → d + 4000 < k → lodgerref06_Tops.l0 k n i = some (((n + 31) / 32 + 63) / 64) := by
  induction d with
  | zero =>
    intro k i hi0 hi1 hd hk
    obtain ⟨k, rfl⟩ : ∃ m, k = m + 1 := ⟨k - 1, by omega⟩
    simp only [lodgerref06_Tops.l0]; rw [refLeaves h0 h1 (by omega), Option.bind_some, w64 (x := 64 * i) (by omega) (by omega), if_neg (by omega)]; congr 1; omega
  | succ d ih =>
    intro k i hi0 hi1 hd hk
    obtain ⟨k, rfl⟩ : ∃ m, k = m + 1 := ⟨k - 1, by omega⟩
    simp only [lodgerref06_Tops.l0]; rw [refLeaves h0 h1 (by omega), Option.bind_some, w64 (x := 64 * i) (by omega) (by omega), if_pos (by omega), w64 (by omega) (by omega)]
    exact ih k (i + 1) (by omega) (by omega) (by omega) (by omega)
theorem refTops {n : Int} (h0 : 0 ≤ n) (h1 : n ≤ 100000) {k : Nat} (hk : 5000 ≤ k) : lodgerref06_Tops.f k n = some (((n + 31) / 32 + 63) / 64) := by
  unfold lodgerref06_Tops.f
  exact refTops_l0 h0 h1 (((n + 31) / 32 + 63) / 64).toNat k 0 (by omega) (by omega) (by omega) (by omega)

theorem refTop {n l : Int} (h0 : 0 ≤ n) (h1 : n ≤ 100000) (h2 : 0 ≤ l) (h3 : l ≤ 100000) {k : Nat} (hk : 5000 ≤ k) : lodgerref06_Top.f k n l = some ((n + 31) / 32 + l / 64, l % 64) := by
  unfold lodgerref06_Top.f; rw [refLeaves h0 h1 (by omega), Option.bind_some, td h2, w64 (x := l / 64) (by omega) (by omega), w64 (x := 64 * (l / 64)) (by omega) (by omega), w64 (x := l - 64 * (l / 64)) (by omega) (by omega), w64 (by omega) (by omega)]
  congr 2; omega

theorem refCells {n : Int} (h0 : 0 ≤ n) (h1 : n ≤ 100000) {k : Nat} (hk : 5000 ≤ k) : lodgerref06_Cells.f k n = some ((n + 31) / 32 + ((n + 31) / 32 + 63) / 64 + 1) := by
  unfold lodgerref06_Cells.f; rw [refLeaves h0 h1 (by omega), Option.bind_some, refTops h0 h1 hk, Option.bind_some, w64 (x := (n + 31) / 32 + ((n + 31) / 32 + 63) / 64) (by omega) (by omega), w64 (by omega) (by omega)]

theorem awake_true {k : Nat} (hk : 2000 ≤ k) : lodgerlaw07_awake.f k = some true := at_rounds lodgerlaw07_awake.mono hk (by decide +kernel)
/-- How many usable offsets lie below a number. -/
def fr (n : Int) (H : List Int) (y : Int) : Int := (if y < n then y else n) - below H y
theorem fr_leaf {last n : Int} {H : List Int} (hr : rises last n H = true) (i : Nat) (b : Nat) (hb : b ≤ 32) : (cnt (nw n H i) b : Int) + fr n H (32 * (i : Int) + b) = b + fr n H (32 * (i : Int)) := by
  induction b with
  | zero => simp [cnt]
  | succ b ih =>
    have ih := ih (by omega)
    have s := below_succ hr (32 * (i : Int) + b)
    have e : nw n H i = nw n H i := rfl
    have bit := nw_bit n H i b
    rw [decide_eq_true (show b < 32 by omega), Bool.true_and] at bit
    show ((cnt (nw n H i) b + (if (nw n H i).getLsbD b = true then 1 else 0) : Nat) : Int) + fr n H (32 * (i : Int) + (b + 1 : Nat)) = _
    rw [bit]
    unfold nbit
    unfold fr at ih ⊢
    rw [show (32 * (i : Int) + (b + 1 : Nat)) = 32 * (i : Int) + b + 1 by omega, s]
    by_cases c : 32 * (i : Int) + b ∈ H
    · have := (rises_bounds hr _ c).2
      rw [if_pos c, decide_eq_true c, Bool.or_true, if_pos rfl]
      repeat' split at ih
      all_goals repeat' split
      all_goals omega
    · rw [if_neg c, decide_eq_false c, Bool.or_false]
      by_cases g : n ≤ 32 * (i : Int) + b
      · rw [decide_eq_true g, if_pos rfl]
        repeat' split at ih
        all_goals repeat' split
        all_goals omega
      · rw [decide_eq_false g, if_neg (by simp)]
        repeat' split at ih
        all_goals repeat' split
        all_goals omega
theorem use_l1 (B : Int) {p : Int} (H : List Int) (s w q t : Int) (hl : H.length ≤ 64) (h1 : 16 ≤ p) (h2 : p ≤ 32) (hr : rises (-1) (M p) H = true) (X : List Int) (L : Int) (i : Nat) (hi : i ≤ 3000) (hf : -100000 ≤ fr (M p) H (32 * (i : Int)) ∧ fr (M p) H (32 * (i : Int)) ≤ 100000)
    (N : Nat) (hN : ∀ k, N < k → lodgerlaw07_WordUsable.l0 k (M p) X L (fr (M p) H (32 * (i : Int) + 32)) ((i + 1 : Nat) : Int) B p H s w q t = some true) (d : Nat) :
    ∀ (k : Nat) (x : BitVec 64) (e : Nat), (∀ j, j < 32 → x.getLsbD j = false → nbit (M p) H i j = false) → cnt x 32 = cnt (nw (M p) H i) 32 + e → 32 - cnt x 32 = d → d + N + 300 < k →
    lodgerlaw07_WordUsable.l1 k (M p) X L (fr (M p) H (32 * (i : Int)) + e) i (U x) e B p H s w q t = some true := by
  have mb := M_bounds h1 h2
  have fl := fr_leaf hr i 32 (by omega)
  rw [show 32 * (i : Int) + ((32 : Nat) : Int) = 32 * (i : Int) + 32 by omega] at fl
  induction d with
  | zero =>
    intro k x e hx hc hd hk
    obtain ⟨k, rfl⟩ : ∃ m, k = m + 1 := ⟨k - 1, by omega⟩
    have c1 := cnt_le x 32
    simp only [lodgerlaw07_WordUsable.l1]
    rcases WFirst_eq x with ⟨a, g1, g2, g3, g4⟩ | ⟨g1, g2⟩
    · have := cnt_lt x 32 a g1 g2
      omega
    · rw [if_pos (by omega), g2 k (by omega), Option.bind_some, if_neg (by simp), Full_eq x (by omega), Option.bind_some, decide_eq_true (cnt_all x 32 g1), if_pos rfl, nx (i := i) (by omega)]
      have hn := hN k (by omega)
      rw [show fr (M p) H (32 * (i : Int) + 32) = fr (M p) H (32 * (i : Int)) + e by omega] at hn
      exact hn
  | succ d ih =>
    intro k x e hx hc hd hk
    obtain ⟨k, rfl⟩ : ∃ m, k = m + 1 := ⟨k - 1, by omega⟩
    have c1 := cnt_le x 32
    simp only [lodgerlaw07_WordUsable.l1]
    rcases WFirst_eq x with ⟨a, g1, g2, g3, g4⟩ | ⟨g1, g2⟩
    · have nb := hx a g1 g2
      unfold nbit at nb
      rw [Bool.or_eq_false_iff, decide_eq_false_iff_not, decide_eq_false_iff_not] at nb
      rw [if_pos (by omega), g4 k (by omega), Option.bind_some, if_pos rfl, w64 (x := 32 * (i : Int)) (by omega) (by omega), w64 (x := 32 * (i : Int) + a) (by omega) (by omega), if_neg (by omega),
        refHeld_eq B p H s w q t (by unfold maxLen; omega) _ (by omega), Option.bind_some, decide_eq_false nb.2, if_neg (by simp), Claim_eq x (by omega) (by omega), Option.bind_some, show ((a : Nat) : Int).toNat = a by omega,
        nx (i := e) (by omega), w64 (x := fr (M p) H (32 * (i : Int)) + e + 1) (by omega) (by omega)]
      have hcn : cnt (claim x a) 32 = cnt x 32 + 1 := by
        rw [← cnt_set x 32 a g1 (by omega) g2]
        apply cnt_congr
        intro j hj
        rw [claim_bit x hj, BitVec.getLsbD_or, BitVec.getLsbD_twoPow]
        simp [show a < 64 by omega]
      have := ih k (claim x a) (e + 1) (fun j hj hjb => by rw [claim_bit x hj, Bool.or_eq_false_iff] at hjb; exact hx j hj hjb.1) (by omega) (by omega) (by omega)
      rw [show fr (M p) H (32 * (i : Int)) + ((e + 1 : Nat) : Int) = fr (M p) H (32 * (i : Int)) + e + 1 by omega] at this
      exact this
    · have := cnt_all x 32 g1
      omega
theorem use_l0 (B : Int) {p : Int} (H : List Int) (s w q t : Int) (hl : H.length ≤ 64) (h1 : 16 ≤ p) (h2 : p ≤ 32) (hr : rises (-1) (M p) H = true) {L T : Nat} (hL : (M p + 31) / 32 = L) (hT : T = (L + 63) / 64) (K : Nat) (hK : 6000 ≤ K) (d : Nat) :
    ∀ (k i : Nat), i ≤ L → L - i = d → d * 500 + K < k →
    lodgerlaw07_WordUsable.l0 k (M p) (tab (L + T + 1) (cw (M p) H L T)) L (fr (M p) H (32 * (i : Int))) i B p H s w q t = some true := by
  have mb := M_bounds h1 h2
  induction d with
  | zero =>
    intro k i hi hd hk
    obtain ⟨k, rfl⟩ : ∃ m, k = m + 1 := ⟨k - 1, by omega⟩
    obtain rfl : i = L := by omega
    simp only [lodgerlaw07_WordUsable.l0]
    rw [if_neg (by omega), w64 (by omega) (by omega)]
    congr 1
    rw [beq_iff_eq]
    unfold fr
    rw [if_neg (by omega), below_all (fun x hx => by have := (rises_bounds hr x hx).2; omega)]
  | succ d ih =>
    intro k i hi hd hk
    obtain ⟨k, rfl⟩ : ∃ m, k = m + 1 := ⟨k - 1, by omega⟩
    have hk1 : ∀ dd, dd ≤ 32 → dd + (d * 500 + K) + 300 < k := by intro dd h; clear hL hT ih; omega
    simp only [lodgerlaw07_WordUsable.l0]
    have hfr : -100000 ≤ fr (M p) H (32 * (i : Int)) ∧ fr (M p) H (32 * (i : Int)) ≤ 100000 := by
      have := below_le H (32 * (i : Int))
      unfold fr
      split <;> omega
    have e1 : cw (M p) H L T i = nw (M p) H i := by unfold cw; rw [if_pos (by omega)]
    have e2 : cw (M p) H L T (L + i / 64) = tw (M p) H L (i / 64) := by unfold cw; rw [if_neg (by omega), if_pos (by omega), show L + i / 64 - L = i / 64 by omega]
    have e3 : ((L : Int) + (i : Int) / 64).toNat = L + i / 64 := by omega
    have e4 : ((i : Int) % 64).toNat = i % 64 := by omega
    have e5 : ((i : Nat) : Int).toNat = i := by omega
    rw [if_pos (by omega), if_pos (by omega), if_pos (by rw [tab_len]; omega), refTop (by omega) (by omega) (by omega) (by omega) (by omega), Option.bind_some, hL, if_pos (by omega), if_pos (by rw [tab_len]; omega),
      tab_rd (by omega) (by omega), e3, e2, refHas_eq _ (by omega) (by omega) (by omega), Option.bind_some, e4, tab_rd (by omega) (by omega), e5, e1, Full_eq _ (by omega), Option.bind_some]
    have hb : (tw (M p) H L (i / 64)).getLsbD (i % 64) = decide (cnt (nw (M p) H i) 32 = 32) := by
      rw [tw_bit, show 64 * (i / 64) + i % 64 = i by omega, decide_eq_true (show i % 64 < 64 by omega), decide_eq_false (show ¬ L ≤ i by omega), Bool.true_and, Bool.false_or]; rfl
    rw [hb, if_neg (by simp)]
    obtain ⟨dd, hdd⟩ : ∃ dd, 32 - cnt (nw (M p) H i) 32 = dd := ⟨_, rfl⟩
    have hd32 : dd ≤ 32 := by rw [← hdd]; exact Nat.sub_le _ _
    have hk2 : dd + (d * 500 + K) + 300 < k := hk1 dd hd32
    have := use_l1 B H s w q t hl h1 h2 hr (tab (L + T + 1) (cw (M p) H L T)) L i (by omega) hfr (d * 500 + K) (fun k hk => by
      have := ih k (i + 1) (by omega) (by omega) hk
      rw [show (32 : Int) * ((i + 1 : Nat) : Int) = 32 * (i : Int) + 32 by omega] at this
      exact this) dd k (nw (M p) H i) 0 (fun j hj hjb => by rw [nw_bit, decide_eq_true hj, Bool.true_and] at hjb; exact hjb) (Nat.add_zero _).symm hdd hk2
    rw [show fr (M p) H (32 * (i : Int)) + ((0 : Nat) : Int) = fr (M p) H (32 * (i : Int)) by omega] at this
    exact this
theorem WordUsable : lodgerlaw07_WordUsable.Pure := by
  intro B p l s w q t w0 w1 hl w2 w3 w4 w5 w6
  have b0 := wf_u32 w0
  refine ⟨l.length + 100000, ?_⟩
  generalize hK : l.length + 100000 = k
  obtain ⟨m, rfl, hm⟩ := more (k := k) (N := l.length + 99999) (by omega)
  have hj : lodgerlaw07_WordUsable.j0 (m + 1) true B p l s w q t = some true := by
    simp only [lodgerlaw07_WordUsable.j0, ↓reduceIte]; rw [awake_true (by omega)]; rfl
  unfold lodgerlaw07_WordUsable.f
  rw [awake_true (by omega), Option.bind_some, if_pos rfl, ref05May_eq l s w q t hl b0.1 b0.2 (by omega), Option.bind_some]
  cases hc : cmay B p l s w q t with
  | false => rw [if_neg (by simp), hj]
  | true =>
    obtain ⟨h1, h2, h3, h4, h5⟩ := cmay_head hc
    have hb := M_bounds h1 h2
    have hr := cmay_rises hc
    have hx : ∀ x ∈ l, 0 ≤ x ∧ x < 70000 := fun x hx => by have := rises_bounds hr x hx; omega
    rw [if_pos rfl, ref05Many_eq B h1 h2 (by omega), Option.bind_some]
    by_cases hm : M p > 1024
    · rw [decide_eq_true hm, hj]
    · rw [decide_eq_false hm]
      simp only [lodgerlaw07_WordUsable.j0]
      have hL : (M p + 31) / 32 = (((M p + 31) / 32).toNat : Nat) := by omega
      generalize ((M p + 31) / 32).toNat = L at hL
      rw [if_neg (by simp), ref05Many_eq B h1 h2 (by omega), Option.bind_some, wCells_eq B l s w q t (by omega) h1 h2 hx hL rfl (by omega), Option.bind_some, refLeaves (by omega) (by omega) (by omega), Option.bind_some,
        refCells (by omega) (by omega) (by omega), Option.bind_some, hL, if_pos (by rw [tab_len]; omega)]
      have := use_l0 B l s w q t (by omega) h1 h2 hr hL rfl 6000 (Nat.le_refl _) L m 0 (by omega) (by omega) (by omega)
      rw [show fr (M p) l (32 * ((0 : Nat) : Int)) = 0 by
        unfold fr
        rw [show (32 * ((0 : Nat) : Int)) = 0 by omega, below_none (fun x h => (hx x h).1), if_pos (by omega)]; rfl] at this
      exact this

end Go.Proofs.Ytdbpdpdpabhfbaa.Pure
