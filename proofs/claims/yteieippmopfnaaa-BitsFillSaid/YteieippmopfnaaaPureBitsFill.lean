/- BitsFill answers true at every input: bits are filled first by first; no condition. -/
import Derived.Test.YteieippmopfnaaaQBitsFillx1
namespace Go.Proofs.Yteieippmopfnaaa.Pure
open Go.RowKit Go.Proofs.Yteieippmopfnaaa.PBitsFill Go.Proofs.YteieippmopfnaaaW.PrintWords Go.Proofs.YteieippmopfnaaaW.PrintLast Go.Proofs.YteieippmopfnaaaW.PrintMore
set_option linter.unusedVariables false
set_option linter.unusedSimpArgs false

theorem w64 {x : Int} (h1 : -9223372036854775808 ≤ x) (h2 : x ≤ 9223372036854775807) : wrap64 x = x := by unfold wrap64; omega
theorem td {a b : Int} (h : 0 ≤ a) : Int.tdiv a b = a / b := Int.tdiv_eq_ediv_of_nonneg h
theorem tm {a b : Int} (h : 0 ≤ a) : Int.tmod a b = a % b := Int.tmod_eq_emod_of_nonneg h
theorem more {k N : Nat} (h : N + 1 ≤ k) : ∃ m, k = m + 1 ∧ N ≤ m := ⟨k - 1, by omega, by omega⟩
theorem wf_u16 {a : Int} (h : (Lit.int .u16 a).wf = true) : 0 ≤ a ∧ a ≤ 65535 := by
  simp [Lit.wf, IntKind.min, IntKind.max, IntKind.signed, IntKind.bits] at h
  omega
theorem wf_u8 {a : Int} (h : (Lit.int .u8 a).wf = true) : 0 ≤ a ∧ a ≤ 255 := by
  simp [Lit.wf, IntKind.min, IntKind.max, IntKind.signed, IntKind.bits] at h
  omega
theorem wf_u32 {a : Int} (h : (Lit.int .u32 a).wf = true) : 0 ≤ a ∧ a ≤ 4294967295 := by
  simp [Lit.wf, IntKind.min, IntKind.max, IntKind.signed, IntKind.bits] at h
  omega
theorem wf_u64 {a : Int} (h : (Lit.int .u64 a).wf = true) : 0 ≤ a ∧ a ≤ 18446744073709551615 := by
  simp [Lit.wf, IntKind.min, IntKind.max, IntKind.signed, IntKind.bits] at h
  omega
theorem wf_i64 {a : Int} (h : (Lit.int .i64 a).wf = true) : -9223372036854775808 ≤ a ∧ a ≤ 9223372036854775807 := by
  simp [Lit.wf, IntKind.min, IntKind.max, IntKind.signed, IntKind.bits] at h
  omega

/-- A word, as the machine's number. -/
def U (x : BitVec 64) : Int := (x.toNat : Int)
theorem U_lt (x : BitVec 64) : 0 ≤ U x ∧ U x < 18446744073709551616 := by have := x.isLt; unfold U; omega
theorem U_of {a : Int} (h0 : 0 ≤ a) (h1 : a ≤ 18446744073709551615) : ∃ x : BitVec 64, a = U x := by
  refine ⟨BitVec.ofNat 64 a.toNat, ?_⟩
  unfold U
  rw [BitVec.toNat_ofNat, Nat.mod_eq_of_lt (by omega)]
  omega
theorem U_inj {x y : BitVec 64} (h : U x = U y) : x = y := by unfold U at h; exact BitVec.eq_of_toNat_eq (by omega)
theorem U_eq {x y : BitVec 64} : (U x == U y) = (x == y) := by
  rw [Bool.eq_iff_iff, beq_iff_eq, beq_iff_eq]; exact ⟨U_inj, fun h => by rw [h]⟩
theorem wrapu (n : Int) : IntKind.u64.wrap n = n % 18446744073709551616 := by simp [IntKind.wrap, IntKind.bits, IntKind.signed]
theorem wrapu_small {n : Int} (h0 : 0 ≤ n) (h1 : n < 18446744073709551616) : IntKind.u64.wrap n = n := by rw [wrapu]; omega
theorem wrapu_U (x : BitVec 64) : IntKind.u64.wrap ((x.toNat : Nat) : Int) = U x := by have := x.isLt; unfold U; rw [wrapu]; omega
theorem ofInt_U (x : BitVec 64) : BitVec.ofInt 64 (U x) = x := by unfold U; rw [BitVec.ofInt_natCast]; simp
theorem bits_or_U (x y : BitVec 64) : Go.bits .or .u64 (U x) (U y) = U (x ||| y) := by
  show IntKind.u64.wrap ((BitVec.ofInt 64 (U x) ||| BitVec.ofInt 64 (U y)).toNat : Nat) = _
  rw [ofInt_U, ofInt_U, wrapu_U]
theorem bits_and_U (x y : BitVec 64) : Go.bits .and .u64 (U x) (U y) = U (x &&& y) := by
  show IntKind.u64.wrap ((BitVec.ofInt 64 (U x) &&& BitVec.ofInt 64 (U y)).toNat : Nat) = _
  rw [ofInt_U, ofInt_U, wrapu_U]
theorem bits_xor_U (x y : BitVec 64) : Go.bits .xor .u64 (U x) (U y) = U (x ^^^ y) := by
  show IntKind.u64.wrap ((BitVec.ofInt 64 (U x) ^^^ BitVec.ofInt 64 (U y)).toNat : Nat) = _
  rw [ofInt_U, ofInt_U, wrapu_U]
theorem bits_andNot_U (x y : BitVec 64) : Go.bits .andNot .u64 (U x) (U y) = U (x &&& ~~~y) := by
  show IntKind.u64.wrap ((BitVec.ofInt 64 (U x) &&& ~~~BitVec.ofInt 64 (U y)).toNat : Nat) = _
  rw [ofInt_U, ofInt_U, wrapu_U]
theorem shl_U {i : Int} (h0 : 0 ≤ i) (h1 : i < 64) : shl .u64 1 i = U (BitVec.twoPow 64 i.toNat) := by
  unfold shl U
  rw [Nat.min_eq_left (by simp [IntKind.bits]; omega), BitVec.toNat_twoPow, wrapu, Int.one_mul]
  simp
theorem shr_U (x : BitVec 64) {i : Int} (h0 : 0 ≤ i) (h1 : i < 64) : shr .u64 (U x) i = U (x >>> i.toNat) := by
  unfold shr U
  rw [Nat.min_eq_left (by simp [IntKind.bits]; omega), BitVec.toNat_ushiftRight, Nat.shiftRight_eq_div_pow]
  simp
theorem one_U : (1 : Int) = U 1#64 := rfl
theorem bit_U (x : BitVec 64) (i : Nat) : (Go.bits .and .u64 (U (x >>> i)) 1 == 1) = x.getLsbD i := by
  rw [one_U, bits_and_U, U_eq, Bool.eq_iff_iff, beq_iff_eq]
  constructor
  · intro h
    have := congrArg (fun z => z.getLsbD 0) h
    simpa using this
  · intro h
    apply BitVec.eq_of_getLsbD_eq
    intro j hj
    rw [BitVec.getLsbD_and, BitVec.getLsbD_one, BitVec.getLsbD_ushiftRight]
    by_cases hz : j = 0
    · subst hz; simp [h]
    · simp [hz]
theorem bitn_U (x : BitVec 64) (i : Nat) : Go.bits .and .u64 (U (x >>> i)) 1 = (if x.getLsbD i = true then 1 else 0) := by
  have h := bit_U x i
  have hb : Go.bits .and .u64 (U (x >>> i)) 1 = 0 ∨ Go.bits .and .u64 (U (x >>> i)) 1 = 1 := by
    rw [one_U, bits_and_U]
    unfold U
    rw [BitVec.toNat_and]
    have : (x >>> i).toNat &&& (1#64).toNat ≤ 1 := Nat.and_le_right
    simp at this ⊢
    omega
  split
  · rename_i hg; rw [hg] at h; exact eq_of_beq h
  · rename_i hg
    rcases hb with hb | hb
    · exact hb
    · rw [hb] at h; exact absurd h.symm hg
/-- The word of the lowest bits. -/
def mask (n : Nat) : BitVec 64 := BitVec.ofNat 64 (2 ^ n - 1)
theorem mask_bit (n j : Nat) (hj : j < 64) : (mask n).getLsbD j = decide (j < n) := by
  unfold mask
  rw [BitVec.getLsbD_ofNat, Nat.testBit_two_pow_sub_one]
  simp [hj]
/-- How many of the first n bits are set. -/
def cnt (x : BitVec 64) : Nat → Nat
  | 0 => 0
  | n + 1 => cnt x n + (if x.getLsbD n = true then 1 else 0)
theorem cnt_le (x : BitVec 64) (n : Nat) : cnt x n ≤ n := by
  induction n with
  | zero => simp [cnt]
  | succ n ih => simp only [cnt]; split <;> omega
theorem cnt_mono (x : BitVec 64) {n m : Nat} (h : n ≤ m) : cnt x n ≤ cnt x m := by
  induction h with
  | refl => omega
  | step _ ih => simp only [cnt]; omega
theorem cnt_all (x : BitVec 64) (n : Nat) (h : ∀ j, j < n → x.getLsbD j = true) : cnt x n = n := by
  induction n with
  | zero => simp [cnt]
  | succ n ih => simp only [cnt]; rw [ih (fun j hj => h j (by omega)), if_pos (h n (by omega))]
theorem cnt_lt (x : BitVec 64) (n i : Nat) (hi : i < n) (h : x.getLsbD i = false) : cnt x n < n := by
  induction n with
  | zero => omega
  | succ n ih =>
    simp only [cnt]
    by_cases he : i = n
    · subst he; rw [h]; have := cnt_le x i; simp; omega
    · have := ih (by omega); split <;> omega
theorem cnt_congr (x y : BitVec 64) (n : Nat) (h : ∀ j, j < n → x.getLsbD j = y.getLsbD j) : cnt x n = cnt y n := by
  induction n with
  | zero => simp [cnt]
  | succ n ih => simp only [cnt]; rw [ih (fun j hj => h j (by omega)), h n (by omega)]
theorem cnt_set (x : BitVec 64) (n i : Nat) (hi : i < n) (hn : n ≤ 64) (h : x.getLsbD i = false) : cnt (x ||| BitVec.twoPow 64 i) n = cnt x n + 1 := by
  induction n with
  | zero => omega
  | succ n ih =>
    simp only [cnt, BitVec.getLsbD_or, BitVec.getLsbD_twoPow]
    by_cases he : i = n
    · subst he
      rw [cnt_congr (x ||| BitVec.twoPow 64 i) x i (fun j hj => by simp [BitVec.getLsbD_or, BitVec.getLsbD_twoPow]; omega), h]
      simp; omega
    · rw [ih (by omega) (by omega)]
      simp [he]; omega

theorem Has_eq (x : BitVec 64) {i : Int} (h0 : 0 ≤ i) (h1 : i < 64) : bits_Has.f (U x) i = some (x.getLsbD i.toNat) := by
  unfold bits_Has.f
  rw [wrapu_small h0 (by omega), if_pos h0, shr_U x h0 h1, bit_U]

theorem Set_eq (x : BitVec 64) {i : Int} (h0 : 0 ≤ i) (h1 : i < 64) : bits_Set.f (U x) i = some (U (x ||| BitVec.twoPow 64 i.toNat)) := by
  unfold bits_Set.f
  rw [wrapu_small h0 (by omega), if_pos h0, shl_U h0 h1, bits_or_U]
theorem Clear_eq (x : BitVec 64) {i : Int} (h0 : 0 ≤ i) (h1 : i < 64) : bits_Clear.f (U x) i = some (U (x &&& ~~~BitVec.twoPow 64 i.toNat)) := by
  unfold bits_Clear.f
  rw [wrapu_small h0 (by omega), if_pos h0, shl_U h0 h1, bits_andNot_U]

theorem Mask_eq {n : Int} (h0 : 0 ≤ n) (h1 : n ≤ 64) : bits_Mask.f n = some (U (mask n.toNat)) := by
  unfold bits_Mask.f
  rw [wrapu_small h0 (by omega), if_pos h0]
  congr 1
  unfold mask U shl
  have hp : 0 < 2 ^ n.toNat := Nat.two_pow_pos _
  have hq : 2 ^ n.toNat ≤ 2 ^ 64 := Nat.pow_le_pow_right (by decide) (by omega)
  rw [Nat.min_eq_left (by simp [IntKind.bits]; omega), BitVec.toNat_ofNat, wrapu, wrapu, Nat.mod_eq_of_lt (by omega), Int.one_mul]
  rw [show ((2 : Int) ^ n.toNat) = ((2 ^ n.toNat : Nat) : Int) by simp]
  generalize 2 ^ n.toNat = P at *
  omega

theorem Count_l0 (x : BitVec 64) {n : Int} (h1 : n ≤ 64) (d : Nat) : ∀ (k : Nat) (i : Int), 0 ≤ i → i ≤ n → n - i = d → d < k → bits_Count.l0 k (U x) (cnt x i.toNat) n i = some (cnt x n.toNat : Int) := by
  induction d with
  | zero =>
    intro k i hi0 hi1 hd hk
    obtain ⟨k, rfl⟩ : ∃ m, k = m + 1 := ⟨k - 1, by omega⟩
    simp only [bits_Count.l0]; rw [if_neg (by omega)]; congr 2; congr 1; omega
  | succ d ih =>
    intro k i hi0 hi1 hd hk
    obtain ⟨k, rfl⟩ : ∃ m, k = m + 1 := ⟨k - 1, by omega⟩
    have hc := cnt_le x i.toNat
    simp only [bits_Count.l0]
    rw [if_pos (by omega), wrapu_small (n := i) (by omega) (by omega), if_pos (by omega), shr_U x (by omega) (by omega), bitn_U, w64 (x := i + 1) (by omega) (by omega),
      w64 (x := if x.getLsbD i.toNat = true then 1 else 0) (by split <;> omega) (by split <;> omega), w64 (by split <;> omega) (by split <;> omega)]
    have := ih k (i + 1) (by omega) (by omega) (by omega) (by omega)
    rw [show (i + 1).toNat = i.toNat + 1 by omega] at this
    simp only [cnt] at this
    rw [← this]
    congr 1
    split <;> omega
theorem Count_eq (x : BitVec 64) {n : Int} (h0 : 0 ≤ n) (h1 : n ≤ 64) {k : Nat} (hk : 70 ≤ k) : bits_Count.f k (U x) n = some (cnt x n.toNat : Int) := by
  unfold bits_Count.f
  exact Count_l0 x h1 n.toNat k 0 (by omega) (by omega) (by omega) (by omega)

theorem First_l0 (x : BitVec 64) {n : Int} (h1 : n ≤ 64) (d : Nat) : ∀ (i : Int), 0 ≤ i → i ≤ n → n - i = d → (∀ j : Nat, j < i.toNat → x.getLsbD j = true) →
    (∃ a : Nat, a < n ∧ x.getLsbD a = false ∧ (∀ j : Nat, j < a → x.getLsbD j = true) ∧ ∀ k, d < k → bits_First.l0 k (U x) n i = some ((a : Int), true)) ∨
    ((∀ j : Nat, j < n → x.getLsbD j = true) ∧ ∀ k, d < k → bits_First.l0 k (U x) n i = some (0, false)) := by
  induction d with
  | zero =>
    intro i hi0 hi1 hd hb
    refine .inr ⟨fun j hj => hb j (by omega), fun k hk => ?_⟩
    obtain ⟨k, rfl⟩ : ∃ m, k = m + 1 := ⟨k - 1, by omega⟩
    simp only [bits_First.l0]; rw [if_neg (by omega)]
  | succ d ih =>
    intro i hi0 hi1 hd hb
    cases hg : x.getLsbD i.toNat with
    | false =>
      refine .inl ⟨i.toNat, by omega, hg, hb, fun k hk => ?_⟩
      obtain ⟨k, rfl⟩ : ∃ m, k = m + 1 := ⟨k - 1, by omega⟩
      simp only [bits_First.l0]; rw [if_pos (by omega), Has_eq x (by omega) (by omega), Option.bind_some, hg, if_neg (by simp), Int.toNat_of_nonneg hi0]
    | true =>
      have hs : ∀ k, d + 1 < k + 1 → bits_First.l0 (k + 1) (U x) n i = bits_First.l0 k (U x) n (i + 1) := by
        intro k hk
        simp only [bits_First.l0]; rw [if_pos (by omega), Has_eq x (by omega) (by omega), Option.bind_some, hg, if_pos rfl, w64 (by omega) (by omega)]
      have hb' : ∀ j : Nat, j < (i + 1).toNat → x.getLsbD j = true := by
        intro j hj
        by_cases he : j = i.toNat
        · subst he; exact hg
        · exact hb j (by omega)
      rcases ih (i + 1) (by omega) (by omega) (by omega) hb' with ⟨a, h2, h3, h4, h5⟩ | ⟨h2, h3⟩
      · refine .inl ⟨a, h2, h3, h4, fun k hk => ?_⟩
        obtain ⟨k, rfl⟩ : ∃ m, k = m + 1 := ⟨k - 1, by omega⟩
        rw [hs k (by omega)]; exact h5 k (by omega)
      · refine .inr ⟨h2, fun k hk => ?_⟩
        obtain ⟨k, rfl⟩ : ∃ m, k = m + 1 := ⟨k - 1, by omega⟩
        rw [hs k (by omega)]; exact h3 k (by omega)
theorem First_eq (x : BitVec 64) {n : Int} (h0 : 0 ≤ n) (h1 : n ≤ 64) :
    (∃ a : Nat, a < n ∧ x.getLsbD a = false ∧ (∀ j : Nat, j < a → x.getLsbD j = true) ∧ ∀ k, 70 ≤ k → bits_First.f k (U x) n = some ((a : Int), true)) ∨
    ((∀ j : Nat, j < n → x.getLsbD j = true) ∧ ∀ k, 70 ≤ k → bits_First.f k (U x) n = some (0, false)) := by
  unfold bits_First.f
  rcases First_l0 x h1 n.toNat 0 (by omega) (by omega) (by omega) (fun j hj => by omega) with ⟨a, h2, h3, h4, h5⟩ | ⟨h2, h3⟩
  · exact .inl ⟨a, h2, h3, h4, fun k hk => h5 k (by omega)⟩
  · exact .inr ⟨h2, fun k hk => h3 k (by omega)⟩

theorem awake_true {k : Nat} (hk : 100 ≤ k) : lodgerlaw01_awake.f k = some true := at_rounds lodgerlaw01_awake.mono hk (by decide +kernel)
theorem end_j1 (x y : BitVec 64) {n : Int} (h0 : 0 ≤ n) (h1 : n ≤ 64) (hy : ∀ j : Nat, j < n → y.getLsbD j = true) (hxy : ∀ j : Nat, n ≤ j → y.getLsbD j = x.getLsbD j) (k : Nat) (hk : 1 ≤ k) : lodgerlaw01_BitsFill.j1 k (U x) n n (U y) = some true := by
  obtain ⟨k, rfl⟩ : ∃ m, k = m + 1 := ⟨k - 1, by omega⟩
  simp only [lodgerlaw01_BitsFill.j1, Mask_eq h0 h1, bits_and_U, bits_or_U, Option.bind_some, ↓reduceIte]
  rw [if_pos, U_eq]
  · simp only [Option.some.injEq, beq_iff_eq]
    apply BitVec.eq_of_getLsbD_eq
    intro j hj
    simp only [BitVec.getLsbD_or, mask_bit _ _ hj]
    by_cases e : (j : Int) < n
    · have : j < n.toNat := by omega
      simp [this]
    · rw [hxy j (by omega)]
  · congr 1
    apply BitVec.eq_of_getLsbD_eq
    intro j hj
    simp only [BitVec.getLsbD_and, mask_bit _ _ hj]
    by_cases e : (j : Int) < n
    · rw [hy j e]; simp
    · have : ¬ j < n.toNat := by omega
      simp [this]
theorem fill_l0 (x : BitVec 64) {n : Int} (h0 : 0 ≤ n) (h1 : n ≤ 64) (d : Nat) : ∀ (k : Nat) (y : BitVec 64) (i : Nat), n.toNat - cnt y n.toNat = d → i + d ≤ 64 → d + 100 < k → (∀ j : Nat, n ≤ j → y.getLsbD j = x.getLsbD j) →
    lodgerlaw01_BitsFill.l0 k (U x) n (cnt y n.toNat : Int) (U y) i = some true := by
  induction d with
  | zero =>
    intro k y i hd hi hk hxy
    have hc := cnt_le y n.toNat
    have hall : ∀ j : Nat, j < n → y.getLsbD j = true := by
      intro j hj
      cases hg : y.getLsbD j with
      | true => rfl
      | false => have := cnt_lt y n.toNat j (by omega) hg; omega
    have hn : (cnt y n.toNat : Int) = n := by omega
    obtain ⟨k, rfl⟩ : ∃ m, k = m + 1 := ⟨k - 1, by omega⟩
    simp only [lodgerlaw01_BitsFill.l0]
    by_cases hi64 : (i : Int) < 64
    · rw [if_pos hi64]
      rcases First_eq y h0 h1 with ⟨b, g1, g2, g3, g4⟩ | ⟨g1, g2⟩
      · rw [hall b g1] at g2; cases g2
      · rw [g2 k (by omega)]
        simp only [Option.bind_some]
        rw [if_neg (by simp), hn]
        exact end_j1 x y h0 h1 hall hxy k (by omega)
    · rw [if_neg hi64, hn]
      exact end_j1 x y h0 h1 hall hxy k (by omega)
  | succ d ih =>
    intro k y i hd hi hk hxy
    have hc := cnt_le y n.toNat
    obtain ⟨k, rfl⟩ : ∃ m, k = m + 1 := ⟨k - 1, by omega⟩
    simp only [lodgerlaw01_BitsFill.l0]
    rw [if_pos (by omega)]
    rcases First_eq y h0 h1 with ⟨b, g1, g2, g3, g4⟩ | ⟨g1, g2⟩
    · have hs := cnt_set y n.toNat b (by omega) (by omega) g2
      rw [g4 k (by omega)]
      simp only [Option.bind_some, ↓reduceIte]
      rw [Set_eq _ (by omega) (by omega), Option.bind_some, Int.toNat_natCast, w64 (x := (cnt y n.toNat : Int) + 1) (by omega) (by omega), w64 (by omega) (by omega)]
      have := ih k (y ||| BitVec.twoPow 64 b) (i + 1) (by omega) (by omega) (by omega) (fun j hj => by
        rw [BitVec.getLsbD_or, BitVec.getLsbD_twoPow, hxy j hj]
        have : ¬ b = j := by omega
        simp [this])
      rw [hs, Int.natCast_add, Int.natCast_one, Int.natCast_add, Int.natCast_one] at this
      exact this
    · have := cnt_all y n.toNat (fun j hj => g1 j (by omega))
      omega
theorem BitsFill : lodgerlaw01_BitsFill.Pure := by
  intro a0 a1 w0 w1
  have b0 := wf_u64 w0
  have b1 := wf_u8 w1
  refine ⟨300, ?_⟩
  generalize hK : 300 = k
  have hk : 300 ≤ k := by omega
  clear hK
  obtain ⟨x, rfl⟩ := U_of b0.1 b0.2
  have e1 : wrap64 (Int.tmod a1 65) = a1 % 65 := by rw [tm (by omega), w64 (by omega) (by omega)]
  unfold lodgerlaw01_BitsFill.f
  rw [awake_true (by omega), Option.bind_some, if_pos rfl, e1]
  have h1 : 0 ≤ a1 % 65 ∧ a1 % 65 ≤ 64 := by omega
  generalize a1 % 65 = n at h1
  rw [Count_eq x h1.1 h1.2 (by omega), Option.bind_some]
  exact fill_l0 x h1.1 h1.2 (n.toNat - cnt x n.toNat) k x 0 rfl (by omega) (by omega) (fun j hj => rfl)

end Go.Proofs.Yteieippmopfnaaa.Pure
