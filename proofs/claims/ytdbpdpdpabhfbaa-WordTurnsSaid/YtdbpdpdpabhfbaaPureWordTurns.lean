/- WordTurns answers true at every input: of whatever claims and drops the changes are as many as these, and each bit is as it was left; no condition. -/
import Derived.Test.YtdbpdpdpabhfbaaQWordTurnsx4
namespace Go.Proofs.Ytdbpdpdpabhfbaa.Pure
open Go.RowKit Go.Proofs.Ytdbpdpdpabhfbaa.PWordTurns Go.Proofs.YtdbpdpdpabhfbaaW.PrintWords Go.Proofs.YtdbpdpdpabhfbaaW.PrintLast Go.Proofs.YtdbpdpdpabhfbaaW.PrintMore
set_option linter.unusedVariables false
set_option linter.unusedSimpArgs false

theorem w64 {x : Int} (h1 : -9223372036854775808 ≤ x) (h2 : x ≤ 9223372036854775807) : wrap64 x = x := by unfold wrap64; omega
theorem td {a b : Int} (h : 0 ≤ a) : Int.tdiv a b = a / b := Int.tdiv_eq_ediv_of_nonneg h
theorem tm {a b : Int} (h : 0 ≤ a) : Int.tmod a b = a % b := Int.tmod_eq_emod_of_nonneg h
theorem more {k N : Nat} (h : N + 1 ≤ k) : ∃ m, k = m + 1 ∧ N ≤ m := ⟨k - 1, by omega, by omega⟩
theorem wf_u16 {a : Int} (h : (Lit.int .u16 a).wf = true) : 0 ≤ a ∧ a ≤ 65535 := by
  simp [Lit.wf, IntKind.min, IntKind.max, IntKind.signed, IntKind.bits] at h
  omega
theorem wf_u8 {a : Int} (h : (Lit.int .u8 a).wf = true) : 0 ≤ a ∧ a ≤ 255 := by
  simp [Lit.wf, IntKind.min, IntKind.max, IntKind.signed, IntKind.bits] at h
  omega
theorem wf_u32 {a : Int} (h : (Lit.int .u32 a).wf = true) : 0 ≤ a ∧ a ≤ 4294967295 := by
  simp [Lit.wf, IntKind.min, IntKind.max, IntKind.signed, IntKind.bits] at h
  omega
theorem wf_u64 {a : Int} (h : (Lit.int .u64 a).wf = true) : 0 ≤ a ∧ a ≤ 18446744073709551615 := by
  simp [Lit.wf, IntKind.min, IntKind.max, IntKind.signed, IntKind.bits] at h
  omega
theorem wf_i64 {a : Int} (h : (Lit.int .i64 a).wf = true) : -9223372036854775808 ≤ a ∧ a ≤ 9223372036854775807 := by
  simp [Lit.wf, IntKind.min, IntKind.max, IntKind.signed, IntKind.bits] at h
  omega

/-- A word, as the machine's number. -/
def U (x : BitVec 64) : Int := (x.toNat : Int)
theorem U_lt (x : BitVec 64) : 0 ≤ U x ∧ U x < 18446744073709551616 := by have := x.isLt; unfold U; omega
theorem U_of {a : Int} (h0 : 0 ≤ a) (h1 : a ≤ 18446744073709551615) : ∃ x : BitVec 64, a = U x := by
  refine ⟨BitVec.ofNat 64 a.toNat, ?_⟩
  unfold U
  rw [BitVec.toNat_ofNat, Nat.mod_eq_of_lt (by omega)]
  omega
theorem U_inj {x y : BitVec 64} (h : U x = U y) : x = y := by unfold U at h; exact BitVec.eq_of_toNat_eq (by omega)
theorem U_eq {x y : BitVec 64} : (U x == U y) = (x == y) := by
  rw [Bool.eq_iff_iff, beq_iff_eq, beq_iff_eq]; exact ⟨U_inj, fun h => by rw [h]⟩
theorem wrapu (n : Int) : IntKind.u64.wrap n = n % 18446744073709551616 := by simp [IntKind.wrap, IntKind.bits, IntKind.signed]
theorem wrapu_small {n : Int} (h0 : 0 ≤ n) (h1 : n < 18446744073709551616) : IntKind.u64.wrap n = n := by rw [wrapu]; omega
theorem wrapu_U (x : BitVec 64) : IntKind.u64.wrap ((x.toNat : Nat) : Int) = U x := by have := x.isLt; unfold U; rw [wrapu]; omega
theorem ofInt_U (x : BitVec 64) : BitVec.ofInt 64 (U x) = x := by unfold U; rw [BitVec.ofInt_natCast]; simp
theorem bits_or_U (x y : BitVec 64) : Go.bits .or .u64 (U x) (U y) = U (x ||| y) := by
  show IntKind.u64.wrap ((BitVec.ofInt 64 (U x) ||| BitVec.ofInt 64 (U y)).toNat : Nat) = _
  rw [ofInt_U, ofInt_U, wrapu_U]
theorem bits_and_U (x y : BitVec 64) : Go.bits .and .u64 (U x) (U y) = U (x &&& y) := by
  show IntKind.u64.wrap ((BitVec.ofInt 64 (U x) &&& BitVec.ofInt 64 (U y)).toNat : Nat) = _
  rw [ofInt_U, ofInt_U, wrapu_U]
theorem bits_xor_U (x y : BitVec 64) : Go.bits .xor .u64 (U x) (U y) = U (x ^^^ y) := by
  show IntKind.u64.wrap ((BitVec.ofInt 64 (U x) ^^^ BitVec.ofInt 64 (U y)).toNat : Nat) = _
  rw [ofInt_U, ofInt_U, wrapu_U]
theorem bits_andNot_U (x y : BitVec 64) : Go.bits .andNot .u64 (U x) (U y) = U (x &&& ~~~y) := by
  show IntKind.u64.wrap ((BitVec.ofInt 64 (U x) &&& ~~~BitVec.ofInt 64 (U y)).toNat : Nat) = _
  rw [ofInt_U, ofInt_U, wrapu_U]
theorem shl_U {i : Int} (h0 : 0 ≤ i) (h1 : i < 64) : shl .u64 1 i = U (BitVec.twoPow 64 i.toNat) := by
  unfold shl U
  rw [Nat.min_eq_left (by simp [IntKind.bits]; omega), BitVec.toNat_twoPow, wrapu, Int.one_mul]
  simp
theorem shr_U (x : BitVec 64) {i : Int} (h0 : 0 ≤ i) (h1 : i < 64) : shr .u64 (U x) i = U (x >>> i.toNat) := by
  unfold shr U
  rw [Nat.min_eq_left (by simp [IntKind.bits]; omega), BitVec.toNat_ushiftRight, Nat.shiftRight_eq_div_pow]
  simp
theorem one_U : (1 : Int) = U 1#64 := rfl
theorem bit_U (x : BitVec 64) (i : Nat) : (Go.bits .and .u64 (U (x >>> i)) 1 == 1) = x.getLsbD i := by
  rw [one_U, bits_and_U, U_eq, Bool.eq_iff_iff, beq_iff_eq]
  constructor
  · intro h
    have := congrArg (fun z => z.getLsbD 0) h
    simpa using this
  · intro h
    apply BitVec.eq_of_getLsbD_eq
    intro j hj
    rw [BitVec.getLsbD_and, BitVec.getLsbD_one, BitVec.getLsbD_ushiftRight]
    by_cases hz : j = 0
    · subst hz; simp [h]
    · simp [hz]
theorem bitn_U (x : BitVec 64) (i : Nat) : Go.bits .and .u64 (U (x >>> i)) 1 = (if x.getLsbD i = true then 1 else 0) := by
  have h := bit_U x i
  have hb : Go.bits .and .u64 (U (x >>> i)) 1 = 0 ∨ Go.bits .and .u64 (U (x >>> i)) 1 = 1 := by
    rw [one_U, bits_and_U]
    unfold U
    rw [BitVec.toNat_and]
    have : (x >>> i).toNat &&& (1#64).toNat ≤ 1 := Nat.and_le_right
    simp at this ⊢
    omega
  split
  · rename_i hg; rw [hg] at h; exact eq_of_beq h
  · rename_i hg
    rcases hb with hb | hb
    · exact hb
    · rw [hb] at h; exact absurd h.symm hg
/-- The word of the lowest bits. -/
def mask (n : Nat) : BitVec 64 := BitVec.ofNat 64 (2 ^ n - 1)
theorem mask_bit (n j : Nat) (hj : j < 64) : (mask n).getLsbD j = decide (j < n) := by
  unfold mask
  rw [BitVec.getLsbD_ofNat, Nat.testBit_two_pow_sub_one]
  simp [hj]
/-- How many of the first n bits are set. -/
def cnt (x : BitVec 64) : Nat → Nat
  | 0 => 0
  | n + 1 => cnt x n + (if x.getLsbD n = true then 1 else 0)
theorem cnt_le (x : BitVec 64) (n : Nat) : cnt x n ≤ n := by
  induction n with
  | zero => simp [cnt]
  | succ n ih => simp only [cnt]; split <;> omega
theorem cnt_mono (x : BitVec 64) {n m : Nat} (h : n ≤ m) : cnt x n ≤ cnt x m := by
  induction h with
  | refl => omega
  | step _ ih => simp only [cnt]; omega
theorem cnt_all (x : BitVec 64) (n : Nat) (h : ∀ j, j < n → x.getLsbD j = true) : cnt x n = n := by
  induction n with
  | zero => simp [cnt]
  | succ n ih => simp only [cnt]; rw [ih (fun j hj => h j (by omega)), if_pos (h n (by omega))]
theorem cnt_lt (x : BitVec 64) (n i : Nat) (hi : i < n) (h : x.getLsbD i = false) : cnt x n < n := by
  induction n with
  | zero => omega
  | succ n ih =>
    simp only [cnt]
    by_cases he : i = n
    · subst he; rw [h]; have := cnt_le x i; simp; omega
    · have := ih (by omega); split <;> omega
theorem cnt_congr (x y : BitVec 64) (n : Nat) (h : ∀ j, j < n → x.getLsbD j = y.getLsbD j) : cnt x n = cnt y n := by
  induction n with
  | zero => simp [cnt]
  | succ n ih => simp only [cnt]; rw [ih (fun j hj => h j (by omega)), h n (by omega)]
theorem cnt_set (x : BitVec 64) (n i : Nat) (hi : i < n) (hn : n ≤ 64) (h : x.getLsbD i = false) : cnt (x ||| BitVec.twoPow 64 i) n = cnt x n + 1 := by
  induction n with
  | zero => omega
  | succ n ih =>
    simp only [cnt, BitVec.getLsbD_or, BitVec.getLsbD_twoPow]
    by_cases he : i = n
    · subst he
      rw [cnt_congr (x ||| BitVec.twoPow 64 i) x i (fun j hj => by simp [BitVec.getLsbD_or, BitVec.getLsbD_twoPow]; omega), h]
      simp; omega
    · rw [ih (by omega) (by omega)]
      simp [he]; omega

theorem Has_eq (x : BitVec 64) {i : Int} (h0 : 0 ≤ i) (h1 : i < 64) : bits_Has.f (U x) i = some (x.getLsbD i.toNat) := by
  unfold bits_Has.f
  rw [wrapu_small h0 (by omega), if_pos h0, shr_U x h0 h1, bit_U]

theorem Set_eq (x : BitVec 64) {i : Int} (h0 : 0 ≤ i) (h1 : i < 64) : bits_Set.f (U x) i = some (U (x ||| BitVec.twoPow 64 i.toNat)) := by
  unfold bits_Set.f
  rw [wrapu_small h0 (by omega), if_pos h0, shl_U h0 h1, bits_or_U]
theorem Clear_eq (x : BitVec 64) {i : Int} (h0 : 0 ≤ i) (h1 : i < 64) : bits_Clear.f (U x) i = some (U (x &&& ~~~BitVec.twoPow 64 i.toNat)) := by
  unfold bits_Clear.f
  rw [wrapu_small h0 (by omega), if_pos h0, shl_U h0 h1, bits_andNot_U]

theorem addc_U (y : BitVec 64) : IntKind.u64.wrap (U y + 4294967296) = U (y + 4294967296#64) := by
  have := y.isLt
  unfold U
  rw [wrapu, BitVec.toNat_add]
  simp
theorem low_bit (x : BitVec 64) (j : Nat) (hj : j < 32) : x.getLsbD j = (x.toNat % 4294967296).testBit j := by
  unfold BitVec.getLsbD
  rw [show (4294967296 : Nat) = 2 ^ 32 from rfl, Nat.testBit_mod_two_pow]
  simp [hj]
theorem addc_bit (y : BitVec 64) (j : Nat) (hj : j < 32) : (y + 4294967296#64).getLsbD j = y.getLsbD j := by
  rw [low_bit _ j hj, low_bit _ j hj]
  have e : (y + 4294967296#64).toNat % 4294967296 = y.toNat % 4294967296 := by
    rw [BitVec.toNat_add]
    have : (4294967296#64).toNat = 4294967296 := by decide +kernel
    omega
  rw [e]
/-- How often a word was changed. -/
def chg (x : BitVec 64) : Nat := x.toNat / 4294967296
theorem chg_lt (x : BitVec 64) : chg x < 4294967296 := by have := x.isLt; unfold chg; omega
theorem addc_chg (y : BitVec 64) : chg (y + 4294967296#64) = (chg y + 1) % 4294967296 := by
  have := y.isLt
  unfold chg
  rw [BitVec.toNat_add]
  have : (4294967296#64).toNat = 4294967296 := by decide +kernel
  omega
theorem chg_eq {x y : BitVec 64} (h : ∀ j, 32 ≤ j → x.getLsbD j = y.getLsbD j) : chg x = chg y := by
  have : x >>> 32 = y >>> 32 := by
    apply BitVec.eq_of_getLsbD_eq
    intro j hj
    rw [BitVec.getLsbD_ushiftRight, BitVec.getLsbD_ushiftRight]
    exact h _ (by omega)
  have h2 := congrArg BitVec.toNat this
  rw [BitVec.toNat_ushiftRight, BitVec.toNat_ushiftRight, Nat.shiftRight_eq_div_pow, Nat.shiftRight_eq_div_pow] at h2
  exact h2
def claim (x : BitVec 64) (b : Nat) : BitVec 64 := (x ||| BitVec.twoPow 64 b) + 4294967296#64
def drop (x : BitVec 64) (b : Nat) : BitVec 64 := (x &&& ~~~BitVec.twoPow 64 b) + 4294967296#64
theorem claim_chg (x : BitVec 64) {b : Nat} (hb : b < 32) : chg (claim x b) = (chg x + 1) % 4294967296 := by
  unfold claim
  rw [addc_chg, chg_eq (x := x ||| BitVec.twoPow 64 b) (y := x)]
  intro j hj
  rw [BitVec.getLsbD_or, BitVec.getLsbD_twoPow]
  have : ¬ b = j := by omega
  simp [this]
theorem drop_chg (x : BitVec 64) {b : Nat} (hb : b < 32) : chg (drop x b) = (chg x + 1) % 4294967296 := by
  unfold drop
  rw [addc_chg, chg_eq (x := x &&& ~~~BitVec.twoPow 64 b) (y := x)]
  intro j hj
  rw [BitVec.getLsbD_and, BitVec.getLsbD_not, BitVec.getLsbD_twoPow]
  have : ¬ b = j := by omega
  by_cases h : j < 64
  · simp [this, h]
  · rw [BitVec.getLsbD_of_ge x j (by omega)]; simp
theorem claim_bit (x : BitVec 64) {b j : Nat} (hj : j < 32) : (claim x b).getLsbD j = (x.getLsbD j || decide (b = j)) := by
  unfold claim
  rw [addc_bit _ j hj, BitVec.getLsbD_or, BitVec.getLsbD_twoPow]
  by_cases h : b = j
  · subst h; simp [show b < 64 by omega]
  · simp [h]
theorem drop_bit (x : BitVec 64) {b j : Nat} (hj : j < 32) : (drop x b).getLsbD j = (x.getLsbD j && !decide (b = j)) := by
  unfold drop
  rw [addc_bit _ j hj, BitVec.getLsbD_and, BitVec.getLsbD_not, BitVec.getLsbD_twoPow]
  by_cases h : b = j
  · subst h; simp [show b < 64 by omega]
  · have : j < 64 := by omega
    simp [h, this]
theorem ne_of_chg {x y : BitVec 64} (h : chg x ≠ chg y) : x ≠ y := fun e => h (by rw [e])
theorem full_iff (x : BitVec 64) : (cnt x 32 = 32) ↔ ∀ j, j < 32 → x.getLsbD j = true := by
  constructor
  · intro h j hj
    cases hg : x.getLsbD j with
    | true => rfl
    | false => have := cnt_lt x 32 j hj hg; omega
  · exact cnt_all x 32
theorem full_mod (x : BitVec 64) : (cnt x 32 = 32) ↔ x.toNat % 4294967296 = 4294967295 := by
  rw [full_iff]
  constructor
  · intro h
    apply Nat.eq_of_testBit_eq
    intro j
    rw [show (4294967295 : Nat) = 2 ^ 32 - 1 from rfl, Nat.testBit_two_pow_sub_one]
    by_cases hj : j < 32
    · rw [← low_bit x j hj, h j hj]; simp [hj]
    · rw [show (4294967296 : Nat) = 2 ^ 32 from rfl, Nat.testBit_mod_two_pow]; simp [hj]
  · intro h j hj
    rw [low_bit x j hj, h, show (4294967295 : Nat) = 2 ^ 32 - 1 from rfl, Nat.testBit_two_pow_sub_one]
    simp [hj]

theorem Used_eq (x : BitVec 64) {i : Int} (h0 : 0 ≤ i) (h1 : i < 64) : word_Used.f (U x) i = some (x.getLsbD i.toNat) := by
  unfold word_Used.f; rw [Has_eq x h0 h1]; rfl
theorem Changes_eq (x : BitVec 64) : word_Changes.f (U x) = some ((chg x : Nat) : Int) := by
  unfold word_Changes.f chg U
  have := x.isLt
  congr 1; omega
theorem Claim_eq (x : BitVec 64) {i : Int} (h0 : 0 ≤ i) (h1 : i < 64) : word_Claim.f (U x) i = some (U (claim x i.toNat)) := by
  unfold word_Claim.f claim; rw [Set_eq x h0 h1, Option.bind_some, addc_U]
theorem Drop_eq (x : BitVec 64) {i : Int} (h0 : 0 ≤ i) (h1 : i < 64) : word_Drop.f (U x) i = some (U (drop x i.toNat)) := by
  unfold word_Drop.f drop; rw [Clear_eq x h0 h1, Option.bind_some, addc_U]

theorem awake_true {k : Nat} (hk : 2000 ≤ k) : lodgerlaw07_awake.f k = some true := at_rounds lodgerlaw07_awake.mono hk (by decide +kernel)
theorem rd_mid (pre xs : List Int) (x : Int) : rd (pre ++ x :: xs) (pre.length : Int) = x := by simp [rd]
/-- A word that deeds were done to. -/
def run : BitVec 64 → List Int → BitVec 64
  | x, [] => x
  | x, d :: ds => run (if d / 32 % 2 = 0 then claim x (d % 32).toNat else drop x (d % 32).toNat) ds
/-- What a bit was left as. -/
def left (b : Int) : Bool → List Int → Bool
  | v, [] => v
  | v, d :: ds => left b (if d % 32 = b then d / 32 % 2 == 0 else v) ds
theorem run_bit (b : Nat) (hb : b < 32) : ∀ (ds : List Int) (x : BitVec 64), (run x ds).getLsbD b = left (b : Int) (x.getLsbD b) ds
  | [], x => rfl
  | d :: ds, x => by
    simp only [run, left]
    rw [run_bit b hb ds]
    congr 1
    by_cases h : d / 32 % 2 = 0
    · rw [if_pos h, claim_bit x hb]
      by_cases e : d % 32 = (b : Int)
      · rw [if_pos e, decide_eq_true (by omega)]; simp [h]
      · rw [if_neg e, decide_eq_false (by omega)]; simp
    · rw [if_neg h, drop_bit x hb]
      by_cases e : d % 32 = (b : Int)
      · rw [if_pos e, decide_eq_true (by omega)]; simp [h]
      · rw [if_neg e, decide_eq_false (by omega)]; simp
theorem run_chg : ∀ (ds : List Int) (x : BitVec 64), chg (run x ds) = (chg x + ds.length) % 4294967296
  | [], x => by have := chg_lt x; simp only [run, List.length_nil]; omega
  | d :: ds, x => by
    simp only [run, List.length_cons]
    rw [run_chg ds]
    by_cases h : d / 32 % 2 = 0
    · rw [if_pos h, claim_chg x (by omega)]; omega
    · rw [if_neg h, drop_chg x (by omega)]; omega
theorem want_l2 (x y : BitVec 64) (l : List Int) (hl : l.length ≤ 100) (hw : ∀ z ∈ l, 0 ≤ z ∧ z ≤ 255) (b : Nat) (hb : b < 32) (K : Nat) (hgo : ∀ k, K ≤ k → lodgerlaw07_WordTurns.l1 k (U x) l (U y) ((b : Int) + 1) = some true) : ∀ (xs pre : List Int) (v : Bool) (k : Nat), l = pre ++ xs → left (b : Int) v xs = y.getLsbD b → xs.length + K < k →
    lodgerlaw07_WordTurns.l2 k (U x) l (U y) (b : Int) v (pre.length : Int) = some true := by
  intro xs
  induction xs with
  | nil =>
    intro pre v k hp hv hk
    obtain ⟨k, rfl⟩ : ∃ m, k = m + 1 := ⟨k - 1, by omega⟩
    simp only [lodgerlaw07_WordTurns.l2, left] at hv ⊢
    rw [if_neg (by rw [hp]; simp), Used_eq y (by omega) (by omega), Option.bind_some, Int.toNat_natCast, hv, if_neg (by simp), w64 (by omega) (by omega)]
    exact hgo k (by omega)
  | cons d ds ih =>
    intro pre v k hp hv hk
    simp only [List.length_cons] at hk
    obtain ⟨k, rfl⟩ : ∃ m, k = m + 1 := ⟨k - 1, by omega⟩
    have hlt : pre.length < l.length := by rw [hp]; simp
    have hx : rd l (pre.length : Int) = d := by rw [hp]; exact rd_mid ..
    have hd := hw d (by rw [hp]; simp)
    have h := fun v hv => ih (pre ++ [d]) v k (by rw [hp]; simp) hv (by omega)
    simp only [List.length_append, List.length_cons, List.length_nil, Nat.zero_add, Int.natCast_add, Int.natCast_one] at h
    simp only [lodgerlaw07_WordTurns.l2, left] at hv ⊢
    rw [if_pos (by omega), if_pos (by omega), hx, tm hd.1, td hd.1, w64 (x := d % 32) (by omega) (by omega), w64 (by omega) (by omega), show (d / 32) % 256 = d / 32 by omega]
    by_cases e : d % 32 = (b : Int)
    · rw [if_pos e]; rw [if_pos e] at hv; exact h _ hv
    · rw [if_neg e]; rw [if_neg e] at hv; exact h _ hv
theorem bits_l1 (x : BitVec 64) (l : List Int) (hl : l.length ≤ 100) (hw : ∀ z ∈ l, 0 ≤ z ∧ z ≤ 255) (d : Nat) : ∀ (b : Nat), b + d = 32 → ∀ k, 100 + d * 400 ≤ k → lodgerlaw07_WordTurns.l1 k (U x) l (U (run x l)) (b : Int) = some true := by
  induction d with
  | zero =>
    intro b hb k hk
    obtain ⟨k, rfl⟩ : ∃ m, k = m + 1 := ⟨k - 1, by omega⟩
    simp only [lodgerlaw07_WordTurns.l1]; rw [if_neg (by omega)]
  | succ d ih =>
    intro b hb k hk
    obtain ⟨k, rfl⟩ : ∃ m, k = m + 1 := ⟨k - 1, by omega⟩
    have hgo := ih (b + 1) (by omega)
    simp only [lodgerlaw07_WordTurns.l1]
    rw [if_pos (by omega), Used_eq x (by omega) (by omega), Option.bind_some, Int.toNat_natCast]
    have := want_l2 x (run x l) l hl hw b (by omega) (100 + d * 400) (fun k hk => by have := hgo k hk; rwa [Int.natCast_add, Int.natCast_one] at this) l [] (x.getLsbD b) k rfl (run_bit b (by omega) l x).symm (by omega)
    exact this
theorem deeds_l0 (x : BitVec 64) (l : List Int) (hl : l.length ≤ 100) (hw : ∀ z ∈ l, 0 ≤ z ∧ z ≤ 255) : ∀ (xs pre : List Int) (y : BitVec 64) (k : Nat), l = pre ++ xs → run y xs = run x l → xs.length + 20000 < k →
    lodgerlaw07_WordTurns.l0 k (U x) l (U y) (pre.length : Int) = some true := by
  intro xs
  induction xs with
  | nil =>
    intro pre y k hp hr hk
    obtain ⟨k, rfl⟩ : ∃ m, k = m + 1 := ⟨k - 1, by omega⟩
    simp only [run] at hr
    subst hr
    have hc := run_chg l x
    simp only [lodgerlaw07_WordTurns.l0]
    rw [if_neg (by rw [hp]; simp), Changes_eq, Option.bind_some, Changes_eq, Option.bind_some, hc, if_pos (by omega)]
    exact bits_l1 x l hl hw 32 0 (by omega) k (by omega)
  | cons d ds ih =>
    intro pre y k hp hr hk
    simp only [List.length_cons] at hk
    obtain ⟨k, rfl⟩ : ∃ m, k = m + 1 := ⟨k - 1, by omega⟩
    have hlt : pre.length < l.length := by rw [hp]; simp
    have hx : rd l (pre.length : Int) = d := by rw [hp]; exact rd_mid ..
    have hd := hw d (by rw [hp]; simp)
    have h := fun y hr => ih (pre ++ [d]) y k (by rw [hp]; simp) hr (by omega)
    simp only [List.length_append, List.length_cons, List.length_nil, Nat.zero_add, Int.natCast_add, Int.natCast_one] at h
    simp only [lodgerlaw07_WordTurns.l0, run] at hr ⊢
    rw [if_pos (by omega), if_pos (by omega), hx, tm hd.1, td hd.1, w64 (x := d % 32) (by omega) (by omega), w64 (by omega) (by omega), show (d / 32) % 256 = d / 32 by omega]
    by_cases e : d / 32 % 2 = 0
    · rw [if_pos e, Claim_eq y (by omega) (by omega), Option.bind_some]; rw [if_pos e] at hr; exact h _ hr
    · rw [if_neg e, Drop_eq y (by omega) (by omega), Option.bind_some]; rw [if_neg e] at hr; exact h _ hr
theorem WordTurns : lodgerlaw07_WordTurns.Pure := by
  intro a0 l w0 hl hs wl
  have b0 := wf_u64 w0
  refine ⟨30000, ?_⟩
  generalize hK : 30000 = k
  obtain ⟨m, rfl, hm⟩ := more (k := k) (N := 29999) (by omega)
  obtain ⟨x, rfl⟩ := U_of b0.1 b0.2
  unfold lodgerlaw07_WordTurns.f
  rw [awake_true (by omega), Option.bind_some, if_pos rfl]
  simp only [lodgerlaw07_WordTurns.j0]
  by_cases c : (l.length : Int) > 100
  · rw [decide_eq_true c, if_pos rfl, awake_true (by omega)]; rfl
  · rw [decide_eq_false c, if_neg (by simp)]
    exact deeds_l0 x l (by omega) (fun z hz => wf_u8 (wl z hz)) l [] x m rfl rfl (by omega)

end Go.Proofs.Ytdbpdpdpabhfbaa.Pure
