/- SpecBack answers true at every input: what is granted and released leaves the set as it was; a batch is its releases, one behind the other; no condition. -/
import Derived.Test.YtkiimboedgnoiaaDoorQSpecBackx14
namespace Go.Proofs.YtkiimboedgnoiaaDoor.Pure
open Go.RowKit Go.Proofs.YtkiimboedgnoiaaDoor.PSpecBack Go.Proofs.YtkiimboedgnoiaaDoorW.PrintWords Go.Proofs.YtkiimboedgnoiaaDoorW.PrintLast Go.Proofs.YtkiimboedgnoiaaDoorW.PrintMore
set_option linter.unusedVariables false
set_option linter.unusedSimpArgs false

theorem w64 {x : Int} (h1 : -9223372036854775808 ≤ x) (h2 : x ≤ 9223372036854775807) : wrap64 x = x := by unfold wrap64; omega
theorem tm {a b : Int} (h : 0 ≤ a) : Int.tmod a b = a % b := Int.tmod_eq_emod_of_nonneg h
theorem more {k N : Nat} (h : N + 1 ≤ k) : ∃ m, k = m + 1 ∧ N ≤ m := ⟨k - 1, by omega, by omega⟩
theorem wf_u32 {a : Int} (h : (Lit.int .u32 a).wf = true) : 0 ≤ a ∧ a ≤ 4294967295 := by
 simp [Lit.wf, IntKind.min, IntKind.max, IntKind.signed, IntKind.bits] at h
 omega
theorem wrapu (n : Int) : IntKind.u64.wrap n = n % 18446744073709551616 := by simp [IntKind.wrap, IntKind.bits, IntKind.signed]
theorem wrapu_small {n : Int} (h0 : 0 ≤ n) (h1 : n < 18446744073709551616) : IntKind.u64.wrap n = n := by rw [wrapu]; omega
/-- How many addresses a block of this prefix has. -/
def M (p : Int) : Int := 2 ^ (32 - p).toNat
theorem p_cases {p : Int} (h1 : 16 ≤ p) (h2 : p ≤ 32) : p = 16 ∨ p = 17 ∨ p = 18 ∨ p = 19 ∨ p = 20 ∨ p = 21 ∨ p = 22 ∨ p = 23 ∨ p = 24 ∨ p = 25 ∨ p = 26 ∨ p = 27 ∨ p = 28 ∨ p = 29 ∨ p = 30 ∨ p = 31 ∨ p = 32 := by omega
theorem M_bounds {p : Int} (h1 : 16 ≤ p) (h2 : p ≤ 32) : 1 ≤ M p ∧ M p ≤ 65536 := by
 rcases p_cases h1 h2 with rfl | rfl | rfl | rfl | rfl | rfl | rfl | rfl | rfl | rfl | rfl | rfl | rfl | rfl | rfl | rfl | rfl <;> decide
theorem Many_eq (B : Int) {p : Int} (h1 : 16 ≤ p) (h2 : p ≤ 32) : block_Many.f B p = some (M p) := by
 have hb := M_bounds h1 h2
 unfold block_Many.f
 rw [w64 (x := 32 - p) (by omega) (by omega), wrapu_small (by omega) (by omega), if_pos (by omega)]
 unfold M at hb
 unfold shl M
 rw [Nat.min_eq_left (by simp [IntKind.bits]; omega), Int.one_mul, IntKind.wrap_i64]
 generalize (2 : Int) ^ (32 - p).toNat = q at *
 congr 1; omega
/-- May such a block be? -/
def bmay (B p : Int) : Bool := decide (16 ≤ p ∧ p ≤ 32 ∧ B % M p = 0)

theorem ref04Many_eq {p : Int} (h1 : 16 ≤ p) (h2 : p ≤ 32) {k : Nat} (hk : 20 ≤ k) : lodgerref04_Many.f k p = some (M p) := by
 rcases p_cases h1 h2 with rfl | rfl | rfl | rfl | rfl | rfl | rfl | rfl | rfl | rfl | rfl | rfl | rfl | rfl | rfl | rfl | rfl <;> exact at_rounds (fun k => lodgerref04_Many.mono _ k) hk (by decide +kernel)
theorem ref04May_eq {B p : Int} (hB0 : 0 ≤ B) (hB1 : B ≤ 4294967295) {k : Nat} (hk : 20 ≤ k) : lodgerref04_May.f k B p = some (bmay B p) := by
 unfold lodgerref04_May.f bmay
 by_cases c1 : p ≥ 16
 ·rw [if_pos c1]
  by_cases c2 : p ≤ 32
  ·have hb := M_bounds (p := p) (by omega) (by omega)
   rw [if_pos c2, ref04Many_eq (by omega) (by omega) hk, Option.bind_some, if_neg (by omega), w64 (by omega) (by omega), tm hB0]
   congr 1
   rw [Bool.eq_iff_iff, beq_iff_eq, decide_eq_true_eq]
   omega
  ·rw [if_neg c2, decide_eq_false (by omega)]
 ·rw [if_neg c1, decide_eq_false (by omega)]

theorem rd_mid (pre xs : List Int) (x : Int) : rd (pre ++ x :: xs) (pre.length : Int) = x := by simp [rd]

/-- Does a list rise, from behind a number on, below a bound? -/
def rises (last m : Int) : List Int → Bool
 | [] => true
 | x :: xs => decide (last < x) && decide (x < m) && rises x m xs
/-- What a configuration's numbers must be. -/
def chead (B p : Int) (l : List Int) (s w q t : Int) : Bool := decide (16 ≤ p ∧ p ≤ 32 ∧ B % M p = 0 ∧ (l.length : Int) ≤ 64 ∧ 1 ≤ s ∧ s ≤ 64 ∧ 1 ≤ w ∧ w ≤ 64 ∧ 1 ≤ q ∧ q ≤ 64 ∧ 1 ≤ t ∧ t ≤ 8)
/-- May such a configuration be? -/
def cmay (B p : Int) (l : List Int) (s w q t : Int) : Bool := chead B p l s w q t && rises (-1) (M p) l
theorem cmay_head {B p : Int} {l : List Int} {s w q t : Int} (h : cmay B p l s w q t = true) : 16 ≤ p ∧ p ≤ 32 ∧ B % M p = 0 ∧ (l.length : Int) ≤ 64 ∧ 1 ≤ s ∧ s ≤ 64 ∧ 1 ≤ w ∧ w ≤ 64 ∧ 1 ≤ q ∧ q ≤ 64 ∧ 1 ≤ t ∧ t ≤ 8 := by
 unfold cmay chead at h
 rw [Bool.and_eq_true, decide_eq_true_eq] at h
 exact h.1
theorem rises_bounds {last m : Int} {l : List Int} (h : rises last m l = true) : ∀ x ∈ l, last < x ∧ x < m := by
 induction l generalizing last with
 | nil => intro x hx; cases hx
 | cons y ys ih =>
  simp only [rises, Bool.and_eq_true, decide_eq_true_eq] at h
  intro x hx
  rcases List.mem_cons.1 hx with rfl | hx
  ·exact h.1
  ·have := ih h.2 x hx
   omega
/-- How many of a list lie below a number. -/
def below (l : List Int) (n : Int) : Nat := (l.filter (fun x => decide (x < n))).length
theorem Index_l0 (l : List Int) (hl : l.length ≤ maxLen) (a : Int) : ∀ (xs pre : List Int) (k : Nat), l = pre ++ xs → xs.length < k →
  ∃ r, slices_Index_int_int.l0 k l a (l.length : Int) (pre.length : Int) = some r ∧ (0 ≤ r ↔ a ∈ xs) := by
 unfold maxLen at hl
 intro xs
 induction xs with
 | nil =>
  intro pre k hp hk
  obtain ⟨k, rfl⟩ : ∃ m, k = m + 1 := ⟨k - 1, by omega⟩
  refine ⟨-1, ?_, by simp⟩
  simp only [slices_Index_int_int.l0]; rw [if_neg (by rw [hp]; simp)]
 | cons x xs ih =>
  intro pre k hp hk
  simp only [List.length_cons] at hk
  obtain ⟨k, rfl⟩ : ∃ m, k = m + 1 := ⟨k - 1, by omega⟩
  have hlt : pre.length < l.length := by rw [hp]; simp
  simp only [slices_Index_int_int.l0]
  rw [if_pos (by omega), if_pos (by omega), if_pos (by omega)]
  have hx : rd l (pre.length : Int) = x := by rw [hp]; exact rd_mid ..
  rw [hx]
  by_cases e : a = x
  ·rw [if_pos e]; exact ⟨_, rfl, by simp [e]⟩
  ·rw [if_neg e, w64 (by omega) (by omega)]
   obtain ⟨r, h1, h2⟩ := ih (pre ++ [x]) k (by rw [hp]; simp) (by omega)
   simp only [List.length_append, List.length_cons, List.length_nil, Nat.zero_add, Int.natCast_add, Int.natCast_one] at h1
   exact ⟨r, h1, by rw [h2]; simp [e]⟩
theorem Contains_eq (l : List Int) (hl : l.length ≤ maxLen) (a : Int) {k : Nat} (hk : l.length < k) : slices_Contains_int_int.f k l a = some (decide (a ∈ l)) := by
 unfold slices_Contains_int_int.f slices_Index_int_int.f
 obtain ⟨r, h1, h2⟩ := Index_l0 l hl a l [] k rfl hk
 replace h1 : slices_Index_int_int.l0 k l a (l.length : Int) 0 = some r := h1
 rw [h1, Option.bind_some]
 congr 1
 rw [Bool.eq_iff_iff, decide_eq_true_eq, decide_eq_true_eq]
 exact h2

theorem Held_eq (B p : Int) (l : List Int) (s w q t : Int) (hl : l.length ≤ maxLen) (a : Int) {k : Nat} (hk : l.length < k) : block_Held.f k B p l s w q t a = some (decide (a ∈ l)) := by
 unfold block_Held.f; rw [Contains_eq l hl a hk]; rfl

theorem refHeld_l0 (B p : Int) (l : List Int) (s w q t : Int) (hl : l.length ≤ maxLen) (a : Int) : ∀ (xs pre : List Int) (k : Nat), l = pre ++ xs → xs.length < k →
  lodgerref05_Held.l0 k a (pre.length : Int) B p l s w q t = some (decide (a ∈ xs)) := by
 unfold maxLen at hl
 intro xs
 induction xs with
 | nil =>
  intro pre k hp hk
  obtain ⟨k, rfl⟩ : ∃ m, k = m + 1 := ⟨k - 1, by omega⟩
  simp only [lodgerref05_Held.l0]; rw [if_neg (by rw [hp]; simp)]; simp
 | cons x xs ih =>
  intro pre k hp hk
  simp only [List.length_cons] at hk
  obtain ⟨k, rfl⟩ : ∃ m, k = m + 1 := ⟨k - 1, by omega⟩
  have hlt : pre.length < l.length := by rw [hp]; simp
  simp only [lodgerref05_Held.l0]
  rw [if_pos (by omega), if_pos (by omega)]
  have hx : rd l (pre.length : Int) = x := by rw [hp]; exact rd_mid ..
  rw [hx]
  by_cases e : x = a
  ·rw [if_pos e]; simp [e]
  ·rw [if_neg e, w64 (by omega) (by omega)]
   have h1 := ih (pre ++ [x]) k (by rw [hp]; simp) (by omega)
   simp only [List.length_append, List.length_cons, List.length_nil, Nat.zero_add, Int.natCast_add, Int.natCast_one] at h1
   rw [h1]
   have : ¬ a = x := fun h => e h.symm
   simp [this]
theorem refHeld_eq (B p : Int) (l : List Int) (s w q t : Int) (hl : l.length ≤ maxLen) (a : Int) {k : Nat} (hk : l.length < k) : lodgerref05_Held.f k B p l s w q t a = some (decide (a ∈ l)) := by
 unfold lodgerref05_Held.f
 exact refHeld_l0 B p l s w q t hl a l [] k rfl hk

theorem ref05Many_eq (B : Int) {p : Int} (h1 : 16 ≤ p) (h2 : p ≤ 32) {k : Nat} (hk : 20 ≤ k) : lodgerref05_Many.f k B p = some (M p) := by
 unfold lodgerref05_Many.f; rw [ref04Many_eq h1 h2 hk]; rfl

theorem refMay_l0 (B p : Int) (l : List Int) (s w q t : Int) (hl : l.length ≤ maxLen) (h1 : 16 ≤ p) (h2 : p ≤ 32) : ∀ (xs pre : List Int) (last : Int) (k : Nat), l = pre ++ xs → (pre = [] ∧ last = -1 ∨ (∃ pr, pre = pr ++ [last]) ∧ 0 ≤ last) → xs.length + 30 < k →
  lodgerref05_May.l0 k (pre.length : Int) B p l s w q t = some (rises last (M p) xs) := by
 unfold maxLen at hl
 intro xs
 induction xs with
 | nil =>
  intro pre last k hp hpre hk
  obtain ⟨k, rfl⟩ : ∃ m, k = m + 1 := ⟨k - 1, by omega⟩
  simp only [lodgerref05_May.l0]; rw [if_neg (by rw [hp]; simp)]; rfl
 | cons x xs ih =>
  intro pre last k hp hpre hk
  simp only [List.length_cons] at hk
  obtain ⟨k, rfl⟩ : ∃ m, k = m + 1 := ⟨k - 1, by omega⟩
  have hlt : pre.length < l.length := by rw [hp]; simp
  simp only [lodgerref05_May.l0, rises]
  have hx : rd l (pre.length : Int) = x := by rw [hp]; exact rd_mid ..
  rw [if_pos (by omega), if_pos (by omega), hx]
  by_cases c1 : x < 0
  ·rw [if_pos c1, decide_eq_false (p := last < x) (by rcases hpre with ⟨_, h⟩ | ⟨_, h⟩ <;> omega)]; rfl
  rw [if_neg c1, ref05Many_eq B h1 h2 (by omega), Option.bind_some]
  by_cases c2 : x ≥ M p
  ·rw [if_pos c2, decide_eq_false (p := x < M p) (by omega)]; simp
  have h := ih (pre ++ [x]) x k (by rw [hp]; simp) (.inr ⟨⟨pre, rfl⟩, by omega⟩) (by omega)
  simp only [List.length_append, List.length_cons, List.length_nil, Nat.zero_add, Int.natCast_add, Int.natCast_one] at h
  rw [if_neg c2, decide_eq_true (p := x < M p) (by omega), w64 (x := (pre.length : Int) + 1) (by omega) (by omega), h]
  rcases hpre with ⟨rfl, rfl⟩ | ⟨⟨pr, rfl⟩, h0⟩
  ·rw [if_neg (by simp), decide_eq_true (p := -1 < x) (by omega)]; rfl
  ·have hy : rd l (((pr ++ [last]).length : Int) - 1) = last := by
    rw [hp]; simp [rd]
   have hl1 : (pr ++ [last]).length = pr.length + 1 := by simp
   rw [if_pos (by omega), w64 (by omega) (by omega), if_pos (by omega), if_pos (by omega), hy]
   by_cases c3 : x ≤ last
   ·rw [if_pos c3, decide_eq_false (p := last < x) (by omega)]; rfl
   ·rw [if_neg c3, decide_eq_true (p := last < x) (by omega)]; rfl
theorem ref05May_eq {B p : Int} (l : List Int) (s w q t : Int) (hl : l.length ≤ maxLen) (hB0 : 0 ≤ B) (hB1 : B ≤ 4294967295) {k : Nat} (hk : l.length + 40 < k) : lodgerref05_May.f k B p l s w q t = some (cmay B p l s w q t) := by
 obtain ⟨k, rfl⟩ : ∃ m, k = m + 1 := ⟨k - 1, by omega⟩
 have hj : lodgerref05_May.j0 (k + 1) true B p l s w q t = some false := by simp only [lodgerref05_May.j0, ↓reduceIte]
 unfold lodgerref05_May.f cmay
 rw [ref04May_eq hB0 hB1 (by omega), Option.bind_some]
 by_cases h : chead B p l s w q t = true
 ·have h' := h
  unfold chead at h'
  rw [decide_eq_true_eq] at h'
  have hb : bmay B p = true := by unfold bmay; rw [decide_eq_true_eq]; omega
  rw [h, hb, if_pos rfl, if_neg (by omega), if_neg (by omega), if_neg (by omega), if_neg (by omega), if_neg (by omega), if_neg (by omega), if_neg (by omega), if_neg (by omega), decide_eq_false (p := t > 8) (by omega)]
  simp only [lodgerref05_May.j0]
  rw [if_neg (by simp)]
  have := refMay_l0 B p l s w q t hl (by omega) (by omega) l [] (-1) k rfl (.inl ⟨rfl, rfl⟩) (by omega)
  rw [show (([] : List Int).length : Int) = 0 from rfl] at this
  rw [this]; rfl
 ·rw [Bool.not_eq_true] at h
  rw [h, hj]
  by_cases hb : bmay B p = true
  ·rw [hb, if_pos rfl]
   have hb' := hb
   unfold bmay at hb'
   rw [decide_eq_true_eq] at hb'
   unfold chead at h
   rw [decide_eq_false_iff_not] at h
   by_cases c1 : (l.length : Int) > 64
   ·rw [if_pos c1]; rfl
   rw [if_neg c1]
   by_cases c2 : s < 1
   ·rw [if_pos c2]; rfl
   rw [if_neg c2]
   by_cases c3 : s > 64
   ·rw [if_pos c3]; rfl
   rw [if_neg c3]
   by_cases c4 : w < 1
   ·rw [if_pos c4]; rfl
   rw [if_neg c4]
   by_cases c5 : w > 64
   ·rw [if_pos c5]; rfl
   rw [if_neg c5]
   by_cases c6 : q < 1
   ·rw [if_pos c6]; rfl
   rw [if_neg c6]
   by_cases c7 : q > 64
   ·rw [if_pos c7]; rfl
   rw [if_neg c7]
   by_cases c8 : t < 1
   ·rw [if_pos c8]; rfl
   rw [if_neg c8, decide_eq_true (p := t > 8) (by omega), hj]; rfl
  ·rw [if_neg hb]; rfl

theorem Offset_block {B p : Int} (hB0 : 0 ≤ B) (hB1 : B ≤ 4294967295) (h1 : 16 ≤ p) (h2 : p ≤ 32) {a : Int} (ha0 : 0 ≤ a) (ha1 : a ≤ 4294967295) : block_Offset.f B p a = some (if B ≤ a ∧ a < B + M p then (a - B, 0) else (0, 3)) := by
 unfold block_Offset.f
 have hb := M_bounds h1 h2
 rw [w64 (x := a) (by omega) (by omega), w64 (x := B) (by omega) (by omega), w64 (x := a - B) (by omega) (by omega), Many_eq B h1 h2, Option.bind_some]
 by_cases c1 : a - B ≥ 0
 ·rw [if_pos c1]
  by_cases c2 : a - B < M p
  ·rw [if_pos c2, if_pos (by omega)]
  ·rw [if_neg c2, if_neg (by omega)]
 ·rw [if_neg c1, if_neg (by omega)]

theorem refOffset_eq {B p : Int} (hB0 : 0 ≤ B) (hB1 : B ≤ 4294967295) (h1 : 16 ≤ p) (h2 : p ≤ 32) {a : Int} (ha0 : 0 ≤ a) (ha1 : a ≤ 4294967295) {k : Nat} (hk : 20 ≤ k) : lodgerref05_Offset.f k B p a = some (if B ≤ a ∧ a < B + M p then (a - B, 0) else (0, 3)) := by
 unfold lodgerref05_Offset.f
 by_cases c0 : a < B
 ·rw [if_pos c0, if_neg (by omega)]
 rw [if_neg c0, ref05Many_eq B h1 h2 hk, Option.bind_some, show (a - B) % 4294967296 = a - B by omega]
 by_cases c1 : a - B ≥ M p
 ·rw [if_pos c1, if_neg (by omega)]
 ·rw [if_neg c1, if_pos (by omega)]

/-- What finding an address answers. -/
def find (B p : Int) (l : List Int) (a : Int) : Int × Int := if B ≤ a ∧ a < B + M p then (if a - B ∈ l then (0, 4) else (a - B, 0)) else (0, 3)
theorem Find_eq {B p : Int} (l : List Int) (s w q t : Int) (hl : l.length ≤ maxLen) (hB0 : 0 ≤ B) (hB1 : B ≤ 4294967295) (h1 : 16 ≤ p) (h2 : p ≤ 32) {a : Int} (ha0 : 0 ≤ a) (ha1 : a ≤ 4294967295) {k : Nat} (hk : l.length < k) : block_Find.f k B p l s w q t a = some (find B p l a) := by
 unfold block_Find.f find
 rw [Offset_block hB0 hB1 h1 h2 ha0 ha1, Option.bind_some]
 by_cases c : B ≤ a ∧ a < B + M p
 ·rw [if_pos c, if_pos rfl, Held_eq B p l s w q t hl _ hk, Option.bind_some, if_pos c]
  by_cases e : a - B ∈ l
  ·simp [e]
  ·simp [e]
 ·rw [if_neg c, if_neg (by decide), if_neg c]

theorem refFind_eq {B p : Int} (l : List Int) (s w q t : Int) (hl : l.length ≤ maxLen) (hB0 : 0 ≤ B) (hB1 : B ≤ 4294967295) (h1 : 16 ≤ p) (h2 : p ≤ 32) {a : Int} (ha0 : 0 ≤ a) (ha1 : a ≤ 4294967295) {k : Nat} (hk : l.length + 20 < k) : lodgerref05_Find.f k B p l s w q t a = some (find B p l a) := by
 unfold lodgerref05_Find.f find
 rw [refOffset_eq hB0 hB1 h1 h2 ha0 ha1 (by omega), Option.bind_some]
 by_cases c : B ≤ a ∧ a < B + M p
 ·rw [if_pos c, if_pos rfl, refHeld_eq B p l s w q t hl _ (by omega), Option.bind_some, if_pos c]
  by_cases e : a - B ∈ l
  ·simp [e]
  ·simp [e]
 ·rw [if_neg c, if_neg (by decide), if_neg c]

/-- The addresses that a request names. -/
def names (K A : Int) (l : List Int) : List Int := if K = 4 then l else if K = 2 ∨ K = 3 ∨ K = 5 then [A] else []
theorem Names_eq {K A : Int} {l : List Int} (hl : l.length ≤ 1000000) : ask_Names.f K A l = some (names K A l) := by
 unfold ask_Names.f slices_Clone_uint32_uint32.f names sgl
 by_cases c4 : K = 4
 ·rw [if_pos c4, if_pos c4, Option.bind_some, if_pos (by simp; omega), Option.bind_some]; simp
 rw [if_neg c4, if_neg c4]
 by_cases c0 : K ≥ 0
 ·rw [if_pos c0]
  by_cases c6 : K < 6
  ·rw [if_pos c6, if_pos (show 0 ≤ K from c0)]
   by_cases c : K = 2 ∨ K = 3 ∨ K = 5
   ·rw [if_pos c, decide_eq_true c, if_pos rfl]
   ·rw [if_neg c, decide_eq_false c, if_neg (by simp)]
  ·rw [if_neg c6, if_neg (by omega)]
 ·rw [if_neg c0, if_neg (by omega)]
theorem names_len {K A : Int} {l : List Int} : (names K A l).length ≤ l.length + 1 := by
 unfold names; split <;> (try split) <;> simp
theorem names_wf {K A : Int} {l : List Int} (hA : 0 ≤ A ∧ A ≤ 4294967295) (hw : ∀ x ∈ l, 0 ≤ x ∧ x ≤ 4294967295) : ∀ x ∈ names K A l, 0 ≤ x ∧ x ≤ 4294967295 := by
 unfold names
 intro x hx
 split at hx
 ·exact hw x hx
 ·split at hx
  ·simp at hx; subst hx; exact hA
  ·simp at hx

/-- What is wrong with a list of addresses: the first that is. -/
def scan (F : Int → Int) : List Int → List Int → Int
 | [], _ => 0
 | x :: xs, met => if F x = 0 then (if x ∈ met then 8 else scan F xs (met ++ [x])) else F x
theorem scan_zero {F : Int → Int} : ∀ {xs met : List Int} {a : Int} {pre suf : List Int}, scan F xs met = 0 → xs = pre ++ a :: suf → F a = 0 ∧ a ∉ met ∧ a ∉ pre
 | [], met, a, pre, suf, _, h => by simp at h
 | x :: xs, met, a, pre, suf, hs, h => by
  simp only [scan] at hs
  by_cases c : F x = 0
  ·rw [if_pos c] at hs
   by_cases d : x ∈ met
   ·rw [if_pos d] at hs; omega
   ·rw [if_neg d] at hs
    cases pre with
    | nil => simp at h; obtain ⟨rfl, rfl⟩ := h; exact ⟨c, d, by simp⟩
    | cons z pre =>
     simp at h
     obtain ⟨rfl, rfl⟩ := h
     obtain ⟨h1, h2, h3⟩ := scan_zero hs rfl
     simp only [List.mem_append, List.mem_singleton, not_or] at h2
     exact ⟨h1, h2.1, by simp [h2.2, h3]⟩
  ·rw [if_neg c] at hs; exact absurd hs c

theorem wfmk_u32 {x : Int} (h : 0 ≤ x ∧ x ≤ 4294967295) : (Lit.int .u32 x).wf = true := by
 simp [Lit.wf, IntKind.min, IntKind.max, IntKind.signed, IntKind.bits]
 omega
/-- What is wrong with a request. -/
def chk (B p : Int) (H : List Int) (K A : Int) (l : List Int) : Int := if K < 1 ∨ K > 7 then 1 else if K = 4 ∧ l.length = 0 then 7 else if K = 4 ∧ 64 < l.length then 1 else scan (fun x => (find B p H x).2) (names K A l) []
theorem Check_l0 {B p : Int} (H : List Int) (s w q t : Int) (hH : H.length ≤ maxLen) (hB0 : 0 ≤ B) (hB1 : B ≤ 4294967295) (h1 : 16 ≤ p) (h2 : p ≤ 32) {l : List Int} (hl : l.length ≤ 1000001) (hw : ∀ x ∈ l, 0 ≤ x ∧ x ≤ 4294967295) : ∀ (xs pre met : List Int) (k : Nat), l = pre ++ xs → met.length ≤ pre.length → xs.length + H.length + 1 < k →
  ask_Check.l0 k l (l.length : Int) (pre.length : Int) B p H s w q t met = some (scan (fun x => (find B p H x).2) xs met) := by
 intro xs
 induction xs with
 | nil =>
  intro pre met k hp hm hk
  obtain ⟨k, rfl⟩ : ∃ m, k = m + 1 := ⟨k - 1, by omega⟩
  simp only [ask_Check.l0]; rw [if_neg (by rw [hp]; simp)]; rfl
 | cons x xs ih =>
  intro pre met k hp hm hk
  simp only [List.length_cons] at hk
  have hl1 : l.length = pre.length + (xs.length + 1) := by rw [hp]; simp
  obtain ⟨k, rfl⟩ : ∃ m, k = m + 1 := ⟨k - 1, by omega⟩
  have hx : rd l (pre.length : Int) = x := by rw [hp]; exact rd_mid ..
  have hxw := hw x (by rw [hp]; simp)
  have h := ih (pre ++ [x]) (met ++ [x]) k (by rw [hp]; simp) (by simp; omega) (by omega)
  rw [show ((pre ++ [x]).length : Int) = (pre.length : Int) + 1 by simp] at h
  simp only [ask_Check.l0, scan]
  rw [if_pos (by omega), if_pos (by omega), if_pos (by omega), hx, Find_eq H s w q t hH hB0 hB1 h1 h2 hxw.1 hxw.2 (by omega), Option.bind_some]
  by_cases c : (find B p H x).2 = 0
  ·rw [if_pos c, if_pos c, if_pos (wfmk_u32 hxw)]
   by_cases d : x ∈ met
   ·rw [if_pos d, if_pos d]
   ·rw [if_neg d, if_neg d, if_pos (by omega), w64 (by omega) (by omega), h]
  ·rw [if_neg c, if_neg c]
theorem size_eq {K A : Int} {l : List Int} : ask_size.f K A l = some (if K = 4 ∧ l.length = 0 then 7 else if K = 4 ∧ 64 < l.length then 1 else 0) := by
 unfold ask_size.f
 by_cases c : K = 4
 ·subst c
  by_cases d : l.length = 0
  ·simp [d]
  ·rw [if_pos rfl, if_neg (show ¬ (l.length : Int) = 0 by omega), if_neg (show ¬ ((4 : Int) = 4 ∧ l.length = 0) from fun h => d h.2)]
   by_cases e : 64 < l.length
   ·rw [if_pos (show (l.length : Int) > 64 by omega), if_pos (show (4 : Int) = 4 ∧ 64 < l.length from ⟨rfl, e⟩)]
   ·rw [if_neg (show ¬ (l.length : Int) > 64 by omega), if_neg (show ¬ ((4 : Int) = 4 ∧ 64 < l.length) from fun h => e h.2)]
 ·rw [if_neg c, if_neg (show ¬ (K = 4 ∧ l.length = 0) from fun h => c h.1), if_neg (show ¬ (K = 4 ∧ 64 < l.length) from fun h => c h.1)]
theorem Check_eq {B p : Int} (H : List Int) (s w q t : Int) (hH : H.length ≤ maxLen) (hB0 : 0 ≤ B) (hB1 : B ≤ 4294967295) (h1 : 16 ≤ p) (h2 : p ≤ 32) {K A : Int} {l : List Int} (hl : l.length ≤ 1000000) (hA : 0 ≤ A ∧ A ≤ 4294967295) (hw : ∀ x ∈ l, 0 ≤ x ∧ x ≤ 4294967295) {k : Nat} (hk : l.length + H.length + 10 < k) :
  ask_Check.f k B p H s w q t K A l = some (chk B p H K A l) := by
 obtain ⟨k, rfl⟩ : ∃ m, k = m + 1 := ⟨k - 1, by omega⟩
 unfold ask_Check.f chk
 have hn := names_len (K := K) (A := A) (l := l)
 by_cases c1 : K < 1
 ·rw [if_pos c1, if_pos (by omega)]; simp only [ask_Check.j0, ↓reduceIte]
 rw [if_neg c1]
 by_cases c7 : K > 7
 ·rw [decide_eq_true c7, if_pos (by omega)]; simp only [ask_Check.j0, ↓reduceIte]
 rw [decide_eq_false c7, if_neg (by omega)]
 simp only [ask_Check.j0]
 rw [if_neg (by simp), size_eq, Option.bind_some]
 by_cases d : K = 4 ∧ l.length = 0
 ·rw [if_pos d, if_neg (by omega)]; simp [d]
 rw [if_neg d, if_neg d]
 by_cases e : K = 4 ∧ 64 < l.length
 ·rw [if_pos e, if_neg (by omega)]; simp [e]
 rw [if_neg e, if_neg e, if_pos rfl, Names_eq hl, Option.bind_some]
 exact Check_l0 H s w q t hH hB0 hB1 h1 h2 (by omega) (names_wf hA hw) _ [] [] k rfl (by simp) (by omega)

theorem refNames_eq {K A : Int} {l : List Int} (hl : l.length ≤ 1000000) {k : Nat} (hk : 1 ≤ k) : lodgerref10_Names.f k K A l = some (names K A l) := by
 obtain ⟨k, rfl⟩ : ∃ m, k = m + 1 := ⟨k - 1, by omega⟩
 unfold lodgerref10_Names.f names
 by_cases c2 : K = 2
 ·rw [if_pos c2, if_neg (by omega), if_pos (by omega)]; simp only [lodgerref10_Names.j0, ↓reduceIte]
 rw [if_neg c2]
 by_cases c3 : K = 3
 ·rw [if_pos c3, if_neg (by omega), if_pos (by omega)]; simp only [lodgerref10_Names.j0, ↓reduceIte]
 rw [if_neg c3]
 simp only [lodgerref10_Names.j0]
 by_cases c5 : K = 5
 ·rw [if_pos (by simp [c5]), if_neg (by omega), if_pos (by omega)]
 rw [if_neg (by simp [c5])]
 by_cases c4 : K = 4
 ·rw [if_pos c4, if_pos c4, Option.bind_some, if_pos (by simp; omega), List.nil_append]
 ·rw [if_neg c4, if_neg c4, if_neg (by omega)]
theorem refCheck_l1 {B p : Int} (H : List Int) (s w q t : Int) {l : List Int} (hl : l.length ≤ 1000001) {x v : Int} {pre suf : List Int} (hp : l = pre ++ x :: suf) {N : Nat}
  (hc : ∀ k, N ≤ k → lodgerref10_Check.l0 k l ((pre.length : Int) + 1) B p H s w q t = some v) : ∀ (ys zs : List Int) (k : Nat), pre = zs ++ ys → N + ys.length < k →
  lodgerref10_Check.l1 k l (pre.length : Int) (zs.length : Int) B p H s w q t = some (if x ∈ ys then 8 else v) := by
 have hl1 : l.length = pre.length + (suf.length + 1) := by rw [hp]; simp
 have hx : rd l (pre.length : Int) = x := by rw [hp]; exact rd_mid ..
 intro ys
 induction ys with
 | nil =>
  intro zs k hz hk
  obtain ⟨k, rfl⟩ : ∃ m, k = m + 1 := ⟨k - 1, by omega⟩
  have hlen : zs.length = pre.length := by rw [hz]; simp
  simp only [lodgerref10_Check.l1]
  rw [if_neg (by omega), w64 (by omega) (by omega), hc k (by simp at hk; omega)]; simp
 | cons y ys ih =>
  intro zs k hz hk
  simp only [List.length_cons] at hk
  obtain ⟨k, rfl⟩ : ∃ m, k = m + 1 := ⟨k - 1, by omega⟩
  have hlen : pre.length = zs.length + (ys.length + 1) := by rw [hz]; simp
  have hy : rd l (zs.length : Int) = y := by rw [hp, hz, List.append_assoc, List.cons_append]; exact rd_mid ..
  have h := ih (zs ++ [y]) k (by rw [hz]; simp) (by omega)
  rw [show ((zs ++ [y]).length : Int) = (zs.length : Int) + 1 by simp] at h
  simp only [lodgerref10_Check.l1]
  rw [if_pos (by omega), if_pos (by omega), if_pos (by omega), if_pos (by omega), if_pos (by omega), hx, hy]
  by_cases c : y = x
  ·rw [if_pos c, if_pos (by simp [c])]
  ·rw [if_neg c, w64 (by omega) (by omega), h]
   have hne : ¬ x = y := fun h => c h.symm
   have : (x ∈ y :: ys) = (x ∈ ys) := by simp [hne]
   simp only [this]
theorem refCheck_l0 {B p : Int} (H : List Int) (s w q t : Int) (hH : H.length ≤ maxLen) (hB0 : 0 ≤ B) (hB1 : B ≤ 4294967295) (h1 : 16 ≤ p) (h2 : p ≤ 32) {l : List Int} (hl : l.length ≤ 200) (hw : ∀ x ∈ l, 0 ≤ x ∧ x ≤ 4294967295) : ∀ (xs pre : List Int) (k : Nat), l = pre ++ xs → xs.length * 300 + H.length + 30 ≤ k →
  lodgerref10_Check.l0 k l (pre.length : Int) B p H s w q t = some (scan (fun x => (find B p H x).2) xs pre) := by
 intro xs
 induction xs with
 | nil =>
  intro pre k hp hk
  obtain ⟨k, rfl⟩ : ∃ m, k = m + 1 := ⟨k - 1, by omega⟩
  simp only [lodgerref10_Check.l0]; rw [if_neg (by rw [hp]; simp)]; rfl
 | cons x xs ih =>
  intro pre k hp hk
  simp only [List.length_cons] at hk
  have hl1 : l.length = pre.length + (xs.length + 1) := by rw [hp]; simp
  obtain ⟨k, rfl⟩ : ∃ m, k = m + 1 := ⟨k - 1, by omega⟩
  have hx : rd l (pre.length : Int) = x := by rw [hp]; exact rd_mid ..
  have hxw := hw x (by rw [hp]; simp)
  simp only [lodgerref10_Check.l0, scan]
  rw [if_pos (by omega), if_pos (by omega), hx, refFind_eq H s w q t hH hB0 hB1 h1 h2 hxw.1 hxw.2 (by omega), Option.bind_some]
  by_cases c : (find B p H x).2 = 0
  ·rw [if_pos c, if_pos c]
   have h := refCheck_l1 H s w q t (by omega) hp (N := xs.length * 300 + H.length + 30) (fun k' hk' => by
    have h := ih (pre ++ [x]) k' (by rw [hp]; simp) hk'
    rwa [show ((pre ++ [x]).length : Int) = (pre.length : Int) + 1 by simp] at h) pre [] k rfl (by omega)
   exact h
  ·rw [if_neg c, if_neg c]
theorem refCheck_eq {B p : Int} (H : List Int) (s w q t : Int) (hH : H.length ≤ maxLen) (hB0 : 0 ≤ B) (hB1 : B ≤ 4294967295) (h1 : 16 ≤ p) (h2 : p ≤ 32) {K A : Int} {l : List Int} (hl : l.length ≤ 100) (hA : 0 ≤ A ∧ A ≤ 4294967295) (hw : ∀ x ∈ l, 0 ≤ x ∧ x ≤ 4294967295) {k : Nat} (hk : H.length + 40000 < k) :
  lodgerref10_Check.f k B p H s w q t K A l = some (chk B p H K A l) := by
 obtain ⟨k, rfl⟩ : ∃ m, k = m + 3 := ⟨k - 3, by omega⟩
 unfold lodgerref10_Check.f chk
 have hn := names_len (K := K) (A := A) (l := l)
 by_cases c1 : K < 1
 ·rw [if_pos c1, if_pos (by omega)]; simp only [lodgerref10_Check.j0, ↓reduceIte]
 rw [if_neg c1]
 by_cases c7 : K > 7
 ·rw [decide_eq_true c7, if_pos (by omega)]; simp only [lodgerref10_Check.j0, ↓reduceIte]
 rw [decide_eq_false c7, if_neg (by omega)]
 have hlast : lodgerref10_Check.j2 (k + 1) false B p H s w q t K A l = some (scan (fun x => (find B p H x).2) (names K A l) []) := by
  simp only [lodgerref10_Check.j2]
  rw [if_neg (by simp), refNames_eq (by omega) (by omega), Option.bind_some]
  exact refCheck_l0 H s w q t hH hB0 hB1 h1 h2 (by omega) (names_wf hA hw) _ [] k rfl (by omega)
 simp only [lodgerref10_Check.j0]
 rw [if_neg (by simp)]
 by_cases d : K = 4
 ·rw [if_pos d]
  simp only [lodgerref10_Check.j1]
  by_cases e : l.length = 0
  ·rw [if_pos (by simp [e]), if_pos ⟨d, e⟩]
  ·rw [if_neg (by simp; intro h; exact e (by rw [h]; rfl)), if_neg (show ¬ (K = 4 ∧ l.length = 0) from fun h => e h.2), if_pos d]
   by_cases g : (l.length : Int) > 64
   ·rw [decide_eq_true g, if_pos (show K = 4 ∧ 64 < l.length from ⟨d, by omega⟩)]; simp only [lodgerref10_Check.j2, ↓reduceIte]
   ·rw [decide_eq_false g, if_neg (show ¬ (K = 4 ∧ 64 < l.length) from fun h => g (by omega)), hlast]
 ·rw [if_neg d, if_neg (show ¬ (K = 4 ∧ l.length = 0) from fun h => d h.1), if_neg (show ¬ (K = 4 ∧ 64 < l.length) from fun h => d h.1)]
  simp only [lodgerref10_Check.j1]
  rw [if_neg (by simp), if_neg d, hlast]

/-! Lists that rise, as sets: two with the same members are one. -/
abbrev Sd (l : List Int) : Prop := l.Pairwise (fun a b => a < b)
theorem sext : ∀ {l m : List Int}, Sd l → Sd m → (∀ x, x ∈ l ↔ x ∈ m) → l = m
 | [], [], _, _, _ => rfl
 | [], y :: ys, _, _, h => absurd ((h y).2 (by simp)) (by simp)
 | x :: xs, [], _, _, h => absurd ((h x).1 (by simp)) (by simp)
 | x :: xs, y :: ys, hl, hm, h => by
  rw [Sd, List.pairwise_cons] at hl hm
  have e : x = y := by
   rcases List.mem_cons.1 ((h x).1 (by simp)) with e | e
   ·exact e
   ·rcases List.mem_cons.1 ((h y).2 (by simp)) with e2 | e2
    ·exact e2.symm
    ·have := hm.1 x e; have := hl.1 y e2; omega
  subst e
  congr 1
  refine sext hl.2 hm.2 (fun z => ⟨fun hz => ?_, fun hz => ?_⟩)
  ·have := hl.1 z hz
   rcases List.mem_cons.1 ((h z).1 (List.mem_cons_of_mem _ hz)) with e | e
   ·omega
   ·exact e
  ·have := hm.1 z hz
   rcases List.mem_cons.1 ((h z).2 (List.mem_cons_of_mem _ hz)) with e | e
   ·omega
   ·exact e
/-- A set and a number. -/
def ins (a : Int) (l : List Int) : List Int := l.filter (fun x => decide (x < a)) ++ a :: l.filter (fun x => decide (a < x))
/-- A set without a number. -/
def del (a : Int) (l : List Int) : List Int := l.filter (fun x => !decide (x = a))
theorem mem_ins {a x : Int} {l : List Int} : x ∈ ins a l ↔ x = a ∨ x ∈ l := by
 unfold ins
 simp only [List.mem_append, List.mem_cons, List.mem_filter, decide_eq_true_eq]
 constructor
 ·rintro (h | h | h)
  ·exact .inr h.1
  ·exact .inl h
  ·exact .inr h.1
 ·rintro (h | h)
  ·exact .inr (.inl h)
  ·by_cases c1 : x < a
   ·exact .inl ⟨h, c1⟩
   by_cases c2 : x = a
   ·exact .inr (.inl c2)
   ·exact .inr (.inr ⟨h, by omega⟩)
theorem mem_del {a x : Int} {l : List Int} : x ∈ del a l ↔ x ∈ l ∧ x ≠ a := by
 unfold del
 simp [List.mem_filter]
theorem Sd_ins {a : Int} {l : List Int} (h : Sd l) : Sd (ins a l) := by
 unfold ins Sd
 rw [List.pairwise_append, List.pairwise_cons]
 refine ⟨h.filter _, ⟨fun x hx => by simpa using (List.mem_filter.1 hx).2, h.filter _⟩, fun x hx y hy => ?_⟩
 have h1 : x < a := by simpa using (List.mem_filter.1 hx).2
 rcases List.mem_cons.1 hy with rfl | hy
 ·exact h1
 ·have h2 : a < y := by simpa using (List.mem_filter.1 hy).2
  omega
theorem Sd_del {a : Int} {l : List Int} (h : Sd l) : Sd (del a l) := h.filter _
theorem ins_len {a : Int} {l : List Int} (h : a ∉ l) : (ins a l).length = l.length + 1 := by
 unfold ins
 rw [List.length_append, List.length_cons]
 induction l with
 | nil => rfl
 | cons x xs ih =>
  have hx : ¬ x = a := fun e => h (by simp [e])
  have ih := ih (fun hh => h (List.mem_cons_of_mem _ hh))
  by_cases c : x < a
  ·simp only [List.filter_cons, decide_eq_true c, decide_eq_false (show ¬ a < x by omega), if_true, List.length_cons]; simp; omega
  ·simp only [List.filter_cons, decide_eq_false c, decide_eq_true (show a < x by omega), if_true, List.length_cons]; simp; omega
theorem ins_of_mem {a : Int} {l : List Int} (hs : Sd l) (h : a ∈ l) : ins a l = l := sext (Sd_ins hs) hs (fun x => by rw [mem_ins]; exact ⟨fun e => e.elim (fun e => e ▸ h) id, .inr⟩)
theorem del_of_not {a : Int} {l : List Int} (h : a ∉ l) : del a l = l := by
 unfold del
 rw [List.filter_eq_self]
 intro x hx
 simp only [Bool.not_eq_true', decide_eq_false_iff_not]
 rintro rfl
 exact h hx
theorem del_ins {a : Int} {l : List Int} (hs : Sd l) : del a (ins a l) = del a l := sext (Sd_del (Sd_ins hs)) (Sd_del hs) (fun x => by rw [mem_del, mem_del, mem_ins]; exact ⟨fun ⟨h, g⟩ => ⟨h.elim (fun e => absurd e g) id, g⟩, fun ⟨h, g⟩ => ⟨.inr h, g⟩⟩)
theorem ins_len_le (a : Int) {l : List Int} (hs : Sd l) : (ins a l).length ≤ l.length + 1 := by
 by_cases h : a ∈ l
 ·rw [ins_of_mem hs h]; omega
 ·rw [ins_len h]; omega
theorem del_len_le (a : Int) (l : List Int) : (del a l).length ≤ l.length := List.length_filter_le _ _
/-- Does a list rise? -/
def rise : List Int → Bool
 | [] => true
 | x :: xs => (match xs with | [] => true | y :: _ => decide (x < y)) && rise xs
theorem rises_Sd {last m : Int} {l : List Int} (h : rises last m l = true) : Sd l := by
 induction l generalizing last with
 | nil => exact List.Pairwise.nil
 | cons x xs ih =>
  simp only [rises, Bool.and_eq_true, decide_eq_true_eq] at h
  exact List.pairwise_cons.2 ⟨fun y hy => (rises_bounds h.2 y hy).1, ih h.2⟩
theorem rises_of {last m : Int} {l : List Int} (hs : Sd l) (hb : ∀ x ∈ l, last < x ∧ x < m) : rises last m l = true := by
 induction l generalizing last with
 | nil => rfl
 | cons x xs ih =>
  rw [Sd, List.pairwise_cons] at hs
  simp only [rises, Bool.and_eq_true, decide_eq_true_eq]
  exact ⟨hb x (by simp), ih hs.2 (fun y hy => ⟨hs.1 y hy, (hb y (List.mem_cons_of_mem _ hy)).2⟩)⟩
theorem rd_get {l : List Int} {i : Nat} (h : i < l.length) : rd l (i : Int) = l[i] := by unfold rd; simp [List.getD_eq_getElem?_getD, h]

theorem isNaN_s (x : Int) : slices_isNaN_int.f x = some false := by unfold slices_isNaN_int.f; simp
theorem isNaN_c (x : Int) : cmp_isNaN_int.f x = some false := by unfold cmp_isNaN_int.f; simp
theorem Less_eq (x y : Int) : cmp_Less_int.f x y = some (decide (x < y)) := by unfold cmp_Less_int.f; rw [isNaN_c, Option.bind_some, if_neg (by simp)]
theorem BS_l0 {l : List Int} {a : Int} (hs : Sd l) (hn : l.length ≤ 100000000) (d : Nat) : ∀ (k i j : Nat), i ≤ j → j ≤ l.length → j - i ≤ d → d < k → (∀ m (hm : m < l.length), m < i → l[m] < a) → (∀ m (hm : m < l.length), j ≤ m → a ≤ l[m]) →
  ∃ q : Nat, slices_BinarySearch_int_int.l0 k l a l.length i j = some ((q : Int), decide (a ∈ l)) ∧ q ≤ l.length ∧ (∀ m (hm : m < l.length), m < q → l[m] < a) ∧ (∀ m (hm : m < l.length), q ≤ m → a ≤ l[m]) := by
 have hp := List.pairwise_iff_getElem.1 hs
 have fin : ∀ (k i : Nat), 0 < k → i ≤ l.length → (∀ m (hm : m < l.length), m < i → l[m] < a) → (∀ m (hm : m < l.length), i ≤ m → a ≤ l[m]) →
   ∃ q : Nat, slices_BinarySearch_int_int.l0 k l a l.length i i = some ((q : Int), decide (a ∈ l)) ∧ q ≤ l.length ∧ (∀ m (hm : m < l.length), m < q → l[m] < a) ∧ (∀ m (hm : m < l.length), q ≤ m → a ≤ l[m]) := by
  intro k i hk hi h1 h2
  obtain ⟨k, rfl⟩ : ∃ m, k = m + 1 := ⟨k - 1, by omega⟩
  refine ⟨i, ?_, hi, h1, h2⟩
  simp only [slices_BinarySearch_int_int.l0]
  rw [if_neg (by omega)]
  by_cases c : i < l.length
  ·rw [if_pos (by omega), if_pos (by omega), if_pos (by omega), rd_get c]
   by_cases e : l[i] = a
   ·rw [if_pos e, decide_eq_true (e ▸ List.getElem_mem c)]
   ·rw [if_neg e, isNaN_s, Option.bind_some, if_neg (by simp), decide_eq_false]
    intro hm
    obtain ⟨m, hm1, hm2⟩ := List.mem_iff_getElem.1 hm
    by_cases c1 : m < i
    ·have := h1 m hm1 c1; omega
    by_cases c2 : m = i
    ·subst c2; exact e hm2
    ·have := hp i m c hm1 (by omega)
     have := h2 i c (Nat.le_refl _)
     omega
  ·rw [if_neg (by omega), decide_eq_false]
   intro hm
   obtain ⟨m, hm1, hm2⟩ := List.mem_iff_getElem.1 hm
   have := h1 m hm1 (by omega)
   omega
 induction d with
 | zero =>
  intro k i j hij hj hd hk h1 h2
  obtain rfl : i = j := by omega
  exact fin k i hk hj h1 h2
 | succ d ih =>
  intro k i j hij hj hd hk h1 h2
  by_cases c : i = j
  ·subst c; exact fin k i (by omega) hj h1 h2
  obtain ⟨k, rfl⟩ : ∃ m, k = m + 1 := ⟨k - 1, by omega⟩
  have hlt : (i + j) / 2 < l.length := by omega
  have e : wrap64 ((IntKind.u64.wrap (wrap64 ((i : Int) + (j : Int)))) / 2) = (((i + j) / 2 : Nat) : Int) := by
   rw [w64 (x := (i : Int) + j) (by omega) (by omega), wrapu_small (by omega) (by omega), w64 (by omega) (by omega)]; omega
  simp only [slices_BinarySearch_int_int.l0]
  rw [if_pos (by omega), e, if_pos (by omega), if_pos (by omega), rd_get hlt, Less_eq, Option.bind_some]
  generalize hh : (i + j) / 2 = h at *
  by_cases c2 : l[h] < a
  ·rw [decide_eq_true c2, if_pos rfl, w64 (x := (h : Int) + 1) (by omega) (by omega)]
   have := ih k (h + 1) j (by omega) hj (by omega) (by omega) (fun m hm hmh => by
    by_cases c3 : m = h
    ·subst c3; exact c2
    ·have := hp m h hm hlt (by omega); omega) h2
   exact this
  ·rw [decide_eq_false c2, if_neg (by simp)]
   exact ih k i h (by omega) (by omega) (by omega) (by omega) h1 (fun m hm hmh => by
    by_cases c3 : m = h
    ·subst c3; omega
    ·have := hp h m hlt hm (by omega); omega)
theorem BS_eq {l : List Int} (a : Int) (hs : Sd l) (hn : l.length ≤ 100000000) {k : Nat} (hk : l.length < k) :
  ∃ q : Nat, slices_BinarySearch_int_int.f k l a = some ((q : Int), decide (a ∈ l)) ∧ q ≤ l.length ∧ (∀ x ∈ l.take q, x < a) ∧ (∀ x ∈ l.drop q, a ≤ x) := by
 unfold slices_BinarySearch_int_int.f
 obtain ⟨q, h1, h2, h3, h4⟩ := BS_l0 (a := a) hs hn l.length k 0 l.length (by omega) (by omega) (by omega) hk (fun m _ h => by omega) (fun m hm h => by omega)
 refine ⟨q, h1, h2, fun x hx => ?_, fun x hx => ?_⟩
 ·obtain ⟨m, hm1, hm2⟩ := List.mem_iff_getElem.1 hx
  rw [List.length_take] at hm1
  rw [← hm2, List.getElem_take]
  exact h3 m (by omega) (by omega)
 ·obtain ⟨m, hm1, hm2⟩ := List.mem_iff_getElem.1 hx
  rw [List.length_drop] at hm1
  rw [← hm2, List.getElem_drop]
  exact h4 (q + m) (by omega) (by omega)
theorem MHas_eq {l : List Int} (a : Int) (hs : Sd l) (hn : l.length ≤ 100000000) {k : Nat} (hk : l.length < k) : model_Has.f k l a = some (decide (a ∈ l)) := by
 obtain ⟨q, h1, _⟩ := BS_eq a hs hn hk
 unfold model_Has.f; rw [h1, Option.bind_some]

theorem With_eq {l : List Int} (a : Int) (hs : Sd l) (hn : l.length ≤ 100000000) {k : Nat} (hk : l.length < k) : model_With.f k l a = some (ins a l) := by
 obtain ⟨q, h1, h2, h3, h4⟩ := BS_eq a hs hn hk
 unfold model_With.f
 rw [h1, Option.bind_some]
 have e : (((q : Nat) : Int)).toNat = q := by omega
 by_cases c : a ∈ l
 ·rw [decide_eq_true c, if_pos rfl, ins_of_mem hs c]
 ·rw [decide_eq_false c, if_neg (by simp), if_pos (by omega), if_pos (by omega), Option.bind_some, e, if_pos (by rw [List.length_take]; omega), Option.bind_some, Option.bind_some, if_pos (by rw [List.length_append, List.length_take, List.length_drop]; simp; omega)]
  congr 1
  have hc : l.take q ++ l.drop q = l := List.take_append_drop ..
  refine sext ?_ (Sd_ins hs) (fun x => ?_)
  ·rw [Sd, List.append_assoc, List.pairwise_append, List.singleton_append, List.pairwise_cons]
   have hs' := hs
   rw [← hc, Sd, List.pairwise_append] at hs'
   refine ⟨hs'.1, ⟨fun y hy => ?_, hs'.2.1⟩, fun x hx y hy => ?_⟩
   ·have := h4 y hy
    have : ¬ y = a := fun e => c (e ▸ List.mem_of_mem_drop hy)
    omega
   ·rcases List.mem_cons.1 hy with rfl | hy
    ·exact h3 x hx
    ·exact hs'.2.2 x hx y hy
  ·rw [mem_ins]
   conv => rhs; rw [← hc]
   simp only [List.mem_append, List.mem_singleton]
   constructor
   ·rintro ((h | h) | h)
    ·exact .inr (.inl h)
    ·exact .inl h
    ·exact .inr (.inr h)
   ·rintro (h | h | h)
    ·exact .inl (.inr h)
    ·exact .inl (.inl h)
    ·exact .inr h
theorem Without_eq {l : List Int} (a : Int) (hs : Sd l) (hn : l.length ≤ 100000000) {k : Nat} (hk : l.length < k) : model_Without.f k l a = some (del a l) := by
 obtain ⟨q, h1, h2, h3, h4⟩ := BS_eq a hs hn hk
 unfold model_Without.f
 rw [h1, Option.bind_some]
 have e : (((q : Nat) : Int)).toNat = q := by omega
 have e1 : (((q : Nat) : Int) + 1).toNat = q + 1 := by omega
 by_cases c : a ∈ l
 ·have hc : l.take q ++ l.drop q = l := List.take_append_drop ..
  have hq : q < l.length := by
   rcases Nat.lt_or_ge q l.length with h | h
   ·exact h
   ·rw [List.take_of_length_le h] at h3
    have := h3 a c
    omega
  have hd : l.drop q = l[q] :: l.drop (q + 1) := List.drop_eq_getElem_cons hq
  have hs' := hs
  rw [← hc, hd, Sd, List.pairwise_append, List.pairwise_cons] at hs'
  have ha : l[q] = a := by
   rw [← hc, hd] at c
   rcases List.mem_append.1 c with h | h
   ·have := h3 a h; omega
   rcases List.mem_cons.1 h with h | h
   ·exact h.symm
   ·have := hs'.2.1.1 a h
    have := h4 l[q] (by rw [hd]; exact List.mem_cons_self ..)
    omega
  rw [decide_eq_true c, if_pos rfl, if_pos (by omega), if_pos (by omega), Option.bind_some, w64 (x := (q : Int) + 1) (by omega) (by omega), if_pos (by omega), if_pos (by omega), Option.bind_some, e, e1, if_pos (by rw [List.length_take, List.length_drop]; omega)]
  congr 1
  rw [ha] at hs'
  refine sext ?_ (Sd_del hs) (fun x => ?_)
  ·rw [Sd, List.pairwise_append]
   exact ⟨hs'.1, hs'.2.1.2, fun x hx y hy => hs'.2.2 x hx y (List.mem_cons_of_mem _ hy)⟩
  ·rw [mem_del]
   conv => rhs; rw [← hc, hd, ha]
   rw [List.mem_append, List.mem_append, List.mem_cons]
   constructor
   ·rintro (h | h)
    ·exact ⟨.inl h, by have := h3 x h; omega⟩
    ·exact ⟨.inr (.inr h), by have := hs'.2.1.1 x h; omega⟩
   ·rintro ⟨h | h | h, g⟩
    ·exact .inl h
    ·exact absurd h g
    ·exact .inr h
 ·rw [decide_eq_false c, if_neg (by simp), del_of_not c]

/-- Is it a set that may be? -/
def mset (n : Int) (H l : List Int) : Bool := rises (-1) n l && l.all (fun x => !decide (x ∈ H))
theorem mset_iff {n : Int} {H l : List Int} : mset n H l = true ↔ Sd l ∧ ∀ x ∈ l, 0 ≤ x ∧ x < n ∧ x ∉ H := by
 unfold mset
 rw [Bool.and_eq_true, List.all_eq_true]
 constructor
 ·rintro ⟨h1, h2⟩
  refine ⟨rises_Sd h1, fun x hx => ?_⟩
  have := rises_bounds h1 x hx
  exact ⟨by omega, this.2, by simpa using h2 x hx⟩
 ·rintro ⟨h1, h2⟩
  refine ⟨rises_of h1 (fun x hx => ?_), fun x hx => by simpa using (h2 x hx).2.2⟩
  have := h2 x hx
  exact ⟨by omega, this.2.1⟩

theorem Addr_eq (B p x : Int) : block_Address.f B p x = some ((B + x) % 4294967296) := by unfold block_Address.f; rfl
theorem modelAddrs_l0 (B p : Int) (H : List Int) (s w q t : Int) {l : List Int} (hl : l.length ≤ 100000000) : ∀ (xs pre acc : List Int) (k : Nat), l = pre ++ xs → acc.length ≤ pre.length → xs.length < k →
  model_Addrs.l0 k acc l (l.length : Int) (pre.length : Int) B p H s w q t = some (acc ++ xs.map (fun x => (B + x) % 4294967296)) := by
 intro xs
 induction xs with
 | nil =>
  intro pre acc k hp ha hk
  obtain ⟨k, rfl⟩ : ∃ m, k = m + 1 := ⟨k - 1, by omega⟩
  simp only [model_Addrs.l0]; rw [if_neg (by rw [hp]; simp)]; simp
 | cons x xs ih =>
  intro pre acc k hp ha hk
  simp only [List.length_cons] at hk
  have hl1 : l.length = pre.length + (xs.length + 1) := by rw [hp]; simp
  obtain ⟨k, rfl⟩ : ∃ m, k = m + 1 := ⟨k - 1, by omega⟩
  have hx : rd l (pre.length : Int) = x := by rw [hp]; exact rd_mid ..
  have h := ih (pre ++ [x]) (acc ++ [(B + x) % 4294967296]) k (by rw [hp]; simp) (by simp; omega) (by omega)
  rw [show ((pre ++ [x]).length : Int) = (pre.length : Int) + 1 by simp] at h
  simp only [model_Addrs.l0]
  rw [if_pos (by omega), if_pos (by omega), if_pos (by omega), hx, Addr_eq, Option.bind_some, if_pos (by omega), w64 (by omega) (by omega), h]
  simp
theorem modelAddrs_eq (B p : Int) (H : List Int) (s w q t : Int) {l : List Int} (hl : l.length ≤ 100000000) {k : Nat} (hk : l.length < k) :
  model_Addrs.f k B p H s w q t l = some (l.map (fun x => (B + x) % 4294967296)) := by
 unfold model_Addrs.f
 have := modelAddrs_l0 B p H s w q t hl l [] [] k rfl (by simp) hk
 simpa using this

theorem ref09May_l0 (B p : Int) (H : List Int) (s w q t : Int) (hH : H.length ≤ maxLen) {l : List Int} (hl : l.length ≤ maxLen) (h1 : 16 ≤ p) (h2 : p ≤ 32) : ∀ (xs pre : List Int) (last : Int) (k : Nat), l = pre ++ xs → (pre = [] ∧ last = -1 ∨ (∃ pr, pre = pr ++ [last]) ∧ 0 ≤ last) → xs.length + H.length + 30 < k →
  lodgerref09_May.l0 k l (pre.length : Int) B p H s w q t = some (rises last (M p) xs && xs.all (fun x => !decide (x ∈ H))) := by
 unfold maxLen at hl
 intro xs
 induction xs with
 | nil =>
  intro pre last k hp hpre hk
  obtain ⟨k, rfl⟩ : ∃ m, k = m + 1 := ⟨k - 1, by omega⟩
  simp only [lodgerref09_May.l0]; rw [if_neg (by rw [hp]; simp)]; rfl
 | cons x xs ih =>
  intro pre last k hp hpre hk
  simp only [List.length_cons] at hk
  obtain ⟨k, rfl⟩ : ∃ m, k = m + 1 := ⟨k - 1, by omega⟩
  have hlt : pre.length < l.length := by rw [hp]; simp
  simp only [lodgerref09_May.l0, rises, List.all_cons]
  have hx : rd l (pre.length : Int) = x := by rw [hp]; exact rd_mid ..
  rw [if_pos (by omega), if_pos (by omega), hx]
  by_cases c1 : x < 0
  ·rw [if_pos c1, decide_eq_false (p := last < x) (by rcases hpre with ⟨_, h⟩ | ⟨_, h⟩ <;> omega)]; rfl
  rw [if_neg c1, ref05Many_eq B h1 h2 (by omega), Option.bind_some]
  by_cases c2 : x ≥ M p
  ·rw [if_pos c2, decide_eq_false (p := x < M p) (by omega)]; simp
  rw [if_neg c2, refHeld_eq B p H s w q t hH x (by omega), Option.bind_some]
  by_cases c3 : x ∈ H
  ·rw [if_pos (by simpa using c3)]; simp [c3]
  have h := ih (pre ++ [x]) x k (by rw [hp]; simp) (.inr ⟨⟨pre, rfl⟩, by omega⟩) (by omega)
  simp only [List.length_append, List.length_cons, List.length_nil, Nat.zero_add, Int.natCast_add, Int.natCast_one] at h
  rw [if_neg (by simpa using c3), decide_eq_true (p := x < M p) (by omega), w64 (x := (pre.length : Int) + 1) (by omega) (by omega), h, decide_eq_false c3]
  rcases hpre with ⟨rfl, rfl⟩ | ⟨⟨pr, rfl⟩, h0⟩
  ·rw [if_neg (by simp), decide_eq_true (p := -1 < x) (by omega)]; simp
  ·have hy : rd l (((pr ++ [last]).length : Int) - 1) = last := by
    rw [hp]; simp [rd]
   have hl1 : (pr ++ [last]).length = pr.length + 1 := by simp
   rw [if_pos (by omega), w64 (by omega) (by omega), if_pos (by omega), if_pos (by omega), hy]
   by_cases c4 : x ≤ last
   ·rw [if_pos c4, decide_eq_false (p := last < x) (by omega)]; simp
   ·rw [if_neg c4, decide_eq_true (p := last < x) (by omega)]; simp
theorem ref09May_eq (B : Int) {p : Int} (H : List Int) (s w q t : Int) (hH : H.length ≤ maxLen) {l : List Int} (hl : l.length ≤ maxLen) (h1 : 16 ≤ p) (h2 : p ≤ 32) {k : Nat} (hk : l.length + H.length + 30 < k) :
  lodgerref09_May.f k B p H s w q t l = some (mset (M p) H l) := by
 unfold lodgerref09_May.f mset
 exact ref09May_l0 B p H s w q t hH hl h1 h2 l [] (-1) k rfl (.inl ⟨rfl, rfl⟩) hk

theorem Ints_l0 : ∀ (xs ys pre qre : List Int) (k : Nat), pre.length = qre.length → xs.length = ys.length → (pre ++ xs).length ≤ 9223372036854775807 → xs.length < k →
  lodgerref03_Ints.l0 k (pre ++ xs) (qre ++ ys) (pre.length : Int) = some (decide (xs = ys)) := by
 intro xs
 induction xs with
 | nil =>
  intro ys pre qre k hp hx hm hk
  obtain ⟨k, rfl⟩ : ∃ m, k = m + 1 := ⟨k - 1, by omega⟩
  have : ys = [] := List.eq_nil_of_length_eq_zero hx.symm
  subst this
  simp only [lodgerref03_Ints.l0]; rw [if_neg (by simp)]; simp
 | cons x xs ih =>
  intro ys pre qre k hp hx hm hk
  cases ys with
  | nil => simp at hx
  | cons y ys =>
   simp only [List.length_cons, List.length_append] at hk hx hm
   obtain ⟨k, rfl⟩ : ∃ m, k = m + 1 := ⟨k - 1, by omega⟩
   simp only [lodgerref03_Ints.l0]
   have e1 : rd (pre ++ x :: xs) (pre.length : Int) = x := by simp [rd]
   have e2 : rd (qre ++ y :: ys) (pre.length : Int) = y := by rw [hp]; simp [rd]
   rw [if_pos (by simp; omega), if_pos (by omega), if_pos (by rw [hp]; simp; omega), e1, e2]
   by_cases e : x = y
   ·subst e
    rw [if_pos rfl, w64 (by omega) (by omega)]
    have := ih ys (pre ++ [x]) (qre ++ [x]) k (by simp [hp]) (by omega) (by simp; omega) (by omega)
    simp only [List.append_assoc, List.singleton_append, List.length_append, List.length_cons, List.length_nil, Nat.zero_add, Int.natCast_add, Int.natCast_one] at this
    rw [this]; simp
   ·rw [if_neg e]; simp [e]
theorem Ints_eq (a b : List Int) (ha : a.length ≤ 100000) {k : Nat} (hk : a.length < k) : lodgerref03_Ints.f k a b = some (decide (a = b)) := by
 unfold lodgerref03_Ints.f
 by_cases h : (a.length : Int) = (b.length : Int)
 ·rw [if_pos h]
  exact Ints_l0 a b [] [] k rfl (by omega) (by simp; omega) hk
 ·rw [if_neg h, decide_eq_false (fun e => h (by rw [e]))]

/-- The least offset, from i on, that is neither reserved nor used. -/
def lst (H S : List Int) : Nat → Int → Option Int
 | 0, _ => none
 | d + 1, i => if i ∈ H then lst H S d (i + 1) else if i ∈ S then lst H S d (i + 1) else some i
/-- What a release leaves, and answers. -/
def relz (S : List Int) (o : Int) : List Int × Int := if o ∈ S then (del o S, 0) else (S, 6)
/-- A batch: release by release. -/
def bat (F : Int → Int) : List Int → List Int → List Int → List Int × List Int
 | [], S, acc => (S, acc)
 | a :: r, S, acc => bat F r (relz S (F a)).1 (acc ++ [(relz S (F a)).2])
/-- Some right answer. -/
def som (B p : Int) (H S : List Int) (K A : Int) (l : List Int) : List Int × Int × Int × Bool × List Int × List Int :=
 if chk B p H K A l = 0 then
  (if K = 1 then (match lst H S (M p).toNat 0 with | some i => (ins i S, 0, (B + i) % 4294967296, false, [], []) | none => (S, 9, 0, false, [], []))
  else if K = 2 then (if (find B p H A).1 ∈ S then (S, 5, 0, false, [], []) else (ins (find B p H A).1 S, 0, A, false, [], []))
  else if K = 3 then ((relz S (find B p H A).1).1, (relz S (find B p H A).1).2, 0, false, [], [])
  else if K = 4 then ((bat (fun x => (find B p H x).1) l S []).1, 0, 0, false, [], (bat (fun x => (find B p H x).1) l S []).2)
  else if K = 5 then (S, 0, 0, decide ((find B p H A).1 ∈ S), [], [])
  else if K = 6 then (S, 0, 0, false, S.map (fun x => (B + x) % 4294967296), [])
  else (S, 0, 0, false, [], []))
 else (S, chk B p H K A l, 0, false, [], [])
theorem relz_Sd {S : List Int} (o : Int) (h : Sd S) : Sd (relz S o).1 := by
 unfold relz
 split
 ·exact Sd_del h
 ·exact h
theorem relz_len (S : List Int) (o : Int) : (relz S o).1.length ≤ S.length := by
 unfold relz
 split
 ·exact del_len_le ..
 ·exact Nat.le_refl _
theorem bat_len (F : Int → Int) : ∀ (xs S acc : List Int), (bat F xs S acc).1.length ≤ S.length ∧ (bat F xs S acc).2.length = acc.length + xs.length
 | [], S, acc => ⟨Nat.le_refl _, rfl⟩
 | a :: r, S, acc => by
  have h := bat_len F r (relz S (F a)).1 (acc ++ [(relz S (F a)).2])
  have := relz_len S (F a)
  simp only [bat, List.length_append, List.length_cons, List.length_nil] at h ⊢
  omega
theorem Fail_eq (e : Int) : spec_fail.f e = some (e, 0, false, [], []) := rfl
theorem Offs_eq {B p : Int} (H : List Int) (s w q t : Int) (hH : H.length ≤ maxLen) (hB0 : 0 ≤ B) (hB1 : B ≤ 4294967295) (h1 : 16 ≤ p) (h2 : p ≤ 32) {a : Int} (ha : 0 ≤ a ∧ a ≤ 4294967295) {k : Nat} (hk : H.length < k) : spec_offset.f k B p H s w q t a = some (find B p H a).1 := by
 unfold spec_offset.f
 rw [Find_eq H s w q t hH hB0 hB1 h1 h2 ha.1 ha.2 hk, Option.bind_some]
theorem least_l0 {B p : Int} (H : List Int) (s w q t : Int) (hH : H.length ≤ maxLen) (h1 : 16 ≤ p) (h2 : p ≤ 32) {S : List Int} (hs : Sd S) (hn : S.length ≤ 1000000) (d : Nat) : ∀ (k : Nat) (i : Int), 0 ≤ i → i ≤ M p → M p - i = d → d * 2 + H.length + S.length + 10 < k →
  spec_least.l0 k S (M p) i B p H s w q t = some (match lst H S d i with | some i => (ins i S, 0, (B + i) % 4294967296, false, [], []) | none => (S, 9, 0, false, [], [])) := by
 have hM := M_bounds h1 h2
 induction d with
 | zero =>
  intro k i hi0 hi1 hd hk
  obtain ⟨k, rfl⟩ : ∃ m, k = m + 1 := ⟨k - 1, by omega⟩
  simp only [spec_least.l0]
  rw [if_neg (by omega), Fail_eq, Option.bind_some]
  rfl
 | succ d ih =>
  intro k i hi0 hi1 hd hk
  obtain ⟨k, rfl⟩ : ∃ m, k = m + 2 := ⟨k - 2, by omega⟩
  have h := ih k (i + 1) (by omega) (by omega) (by omega) (by omega)
  simp only [spec_least.l0]
  rw [if_pos (by omega), Held_eq B p H s w q t hH _ (by omega), Option.bind_some]
  by_cases c : i ∈ H
  ·rw [decide_eq_true c, if_pos rfl]
   simp only [spec_least.j1]
   rw [if_neg (by simp), w64 (by omega) (by omega), h]
   simp only [lst, if_pos c]
  ·rw [decide_eq_false c, if_neg (by simp), MHas_eq i hs (by omega) (by omega), Option.bind_some]
   simp only [spec_least.j1]
   by_cases e : i ∈ S
   ·rw [decide_eq_true e, if_neg (by simp), w64 (by omega) (by omega), h]
    simp only [lst, if_neg c, if_pos e]
   ·rw [decide_eq_false e, if_pos (by simp), With_eq i hs (by omega) (by omega), Option.bind_some, Addr_eq, Option.bind_some]
    simp only [lst, if_neg c, if_neg e]
theorem release_eq {B p : Int} (H : List Int) (s w q t : Int) (hH : H.length ≤ maxLen) (hB0 : 0 ≤ B) (hB1 : B ≤ 4294967295) (h1 : 16 ≤ p) (h2 : p ≤ 32) {S : List Int} (hs : Sd S) (hn : S.length ≤ 1000000) (K : Int) {a : Int} (l : List Int) (ha : 0 ≤ a ∧ a ≤ 4294967295) {k : Nat} (hk : H.length + S.length < k) :
  spec_release.f k B p H s w q t S K a l = some ((relz S (find B p H a).1).1, (relz S (find B p H a).1).2, 0, false, [], []) := by
 unfold spec_release.f relz
 rw [Offs_eq H s w q t hH hB0 hB1 h1 h2 ha (by omega), Option.bind_some, MHas_eq _ hs (by omega) (by omega), Option.bind_some]
 by_cases c : (find B p H a).1 ∈ S
 ·rw [decide_eq_true c, if_pos rfl, if_pos c, Without_eq _ hs (by omega) (by omega), Option.bind_some]
 ·rw [decide_eq_false c, if_neg (by simp), if_neg c, Fail_eq, Option.bind_some]
theorem batch_l0 {B p : Int} (H : List Int) (s w q t : Int) (hH : H.length ≤ maxLen) (hB0 : 0 ≤ B) (hB1 : B ≤ 4294967295) (h1 : 16 ≤ p) (h2 : p ≤ 32) {l : List Int} (hl : l.length ≤ 1000000) (hw : ∀ x ∈ l, 0 ≤ x ∧ x ≤ 4294967295) : ∀ (xs pre S acc : List Int) (k : Nat), l = pre ++ xs → Sd S → S.length ≤ 1000000 → acc.length ≤ pre.length → xs.length + H.length + S.length + 1 < k →
  spec_batch.l0 k S l (l.length : Int) (pre.length : Int) B p H s w q t 0 0 false acc = some ((bat (fun x => (find B p H x).1) xs S acc).1, 0, 0, false, [], (bat (fun x => (find B p H x).1) xs S acc).2) := by
 intro xs
 induction xs with
 | nil =>
  intro pre S acc k hp hs hn ha hk
  obtain ⟨k, rfl⟩ : ∃ m, k = m + 1 := ⟨k - 1, by omega⟩
  simp only [spec_batch.l0]; rw [if_neg (by rw [hp]; simp)]; rfl
 | cons x xs ih =>
  intro pre S acc k hp hs hn ha hk
  simp only [List.length_cons] at hk
  have hl1 : l.length = pre.length + (xs.length + 1) := by rw [hp]; simp
  obtain ⟨k, rfl⟩ : ∃ m, k = m + 1 := ⟨k - 1, by omega⟩
  have hx : rd l (pre.length : Int) = x := by rw [hp]; exact rd_mid ..
  have hxw := hw x (by rw [hp]; simp)
  have hr := relz_len S (find B p H x).1
  have h := ih (pre ++ [x]) (relz S (find B p H x).1).1 (acc ++ [(relz S (find B p H x).1).2]) k (by rw [hp]; simp) (relz_Sd _ hs) (by omega) (by simp; omega) (by omega)
  rw [show ((pre ++ [x]).length : Int) = (pre.length : Int) + 1 by simp] at h
  simp only [spec_batch.l0]
  rw [if_pos (by omega), if_pos (by omega), if_pos (by omega), hx, release_eq H s w q t hH hB0 hB1 h1 h2 hs hn 0 [] hxw (by omega), Option.bind_some, if_pos (by omega), w64 (by omega) (by omega)]
  exact h
theorem Some_eq {B p : Int} (H : List Int) (s w q t : Int) (hH : H.length ≤ maxLen) (hB0 : 0 ≤ B) (hB1 : B ≤ 4294967295) (h1 : 16 ≤ p) (h2 : p ≤ 32) {S : List Int} (hs : Sd S) (hn : S.length ≤ 1000000) {K A : Int} {l : List Int} (hl : l.length ≤ 1000000) (hA : 0 ≤ A ∧ A ≤ 4294967295) (hw : ∀ x ∈ l, 0 ≤ x ∧ x ≤ 4294967295) {k : Nat} (hk : l.length + H.length + S.length + 200000 < k) :
  spec_Some.f k B p H s w q t S K A l = some (som B p H S K A l) := by
 have hM := M_bounds h1 h2
 unfold spec_Some.f som
 rw [Check_eq H s w q t hH hB0 hB1 h1 h2 hl hA hw (by omega), Option.bind_some]
 by_cases c : chk B p H K A l = 0
 ·rw [if_pos c, if_pos c]
  have hK : 1 ≤ K ∧ K ≤ 7 := by
   unfold chk at c
   by_cases d : K < 1 ∨ K > 7
   ·rw [if_pos d] at c; omega
   ·omega
  by_cases k1 : K = 1
  ·rw [if_pos k1, if_pos k1]
   unfold spec_least.f
   have h := least_l0 (B := B) H s w q t hH h1 h2 hs hn (M p).toNat k 0 (by omega) (by omega) (by omega) (by omega)
   rw [Many_eq B h1 h2, Option.bind_some, h, Option.bind_some]
  rw [if_neg k1, if_neg k1]
  by_cases k2 : K = 2
  ·rw [if_pos k2, if_pos k2]
   unfold spec_exact.f
   rw [Offs_eq H s w q t hH hB0 hB1 h1 h2 hA (by omega), Option.bind_some, MHas_eq _ hs (by omega) (by omega), Option.bind_some]
   by_cases e : (find B p H A).1 ∈ S
   ·rw [decide_eq_true e, if_pos rfl, if_pos e, Fail_eq, Option.bind_some, Option.bind_some]
   ·rw [decide_eq_false e, if_neg (by simp), if_neg e, With_eq _ hs (by omega) (by omega), Option.bind_some, Option.bind_some]
  rw [if_neg k2, if_neg k2]
  by_cases k3 : K = 3
  ·rw [if_pos k3, if_pos k3, release_eq H s w q t hH hB0 hB1 h1 h2 hs hn _ _ hA (by omega), Option.bind_some]
  rw [if_neg k3, if_neg k3]
  by_cases k4 : K = 4
  ·rw [if_pos k4, if_pos k4]
   unfold spec_batch.f
   have h := batch_l0 H s w q t hH hB0 hB1 h1 h2 hl hw l [] S [] k rfl hs hn (by simp) (by omega)
   rw [show (([] : List Int).length : Int) = 0 from rfl] at h
   rw [h, Option.bind_some]
  rw [if_neg k4, if_neg k4]
  by_cases k5 : K = 5
  ·rw [if_pos k5, if_pos k5]
   unfold spec_query.f
   rw [Offs_eq H s w q t hH hB0 hB1 h1 h2 hA (by omega), Option.bind_some, MHas_eq _ hs (by omega) (by omega), Option.bind_some, Option.bind_some]
  rw [if_neg k5, if_neg k5]
  by_cases k6 : K = 6
  ·rw [if_pos k6, if_pos k6]
   unfold spec_snapshot.f
   rw [modelAddrs_eq B p H s w q t (by omega) (by omega), Option.bind_some, Option.bind_some]
  rw [if_neg k6, if_neg k6, if_pos (by omega)]
  unfold spec_closing.f
  rw [Option.bind_some]
 ·rw [if_neg c, if_neg c, Fail_eq, Option.bind_some]

theorem relz_sub {S : List Int} {o : Int} : ∀ x ∈ (relz S o).1, x ∈ S := by
 unfold relz
 intro x hx
 by_cases c : o ∈ S
 ·rw [if_pos c] at hx; exact (mem_del.1 hx).1
 ·rw [if_neg c] at hx; exact hx
theorem bat_sub (F : Int → Int) : ∀ (xs S acc : List Int), Sd S → Sd (bat F xs S acc).1 ∧ ∀ x ∈ (bat F xs S acc).1, x ∈ S
 | [], S, acc, h => ⟨h, fun x hx => hx⟩
 | a :: r, S, acc, h => by
  obtain ⟨h1, h2⟩ := bat_sub F r (relz S (F a)).1 (acc ++ [(relz S (F a)).2]) (relz_Sd _ h)
  exact ⟨h1, fun x hx => relz_sub x (h2 x hx)⟩
/-- What an answer that is right tells of the set then. -/
structure Right (B p : Int) (H S : List Int) (K A : Int) (T : List Int) (e a : Int) (u : Bool) : Prop where
 keep : e ≠ 0 → T = S
 may : mset (M p) H T = true
 len : T.length ≤ S.length + 1
 more : ∀ y ∈ T, y ∉ S → (K = 1 ∨ K = 2) ∧ a = (B + y) % 4294967296
 one : K = 1 → e = 0 → ∃ o, o ∉ S ∧ T = ins o S
 asks : K = 5 → e = 0 → B ≤ A ∧ u = decide (A - B ∈ S)
theorem Right.same {B p : Int} {H S : List Int} {K A e a : Int} {u : Bool} (hS : mset (M p) H S = true) (h1 : K = 1 → e ≠ 0) (h5 : K = 5 → e = 0 → B ≤ A ∧ u = decide (A - B ∈ S)) : Right B p H S K A S e a u :=
 ⟨fun _ => rfl, hS, by omega, fun y hy hn => absurd hy hn, fun h0 h => absurd h (h1 h0), h5⟩
theorem awake_true {k : Nat} (hk : 500 ≤ k) : lodgerlaw11_awake.f k = some true := at_rounds lodgerlaw11_awake.mono hk (by decide +kernel)
theorem chk_single {B p : Int} {H : List Int} {K A : Int} (hK : K = 2 ∨ K = 3 ∨ K = 5) (h : (find B p H A).2 = 0) : chk B p H K A [] = 0 := by
 unfold chk
 rw [if_neg (by omega), if_neg (by omega), if_neg (by omega)]
 unfold names
 rw [if_neg (by omega), if_pos hK]
 simp [scan, h]
theorem som_exact {B p : Int} {H S : List Int} {A : Int} (h : (find B p H A).2 = 0) : som B p H S 2 A [] = if (find B p H A).1 ∈ S then (S, 5, 0, false, [], []) else (ins (find B p H A).1 S, 0, A, false, [], []) := by
 unfold som
 rw [if_pos (chk_single (by omega) h), if_neg (by omega), if_pos rfl]
theorem som_release {B p : Int} {H S : List Int} {A : Int} (h : (find B p H A).2 = 0) : som B p H S 3 A [] = ((relz S (find B p H A).1).1, (relz S (find B p H A).1).2, 0, false, [], []) := by
 unfold som
 rw [if_pos (chk_single (by omega) h), if_neg (by omega), if_neg (by omega), if_pos rfl]
theorem som_batch {B p : Int} {H S : List Int} {l : List Int} (h : chk B p H 4 0 l = 0) : som B p H S 4 0 l = ((bat (fun x => (find B p H x).1) l S []).1, 0, 0, false, [], (bat (fun x => (find B p H x).1) l S []).2) := by
 unfold som
 rw [if_pos h, if_neg (by omega), if_neg (by omega), if_neg (by omega), if_pos rfl]
theorem bat_app (F : Int → Int) : ∀ (xs ys S acc : List Int), bat F (xs ++ ys) S acc = bat F ys (bat F xs S acc).1 (bat F xs S acc).2
 | [], _, _, _ => rfl
 | x :: xs, ys, S, acc => by simp only [List.cons_append, bat]; exact bat_app F xs ys _ _
theorem bat_acc (F : Int → Int) : ∀ (xs S acc : List Int), (bat F xs S acc).2 = acc ++ (bat F xs S []).2
 | [], _, _ => by simp [bat]
 | x :: xs, S, acc => by
  simp only [bat]
  rw [bat_acc F xs _ (acc ++ _), bat_acc F xs _ ([] ++ _)]
  simp
theorem back_l0 {B p : Int} {H : List Int} {s w q t : Int} (hH : H.length ≤ maxLen) (hB0 : 0 ≤ B) (hB1 : B ≤ 4294967295) (h1 : 16 ≤ p) (h2 : p ≤ 32) {S : List Int} (hs : Sd S) (hn : S.length ≤ 300) {l : List Int} (hl : l.length ≤ 64) (hw : ∀ x ∈ l, 0 ≤ x ∧ x ≤ 4294967295) (hz : scan (fun x => (find B p H x).2) l [] = 0) : ∀ (xs pre : List Int) (k : Nat), l = pre ++ xs → xs.length + H.length + 300000 ≤ k →
  lodgerlaw11_SpecBack.l0 k l (bat (fun x => (find B p H x).1) l S []).1 (bat (fun x => (find B p H x).1) pre S []).1 pre.length B p H s w q t 0 0 false [] (bat (fun x => (find B p H x).1) l S []).2 = some true := by
 have hE := bat_len (fun x => (find B p H x).1) l S []
 simp only [List.length_nil, Nat.zero_add] at hE
 intro xs
 induction xs with
 | nil =>
  intro pre k hp hk
  obtain ⟨k, rfl⟩ : ∃ z, k = z + 1 := ⟨k - 1, by omega⟩
  have : pre = l := by rw [hp]; simp
  subst this
  simp only [lodgerlaw11_SpecBack.l0]
  rw [if_neg (by omega), Ints_eq _ _ (by omega) (by omega), Option.bind_some, if_pos (by simp), hE.2]
  simp
 | cons x xs ih =>
  intro pre k hp hk
  simp only [List.length_cons] at hk
  have hl1 : l.length = pre.length + (xs.length + 1) := by rw [hp]; simp
  obtain ⟨k, rfl⟩ : ∃ z, k = z + 1 := ⟨k - 1, by omega⟩
  have hx : rd l (pre.length : Int) = x := by rw [hp]; exact rd_mid ..
  have hxw := hw x (by rw [hp]; simp)
  have hf := (scan_zero hz hp).1
  have hP := bat_len (fun x => (find B p H x).1) pre S []
  simp only [List.length_nil, Nat.zero_add] at hP
  have hsd := (bat_sub (fun x => (find B p H x).1) pre S [] hs).1
  have hrd : rd (bat (fun x => (find B p H x).1) l S []).2 (pre.length : Int) = (relz (bat (fun x => (find B p H x).1) pre S []).1 (find B p H x).1).2 := by
   rw [hp, bat_app]
   simp only [bat]
   rw [bat_acc, List.append_assoc, List.singleton_append, ← hP.2]
   exact rd_mid ..
  have h := ih (pre ++ [x]) k (by rw [hp]; simp) (by omega)
  rw [show ((pre ++ [x]).length : Int) = (pre.length : Int) + 1 by simp, bat_app] at h
  simp only [bat] at h
  simp only [lodgerlaw11_SpecBack.l0]
  rw [if_pos (by omega), if_pos (by omega), hx, Some_eq H s w q t hH hB0 hB1 h1 h2 hsd (by omega) (by simp) hxw (by simp) (by simp; omega), Option.bind_some, som_release hf, if_neg (by rw [hE.2]; omega), if_pos (by rw [hE.2]; omega), hrd, if_pos rfl, w64 (by omega) (by omega)]
  exact h
theorem SpecBack : lodgerlaw11_SpecBack.Pure := by
 intro B p H s w q t S A l w0 w1 hH w2 w3 w4 w5 w6 hS hS8 wS w7 hl hl4 w9
 have b0 := wf_u32 w0
 have b8 := wf_u32 w7
 have b9 : ∀ x ∈ l, 0 ≤ x ∧ x ≤ 4294967295 := fun x hx => wf_u32 (w9 x hx)
 refine ⟨H.length + 900000, ?_⟩
 generalize hK : H.length + 900000 = k
 obtain ⟨z, rfl, hz⟩ := more (k := k) (N := H.length + 899999) (by omega)
 have hj : lodgerlaw11_SpecBack.j0 (z + 1) S A l true B p H s w q t = some true := by
  simp only [lodgerlaw11_SpecBack.j0, ↓reduceIte]; rw [awake_true (by omega)]; rfl
 unfold lodgerlaw11_SpecBack.f lodgerref11_Fits.f
 rw [awake_true (by omega), Option.bind_some, if_pos rfl, ref05May_eq H s w q t hH b0.1 b0.2 (by omega), Option.bind_some]
 cases hc : cmay B p H s w q t with
 | false => rw [if_neg (by simp), Option.bind_some, if_neg (by simp), hj]
 | true =>
  obtain ⟨h1, h2, h3, h4, _⟩ := cmay_head hc
  rw [if_pos rfl, ref05Many_eq B h1 h2 (by omega), Option.bind_some]
  by_cases hM : M p ≤ 256
  rotate_left
  ·rw [if_neg hM, Option.bind_some, if_neg (by simp), hj]
  rw [if_pos hM]
  by_cases hS3 : (S.length : Int) ≤ 300
  rotate_left
  ·rw [if_neg hS3, Option.bind_some, if_neg (by simp), hj]
  rw [if_pos hS3, ref09May_eq B H s w q t hH hS h1 h2 (by omega), Option.bind_some, Option.bind_some]
  by_cases hms : mset (M p) H S = true
  rotate_left
  ·rw [if_neg hms, hj]
  rw [if_pos hms]
  have hsd := (mset_iff.1 hms).1
  by_cases hf : (l.length : Int) > 64
  ·rw [decide_eq_true hf, hj]
  rw [decide_eq_false hf]
  simp only [lodgerlaw11_SpecBack.j0]
  rw [if_neg (by simp), refFind_eq H s w q t hH b0.1 b0.2 h1 h2 b8.1 b8.2 (by omega), Option.bind_some]
  by_cases hF : (find B p H A).2 = 0
  rotate_left
  ·rw [if_neg hF]
  rw [if_pos hF]
  have hj1 : lodgerlaw11_SpecBack.j1 z S l false B p H s w q t = some true := by
   obtain ⟨z, rfl⟩ : ∃ y, z = y + 1 := ⟨z - 1, by omega⟩
   simp only [lodgerlaw11_SpecBack.j1]
   rw [if_neg (by simp), refCheck_eq H s w q t hH b0.1 b0.2 h1 h2 (by omega) (by omega) b9 (by omega), Option.bind_some]
   by_cases hcb : chk B p H 4 0 l = 0
   ·rw [if_pos hcb, Some_eq H s w q t hH b0.1 b0.2 h1 h2 hsd (by omega) (by omega) (by omega) b9 (by omega), Option.bind_some, som_batch hcb]
    have hsc : scan (fun x => (find B p H x).2) l [] = 0 := by
     unfold chk at hcb
     rw [if_neg (by omega)] at hcb
     by_cases d2 : (4 : Int) = 4 ∧ l.length = 0
     ·rw [if_pos d2] at hcb; omega
     rw [if_neg d2, if_neg (fun h => by omega)] at hcb
     unfold names at hcb
     rw [if_pos rfl] at hcb
     exact hcb
    exact back_l0 hH b0.1 b0.2 h1 h2 hsd (by omega) (by omega) b9 hsc l [] z rfl (by omega)
   ·rw [if_neg hcb]
  have so : ∀ (T : List Int), Sd T → T.length ≤ 1000 → ∀ K, spec_Some.f z B p H s w q t T K A [] = some (som B p H T K A []) := fun T hT hT2 K => Some_eq H s w q t hH b0.1 b0.2 h1 h2 hT (by omega) (by simp) b8 (by simp) (by simp; omega)
  have hi := Sd_ins (a := (find B p H A).1) hsd
  have hd := Sd_del (a := (find B p H A).1) hsd
  have hil := ins_len_le (find B p H A).1 hsd
  have hdl := del_len_le (find B p H A).1 S
  rw [so S hsd (by omega), Option.bind_some, som_exact hF]
  by_cases e : (find B p H A).1 ∈ S
  ·have r1 : relz S (find B p H A).1 = (del (find B p H A).1 S, 0) := by unfold relz; rw [if_pos e]
   have r2 : relz (del (find B p H A).1 S) (find B p H A).1 = (del (find B p H A).1 S, 6) := by unfold relz; rw [if_neg (fun h => (mem_del.1 h).2 rfl)]
   rw [if_pos e, so S hsd (by omega), Option.bind_some, som_release hF, r1, so S hsd (by omega), Option.bind_some, som_exact hF, if_pos e, so _ hd (by omega), Option.bind_some, som_release hF, r2, if_neg (by simp), if_pos rfl, if_pos rfl]
   exact hj1
  ·have hm : (find B p H A).1 ∈ ins (find B p H A).1 S := mem_ins.2 (.inl rfl)
   have r1 : relz (ins (find B p H A).1 S) (find B p H A).1 = (S, 0) := by unfold relz; rw [if_pos hm, del_ins hsd, del_of_not e]
   have r2 : relz S (find B p H A).1 = (S, 6) := by unfold relz; rw [if_neg e]
   rw [if_neg e, so _ hi (by omega), Option.bind_some, som_release hF, r1, so _ hi (by omega), Option.bind_some, som_exact hF, if_pos hm, so S hsd (by omega), Option.bind_some, som_release hF, r2, if_pos rfl, Ints_eq S S (by omega) (by omega), Option.bind_some, if_pos (by simp), if_pos rfl, if_pos rfl]
   exact hj1

end Go.Proofs.YtkiimboedgnoiaaDoor.Pure
