/- SpecTells answers true at every input: whether an answer is right, the set then, some answer that is, and whether two are the same are as the document tells; no condition. -/
import Derived.Test.YtkiimboedgnoiaaDoorQSpecTellsx18
namespace Go.Proofs.YtkiimboedgnoiaaDoor.Pure
open Go.RowKit Go.Proofs.YtkiimboedgnoiaaDoor.PSpecTells Go.Proofs.YtkiimboedgnoiaaDoorW.PrintWords Go.Proofs.YtkiimboedgnoiaaDoorW.PrintLast Go.Proofs.YtkiimboedgnoiaaDoorW.PrintMore
set_option linter.unusedVariables false
set_option linter.unusedSimpArgs false

theorem w64 {x : Int} (h1 : -9223372036854775808 ≤ x) (h2 : x ≤ 9223372036854775807) : wrap64 x = x := by unfold wrap64; omega
theorem tm {a b : Int} (h : 0 ≤ a) : Int.tmod a b = a % b := Int.tmod_eq_emod_of_nonneg h
theorem more {k N : Nat} (h : N + 1 ≤ k) : ∃ m, k = m + 1 ∧ N ≤ m := ⟨k - 1, by omega, by omega⟩
theorem wf_u32 {a : Int} (h : (Lit.int .u32 a).wf = true) : 0 ≤ a ∧ a ≤ 4294967295 := by
 simp [Lit.wf, IntKind.min, IntKind.max, IntKind.signed, IntKind.bits] at h
 omega
theorem wrapu (n : Int) : IntKind.u64.wrap n = n % 18446744073709551616 := by simp [IntKind.wrap, IntKind.bits, IntKind.signed]
theorem wrapu_small {n : Int} (h0 : 0 ≤ n) (h1 : n < 18446744073709551616) : IntKind.u64.wrap n = n := by rw [wrapu]; omega
/-- How many addresses a block of this prefix has. -/
def M (p : Int) : Int := 2 ^ (32 - p).toNat
theorem p_cases {p : Int} (h1 : 16 ≤ p) (h2 : p ≤ 32) : p = 16 ∨ p = 17 ∨ p = 18 ∨ p = 19 ∨ p = 20 ∨ p = 21 ∨ p = 22 ∨ p = 23 ∨ p = 24 ∨ p = 25 ∨ p = 26 ∨ p = 27 ∨ p = 28 ∨ p = 29 ∨ p = 30 ∨ p = 31 ∨ p = 32 := by omega
theorem M_bounds {p : Int} (h1 : 16 ≤ p) (h2 : p ≤ 32) : 1 ≤ M p ∧ M p ≤ 65536 := by
 rcases p_cases h1 h2 with rfl | rfl | rfl | rfl | rfl | rfl | rfl | rfl | rfl | rfl | rfl | rfl | rfl | rfl | rfl | rfl | rfl <;> decide
theorem M_fits {p B : Int} (h1 : 16 ≤ p) (h2 : p ≤ 32) (hB0 : 0 ≤ B) (hB1 : B ≤ 4294967295) (hm : B % M p = 0) : B + M p ≤ 4294967296 := by
 rcases p_cases h1 h2 with rfl | rfl | rfl | rfl | rfl | rfl | rfl | rfl | rfl | rfl | rfl | rfl | rfl | rfl | rfl | rfl | rfl
 ·rw [show M 16 = 65536 by decide] at *; omega
 ·rw [show M 17 = 32768 by decide] at *; omega
 ·rw [show M 18 = 16384 by decide] at *; omega
 ·rw [show M 19 = 8192 by decide] at *; omega
 ·rw [show M 20 = 4096 by decide] at *; omega
 ·rw [show M 21 = 2048 by decide] at *; omega
 ·rw [show M 22 = 1024 by decide] at *; omega
 ·rw [show M 23 = 512 by decide] at *; omega
 ·rw [show M 24 = 256 by decide] at *; omega
 ·rw [show M 25 = 128 by decide] at *; omega
 ·rw [show M 26 = 64 by decide] at *; omega
 ·rw [show M 27 = 32 by decide] at *; omega
 ·rw [show M 28 = 16 by decide] at *; omega
 ·rw [show M 29 = 8 by decide] at *; omega
 ·rw [show M 30 = 4 by decide] at *; omega
 ·rw [show M 31 = 2 by decide] at *; omega
 ·rw [show M 32 = 1 by decide] at *; omega
theorem Many_eq (B : Int) {p : Int} (h1 : 16 ≤ p) (h2 : p ≤ 32) : block_Many.f B p = some (M p) := by
 have hb := M_bounds h1 h2
 unfold block_Many.f
 rw [w64 (x := 32 - p) (by omega) (by omega), wrapu_small (by omega) (by omega), if_pos (by omega)]
 unfold M at hb
 unfold shl M
 rw [Nat.min_eq_left (by simp [IntKind.bits]; omega), Int.one_mul, IntKind.wrap_i64]
 generalize (2 : Int) ^ (32 - p).toNat = q at *
 congr 1; omega
/-- May such a block be? -/
def bmay (B p : Int) : Bool := decide (16 ≤ p ∧ p ≤ 32 ∧ B % M p = 0)

theorem ref04Many_eq {p : Int} (h1 : 16 ≤ p) (h2 : p ≤ 32) {k : Nat} (hk : 20 ≤ k) : lodgerref04_Many.f k p = some (M p) := by
 rcases p_cases h1 h2 with rfl | rfl | rfl | rfl | rfl | rfl | rfl | rfl | rfl | rfl | rfl | rfl | rfl | rfl | rfl | rfl | rfl <;> exact at_rounds (fun k => lodgerref04_Many.mono _ k) hk (by decide +kernel)
theorem ref04May_eq {B p : Int} (hB0 : 0 ≤ B) (hB1 : B ≤ 4294967295) {k : Nat} (hk : 20 ≤ k) : lodgerref04_May.f k B p = some (bmay B p) := by
 unfold lodgerref04_May.f bmay
 by_cases c1 : p ≥ 16
 ·rw [if_pos c1]
  by_cases c2 : p ≤ 32
  ·have hb := M_bounds (p := p) (by omega) (by omega)
   rw [if_pos c2, ref04Many_eq (by omega) (by omega) hk, Option.bind_some, if_neg (by omega), w64 (by omega) (by omega), tm hB0]
   congr 1
   rw [Bool.eq_iff_iff, beq_iff_eq, decide_eq_true_eq]
   omega
  ·rw [if_neg c2, decide_eq_false (by omega)]
 ·rw [if_neg c1, decide_eq_false (by omega)]

theorem rd_mid (pre xs : List Int) (x : Int) : rd (pre ++ x :: xs) (pre.length : Int) = x := by simp [rd]

/-- Does a list rise, from behind a number on, below a bound? -/
def rises (last m : Int) : List Int → Bool
 | [] => true
 | x :: xs => decide (last < x) && decide (x < m) && rises x m xs
/-- What a configuration's numbers must be. -/
def chead (B p : Int) (l : List Int) (s w q t : Int) : Bool := decide (16 ≤ p ∧ p ≤ 32 ∧ B % M p = 0 ∧ (l.length : Int) ≤ 64 ∧ 1 ≤ s ∧ s ≤ 64 ∧ 1 ≤ w ∧ w ≤ 64 ∧ 1 ≤ q ∧ q ≤ 64 ∧ 1 ≤ t ∧ t ≤ 8)
/-- May such a configuration be? -/
def cmay (B p : Int) (l : List Int) (s w q t : Int) : Bool := chead B p l s w q t && rises (-1) (M p) l
theorem cmay_head {B p : Int} {l : List Int} {s w q t : Int} (h : cmay B p l s w q t = true) : 16 ≤ p ∧ p ≤ 32 ∧ B % M p = 0 ∧ (l.length : Int) ≤ 64 ∧ 1 ≤ s ∧ s ≤ 64 ∧ 1 ≤ w ∧ w ≤ 64 ∧ 1 ≤ q ∧ q ≤ 64 ∧ 1 ≤ t ∧ t ≤ 8 := by
 unfold cmay chead at h
 rw [Bool.and_eq_true, decide_eq_true_eq] at h
 exact h.1
theorem cmay_rises {B p : Int} {l : List Int} {s w q t : Int} (h : cmay B p l s w q t = true) : rises (-1) (M p) l = true := by
 unfold cmay at h
 rw [Bool.and_eq_true] at h
 exact h.2

theorem rises_bounds {last m : Int} {l : List Int} (h : rises last m l = true) : ∀ x ∈ l, last < x ∧ x < m := by
 induction l generalizing last with
 | nil => intro x hx; cases hx
 | cons y ys ih =>
  simp only [rises, Bool.and_eq_true, decide_eq_true_eq] at h
  intro x hx
  rcases List.mem_cons.1 hx with rfl | hx
  ·exact h.1
  ·have := ih h.2 x hx
   omega
/-- How many of a list lie below a number. -/
def below (l : List Int) (n : Int) : Nat := (l.filter (fun x => decide (x < n))).length
theorem below_all {l : List Int} {n : Int} (h : ∀ x ∈ l, x < n) : below l n = l.length := by
 unfold below
 rw [List.filter_eq_self.2 (fun x hx => by simpa using h x hx)]
theorem below_none {l : List Int} {n : Int} (h : ∀ x ∈ l, n ≤ x) : below l n = 0 := by
 unfold below
 rw [List.filter_eq_nil_iff.2 (fun x hx => by have := h x hx; simp; omega)]; rfl
theorem below_succ {last m : Int} {l : List Int} (h : rises last m l = true) (n : Int) : below l (n + 1) = below l n + (if n ∈ l then 1 else 0) := by
 induction l generalizing last with
 | nil => simp [below]
 | cons x xs ih =>
  simp only [rises, Bool.and_eq_true, decide_eq_true_eq] at h
  have h2 := ih h.2
  have hb := rises_bounds h.2
  unfold below at h2 ⊢
  simp only [List.filter_cons]
  by_cases c1 : x < n
  ·have : ¬ n = x := by omega
   simp only [show x < n + 1 by omega, c1, decide_true, if_true, List.length_cons, List.mem_cons, this, false_or]
   omega
  ·by_cases c2 : x = n
   ·subst c2
    have hn : x ∉ xs := fun hx => by have := (hb x hx).1; omega
    simp only [show x < x + 1 by omega, show ¬ x < x by omega, decide_true, decide_false, if_true, List.length_cons, List.mem_cons, true_or, if_neg hn] at h2 ⊢
    simp; omega
   ·have : ¬ n = x := fun e => c2 e.symm
    simp only [show ¬ x < n + 1 by omega, c1, decide_false, List.mem_cons, this, false_or]
    simpa using h2

theorem Index_l0 (l : List Int) (hl : l.length ≤ maxLen) (a : Int) : ∀ (xs pre : List Int) (k : Nat), l = pre ++ xs → xs.length < k →
  ∃ r, slices_Index_int_int.l0 k l a (l.length : Int) (pre.length : Int) = some r ∧ (0 ≤ r ↔ a ∈ xs) := by
 unfold maxLen at hl
 intro xs
 induction xs with
 | nil =>
  intro pre k hp hk
  obtain ⟨k, rfl⟩ : ∃ m, k = m + 1 := ⟨k - 1, by omega⟩
  refine ⟨-1, ?_, by simp⟩
  simp only [slices_Index_int_int.l0]; rw [if_neg (by rw [hp]; simp)]
 | cons x xs ih =>
  intro pre k hp hk
  simp only [List.length_cons] at hk
  obtain ⟨k, rfl⟩ : ∃ m, k = m + 1 := ⟨k - 1, by omega⟩
  have hlt : pre.length < l.length := by rw [hp]; simp
  simp only [slices_Index_int_int.l0]
  rw [if_pos (by omega), if_pos (by omega), if_pos (by omega)]
  have hx : rd l (pre.length : Int) = x := by rw [hp]; exact rd_mid ..
  rw [hx]
  by_cases e : a = x
  ·rw [if_pos e]; exact ⟨_, rfl, by simp [e]⟩
  ·rw [if_neg e, w64 (by omega) (by omega)]
   obtain ⟨r, h1, h2⟩ := ih (pre ++ [x]) k (by rw [hp]; simp) (by omega)
   simp only [List.length_append, List.length_cons, List.length_nil, Nat.zero_add, Int.natCast_add, Int.natCast_one] at h1
   exact ⟨r, h1, by rw [h2]; simp [e]⟩
theorem Contains_eq (l : List Int) (hl : l.length ≤ maxLen) (a : Int) {k : Nat} (hk : l.length < k) : slices_Contains_int_int.f k l a = some (decide (a ∈ l)) := by
 unfold slices_Contains_int_int.f slices_Index_int_int.f
 obtain ⟨r, h1, h2⟩ := Index_l0 l hl a l [] k rfl hk
 replace h1 : slices_Index_int_int.l0 k l a (l.length : Int) 0 = some r := h1
 rw [h1, Option.bind_some]
 congr 1
 rw [Bool.eq_iff_iff, decide_eq_true_eq, decide_eq_true_eq]
 exact h2

theorem Held_eq (B p : Int) (l : List Int) (s w q t : Int) (hl : l.length ≤ maxLen) (a : Int) {k : Nat} (hk : l.length < k) : block_Held.f k B p l s w q t a = some (decide (a ∈ l)) := by
 unfold block_Held.f; rw [Contains_eq l hl a hk]; rfl

theorem refHeld_l0 (B p : Int) (l : List Int) (s w q t : Int) (hl : l.length ≤ maxLen) (a : Int) : ∀ (xs pre : List Int) (k : Nat), l = pre ++ xs → xs.length < k →
  lodgerref05_Held.l0 k a (pre.length : Int) B p l s w q t = some (decide (a ∈ xs)) := by
 unfold maxLen at hl
 intro xs
 induction xs with
 | nil =>
  intro pre k hp hk
  obtain ⟨k, rfl⟩ : ∃ m, k = m + 1 := ⟨k - 1, by omega⟩
  simp only [lodgerref05_Held.l0]; rw [if_neg (by rw [hp]; simp)]; simp
 | cons x xs ih =>
  intro pre k hp hk
  simp only [List.length_cons] at hk
  obtain ⟨k, rfl⟩ : ∃ m, k = m + 1 := ⟨k - 1, by omega⟩
  have hlt : pre.length < l.length := by rw [hp]; simp
  simp only [lodgerref05_Held.l0]
  rw [if_pos (by omega), if_pos (by omega)]
  have hx : rd l (pre.length : Int) = x := by rw [hp]; exact rd_mid ..
  rw [hx]
  by_cases e : x = a
  ·rw [if_pos e]; simp [e]
  ·rw [if_neg e, w64 (by omega) (by omega)]
   have h1 := ih (pre ++ [x]) k (by rw [hp]; simp) (by omega)
   simp only [List.length_append, List.length_cons, List.length_nil, Nat.zero_add, Int.natCast_add, Int.natCast_one] at h1
   rw [h1]
   have : ¬ a = x := fun h => e h.symm
   simp [this]
theorem refHeld_eq (B p : Int) (l : List Int) (s w q t : Int) (hl : l.length ≤ maxLen) (a : Int) {k : Nat} (hk : l.length < k) : lodgerref05_Held.f k B p l s w q t a = some (decide (a ∈ l)) := by
 unfold lodgerref05_Held.f
 exact refHeld_l0 B p l s w q t hl a l [] k rfl hk

theorem ref05Many_eq (B : Int) {p : Int} (h1 : 16 ≤ p) (h2 : p ≤ 32) {k : Nat} (hk : 20 ≤ k) : lodgerref05_Many.f k B p = some (M p) := by
 unfold lodgerref05_Many.f; rw [ref04Many_eq h1 h2 hk]; rfl

theorem refMay_l0 (B p : Int) (l : List Int) (s w q t : Int) (hl : l.length ≤ maxLen) (h1 : 16 ≤ p) (h2 : p ≤ 32) : ∀ (xs pre : List Int) (last : Int) (k : Nat), l = pre ++ xs → (pre = [] ∧ last = -1 ∨ (∃ pr, pre = pr ++ [last]) ∧ 0 ≤ last) → xs.length + 30 < k →
  lodgerref05_May.l0 k (pre.length : Int) B p l s w q t = some (rises last (M p) xs) := by
 unfold maxLen at hl
 intro xs
 induction xs with
 | nil =>
  intro pre last k hp hpre hk
  obtain ⟨k, rfl⟩ : ∃ m, k = m + 1 := ⟨k - 1, by omega⟩
  simp only [lodgerref05_May.l0]; rw [if_neg (by rw [hp]; simp)]; rfl
 | cons x xs ih =>
  intro pre last k hp hpre hk
  simp only [List.length_cons] at hk
  obtain ⟨k, rfl⟩ : ∃ m, k = m + 1 := ⟨k - 1, by omega⟩
  have hlt : pre.length < l.length := by rw [hp]; simp
  simp only [lodgerref05_May.l0, rises]
  have hx : rd l (pre.length : Int) = x := by rw [hp]; exact rd_mid ..
  rw [if_pos (by omega), if_pos (by omega), hx]
  by_cases c1 : x < 0
  ·rw [if_pos c1, decide_eq_false (p := last < x) (by rcases hpre with ⟨_, h⟩ | ⟨_, h⟩ <;> omega)]; rfl
  rw [if_neg c1, ref05Many_eq B h1 h2 (by omega), Option.bind_some]
  by_cases c2 : x ≥ M p
  ·rw [if_pos c2, decide_eq_false (p := x < M p) (by omega)]; simp
  have h := ih (pre ++ [x]) x k (by rw [hp]; simp) (.inr ⟨⟨pre, rfl⟩, by omega⟩) (by omega)
  simp only [List.length_append, List.length_cons, List.length_nil, Nat.zero_add, Int.natCast_add, Int.natCast_one] at h
  rw [if_neg c2, decide_eq_true (p := x < M p) (by omega), w64 (x := (pre.length : Int) + 1) (by omega) (by omega), h]
  rcases hpre with ⟨rfl, rfl⟩ | ⟨⟨pr, rfl⟩, h0⟩
  ·rw [if_neg (by simp), decide_eq_true (p := -1 < x) (by omega)]; rfl
  ·have hy : rd l (((pr ++ [last]).length : Int) - 1) = last := by
    rw [hp]; simp [rd]
   have hl1 : (pr ++ [last]).length = pr.length + 1 := by simp
   rw [if_pos (by omega), w64 (by omega) (by omega), if_pos (by omega), if_pos (by omega), hy]
   by_cases c3 : x ≤ last
   ·rw [if_pos c3, decide_eq_false (p := last < x) (by omega)]; rfl
   ·rw [if_neg c3, decide_eq_true (p := last < x) (by omega)]; rfl
theorem ref05May_eq {B p : Int} (l : List Int) (s w q t : Int) (hl : l.length ≤ maxLen) (hB0 : 0 ≤ B) (hB1 : B ≤ 4294967295) {k : Nat} (hk : l.length + 40 < k) : lodgerref05_May.f k B p l s w q t = some (cmay B p l s w q t) := by
 obtain ⟨k, rfl⟩ : ∃ m, k = m + 1 := ⟨k - 1, by omega⟩
 have hj : lodgerref05_May.j0 (k + 1) true B p l s w q t = some false := by simp only [lodgerref05_May.j0, ↓reduceIte]
 unfold lodgerref05_May.f cmay
 rw [ref04May_eq hB0 hB1 (by omega), Option.bind_some]
 by_cases h : chead B p l s w q t = true
 ·have h' := h
  unfold chead at h'
  rw [decide_eq_true_eq] at h'
  have hb : bmay B p = true := by unfold bmay; rw [decide_eq_true_eq]; omega
  rw [h, hb, if_pos rfl, if_neg (by omega), if_neg (by omega), if_neg (by omega), if_neg (by omega), if_neg (by omega), if_neg (by omega), if_neg (by omega), if_neg (by omega), decide_eq_false (p := t > 8) (by omega)]
  simp only [lodgerref05_May.j0]
  rw [if_neg (by simp)]
  have := refMay_l0 B p l s w q t hl (by omega) (by omega) l [] (-1) k rfl (.inl ⟨rfl, rfl⟩) (by omega)
  rw [show (([] : List Int).length : Int) = 0 from rfl] at this
  rw [this]; rfl
 ·rw [Bool.not_eq_true] at h
  rw [h, hj]
  by_cases hb : bmay B p = true
  ·rw [hb, if_pos rfl]
   have hb' := hb
   unfold bmay at hb'
   rw [decide_eq_true_eq] at hb'
   unfold chead at h
   rw [decide_eq_false_iff_not] at h
   by_cases c1 : (l.length : Int) > 64
   ·rw [if_pos c1]; rfl
   rw [if_neg c1]
   by_cases c2 : s < 1
   ·rw [if_pos c2]; rfl
   rw [if_neg c2]
   by_cases c3 : s > 64
   ·rw [if_pos c3]; rfl
   rw [if_neg c3]
   by_cases c4 : w < 1
   ·rw [if_pos c4]; rfl
   rw [if_neg c4]
   by_cases c5 : w > 64
   ·rw [if_pos c5]; rfl
   rw [if_neg c5]
   by_cases c6 : q < 1
   ·rw [if_pos c6]; rfl
   rw [if_neg c6]
   by_cases c7 : q > 64
   ·rw [if_pos c7]; rfl
   rw [if_neg c7]
   by_cases c8 : t < 1
   ·rw [if_pos c8]; rfl
   rw [if_neg c8, decide_eq_true (p := t > 8) (by omega), hj]; rfl
  ·rw [if_neg hb]; rfl

theorem Offset_block {B p : Int} (hB0 : 0 ≤ B) (hB1 : B ≤ 4294967295) (h1 : 16 ≤ p) (h2 : p ≤ 32) {a : Int} (ha0 : 0 ≤ a) (ha1 : a ≤ 4294967295) : block_Offset.f B p a = some (if B ≤ a ∧ a < B + M p then (a - B, 0) else (0, 3)) := by
 unfold block_Offset.f
 have hb := M_bounds h1 h2
 rw [w64 (x := a) (by omega) (by omega), w64 (x := B) (by omega) (by omega), w64 (x := a - B) (by omega) (by omega), Many_eq B h1 h2, Option.bind_some]
 by_cases c1 : a - B ≥ 0
 ·rw [if_pos c1]
  by_cases c2 : a - B < M p
  ·rw [if_pos c2, if_pos (by omega)]
  ·rw [if_neg c2, if_neg (by omega)]
 ·rw [if_neg c1, if_neg (by omega)]

/-- What finding an address answers. -/
def find (B p : Int) (l : List Int) (a : Int) : Int × Int := if B ≤ a ∧ a < B + M p then (if a - B ∈ l then (0, 4) else (a - B, 0)) else (0, 3)
theorem Find_eq {B p : Int} (l : List Int) (s w q t : Int) (hl : l.length ≤ maxLen) (hB0 : 0 ≤ B) (hB1 : B ≤ 4294967295) (h1 : 16 ≤ p) (h2 : p ≤ 32) {a : Int} (ha0 : 0 ≤ a) (ha1 : a ≤ 4294967295) {k : Nat} (hk : l.length < k) : block_Find.f k B p l s w q t a = some (find B p l a) := by
 unfold block_Find.f find
 rw [Offset_block hB0 hB1 h1 h2 ha0 ha1, Option.bind_some]
 by_cases c : B ≤ a ∧ a < B + M p
 ·rw [if_pos c, if_pos rfl, Held_eq B p l s w q t hl _ hk, Option.bind_some, if_pos c]
  by_cases e : a - B ∈ l
  ·simp [e]
  ·simp [e]
 ·rw [if_neg c, if_neg (by decide), if_neg c]

theorem refOffset_eq {B p : Int} (hB0 : 0 ≤ B) (hB1 : B ≤ 4294967295) (h1 : 16 ≤ p) (h2 : p ≤ 32) {a : Int} (ha0 : 0 ≤ a) (ha1 : a ≤ 4294967295) {k : Nat} (hk : 20 ≤ k) : lodgerref05_Offset.f k B p a = some (if B ≤ a ∧ a < B + M p then (a - B, 0) else (0, 3)) := by
 unfold lodgerref05_Offset.f
 by_cases c0 : a < B
 ·rw [if_pos c0, if_neg (by omega)]
 rw [if_neg c0, ref05Many_eq B h1 h2 hk, Option.bind_some, show (a - B) % 4294967296 = a - B by omega]
 by_cases c1 : a - B ≥ M p
 ·rw [if_pos c1, if_neg (by omega)]
 ·rw [if_neg c1, if_pos (by omega)]

theorem refFind_eq {B p : Int} (l : List Int) (s w q t : Int) (hl : l.length ≤ maxLen) (hB0 : 0 ≤ B) (hB1 : B ≤ 4294967295) (h1 : 16 ≤ p) (h2 : p ≤ 32) {a : Int} (ha0 : 0 ≤ a) (ha1 : a ≤ 4294967295) {k : Nat} (hk : l.length + 20 < k) : lodgerref05_Find.f k B p l s w q t a = some (find B p l a) := by
 unfold lodgerref05_Find.f find
 rw [refOffset_eq hB0 hB1 h1 h2 ha0 ha1 (by omega), Option.bind_some]
 by_cases c : B ≤ a ∧ a < B + M p
 ·rw [if_pos c, if_pos rfl, refHeld_eq B p l s w q t hl _ (by omega), Option.bind_some, if_pos c]
  by_cases e : a - B ∈ l
  ·simp [e]
  ·simp [e]
 ·rw [if_neg c, if_neg (by decide), if_neg c]

/-- The addresses that a request names. -/
def names (K A : Int) (l : List Int) : List Int := if K = 4 then l else if K = 2 ∨ K = 3 ∨ K = 5 then [A] else []
theorem Names_eq {K A : Int} {l : List Int} (hl : l.length ≤ 1000000) : ask_Names.f K A l = some (names K A l) := by
 unfold ask_Names.f slices_Clone_uint32_uint32.f names sgl
 by_cases c4 : K = 4
 ·rw [if_pos c4, if_pos c4, Option.bind_some, if_pos (by simp; omega), Option.bind_some]; simp
 rw [if_neg c4, if_neg c4]
 by_cases c0 : K ≥ 0
 ·rw [if_pos c0]
  by_cases c6 : K < 6
  ·rw [if_pos c6, if_pos (show 0 ≤ K from c0)]
   by_cases c : K = 2 ∨ K = 3 ∨ K = 5
   ·rw [if_pos c, decide_eq_true c, if_pos rfl]
   ·rw [if_neg c, decide_eq_false c, if_neg (by simp)]
  ·rw [if_neg c6, if_neg (by omega)]
 ·rw [if_neg c0, if_neg (by omega)]
theorem names_len {K A : Int} {l : List Int} : (names K A l).length ≤ l.length + 1 := by
 unfold names; split <;> (try split) <;> simp
theorem names_wf {K A : Int} {l : List Int} (hA : 0 ≤ A ∧ A ≤ 4294967295) (hw : ∀ x ∈ l, 0 ≤ x ∧ x ≤ 4294967295) : ∀ x ∈ names K A l, 0 ≤ x ∧ x ≤ 4294967295 := by
 unfold names
 intro x hx
 split at hx
 ·exact hw x hx
 ·split at hx
  ·simp at hx; subst hx; exact hA
  ·simp at hx

/-- What is wrong with a list of addresses: the first that is. -/
def scan (F : Int → Int) : List Int → List Int → Int
 | [], _ => 0
 | x :: xs, met => if F x = 0 then (if x ∈ met then 8 else scan F xs (met ++ [x])) else F x
theorem wfmk_u32 {x : Int} (h : 0 ≤ x ∧ x ≤ 4294967295) : (Lit.int .u32 x).wf = true := by
 simp [Lit.wf, IntKind.min, IntKind.max, IntKind.signed, IntKind.bits]
 omega
/-- What is wrong with a request. -/
def chk (B p : Int) (H : List Int) (K A : Int) (l : List Int) : Int := if K < 1 ∨ K > 7 then 1 else if K = 4 ∧ l.length = 0 then 7 else if K = 4 ∧ 64 < l.length then 1 else scan (fun x => (find B p H x).2) (names K A l) []
theorem Check_l0 {B p : Int} (H : List Int) (s w q t : Int) (hH : H.length ≤ maxLen) (hB0 : 0 ≤ B) (hB1 : B ≤ 4294967295) (h1 : 16 ≤ p) (h2 : p ≤ 32) {l : List Int} (hl : l.length ≤ 1000001) (hw : ∀ x ∈ l, 0 ≤ x ∧ x ≤ 4294967295) : ∀ (xs pre met : List Int) (k : Nat), l = pre ++ xs → met.length ≤ pre.length → xs.length + H.length + 1 < k →
  ask_Check.l0 k l (l.length : Int) (pre.length : Int) B p H s w q t met = some (scan (fun x => (find B p H x).2) xs met) := by
 intro xs
 induction xs with
 | nil =>
  intro pre met k hp hm hk
  obtain ⟨k, rfl⟩ : ∃ m, k = m + 1 := ⟨k - 1, by omega⟩
  simp only [ask_Check.l0]; rw [if_neg (by rw [hp]; simp)]; rfl
 | cons x xs ih =>
  intro pre met k hp hm hk
  simp only [List.length_cons] at hk
  have hl1 : l.length = pre.length + (xs.length + 1) := by rw [hp]; simp
  obtain ⟨k, rfl⟩ : ∃ m, k = m + 1 := ⟨k - 1, by omega⟩
  have hx : rd l (pre.length : Int) = x := by rw [hp]; exact rd_mid ..
  have hxw := hw x (by rw [hp]; simp)
  have h := ih (pre ++ [x]) (met ++ [x]) k (by rw [hp]; simp) (by simp; omega) (by omega)
  rw [show ((pre ++ [x]).length : Int) = (pre.length : Int) + 1 by simp] at h
  simp only [ask_Check.l0, scan]
  rw [if_pos (by omega), if_pos (by omega), if_pos (by omega), hx, Find_eq H s w q t hH hB0 hB1 h1 h2 hxw.1 hxw.2 (by omega), Option.bind_some]
  by_cases c : (find B p H x).2 = 0
  ·rw [if_pos c, if_pos c, if_pos (wfmk_u32 hxw)]
   by_cases d : x ∈ met
   ·rw [if_pos d, if_pos d]
   ·rw [if_neg d, if_neg d, if_pos (by omega), w64 (by omega) (by omega), h]
  ·rw [if_neg c, if_neg c]
theorem size_eq {K A : Int} {l : List Int} : ask_size.f K A l = some (if K = 4 ∧ l.length = 0 then 7 else if K = 4 ∧ 64 < l.length then 1 else 0) := by
 unfold ask_size.f
 by_cases c : K = 4
 ·subst c
  by_cases d : l.length = 0
  ·simp [d]
  ·rw [if_pos rfl, if_neg (show ¬ (l.length : Int) = 0 by omega), if_neg (show ¬ ((4 : Int) = 4 ∧ l.length = 0) from fun h => d h.2)]
   by_cases e : 64 < l.length
   ·rw [if_pos (show (l.length : Int) > 64 by omega), if_pos (show (4 : Int) = 4 ∧ 64 < l.length from ⟨rfl, e⟩)]
   ·rw [if_neg (show ¬ (l.length : Int) > 64 by omega), if_neg (show ¬ ((4 : Int) = 4 ∧ 64 < l.length) from fun h => e h.2)]
 ·rw [if_neg c, if_neg (show ¬ (K = 4 ∧ l.length = 0) from fun h => c h.1), if_neg (show ¬ (K = 4 ∧ 64 < l.length) from fun h => c h.1)]
theorem Check_eq {B p : Int} (H : List Int) (s w q t : Int) (hH : H.length ≤ maxLen) (hB0 : 0 ≤ B) (hB1 : B ≤ 4294967295) (h1 : 16 ≤ p) (h2 : p ≤ 32) {K A : Int} {l : List Int} (hl : l.length ≤ 1000000) (hA : 0 ≤ A ∧ A ≤ 4294967295) (hw : ∀ x ∈ l, 0 ≤ x ∧ x ≤ 4294967295) {k : Nat} (hk : l.length + H.length + 10 < k) :
  ask_Check.f k B p H s w q t K A l = some (chk B p H K A l) := by
 obtain ⟨k, rfl⟩ : ∃ m, k = m + 1 := ⟨k - 1, by omega⟩
 unfold ask_Check.f chk
 have hn := names_len (K := K) (A := A) (l := l)
 by_cases c1 : K < 1
 ·rw [if_pos c1, if_pos (by omega)]; simp only [ask_Check.j0, ↓reduceIte]
 rw [if_neg c1]
 by_cases c7 : K > 7
 ·rw [decide_eq_true c7, if_pos (by omega)]; simp only [ask_Check.j0, ↓reduceIte]
 rw [decide_eq_false c7, if_neg (by omega)]
 simp only [ask_Check.j0]
 rw [if_neg (by simp), size_eq, Option.bind_some]
 by_cases d : K = 4 ∧ l.length = 0
 ·rw [if_pos d, if_neg (by omega)]; simp [d]
 rw [if_neg d, if_neg d]
 by_cases e : K = 4 ∧ 64 < l.length
 ·rw [if_pos e, if_neg (by omega)]; simp [e]
 rw [if_neg e, if_neg e, if_pos rfl, Names_eq hl, Option.bind_some]
 exact Check_l0 H s w q t hH hB0 hB1 h1 h2 (by omega) (names_wf hA hw) _ [] [] k rfl (by simp) (by omega)

/-! Lists that rise, as sets: two with the same members are one. -/
abbrev Sd (l : List Int) : Prop := l.Pairwise (fun a b => a < b)
theorem sext : ∀ {l m : List Int}, Sd l → Sd m → (∀ x, x ∈ l ↔ x ∈ m) → l = m
 | [], [], _, _, _ => rfl
 | [], y :: ys, _, _, h => absurd ((h y).2 (by simp)) (by simp)
 | x :: xs, [], _, _, h => absurd ((h x).1 (by simp)) (by simp)
 | x :: xs, y :: ys, hl, hm, h => by
  rw [Sd, List.pairwise_cons] at hl hm
  have e : x = y := by
   rcases List.mem_cons.1 ((h x).1 (by simp)) with e | e
   ·exact e
   ·rcases List.mem_cons.1 ((h y).2 (by simp)) with e2 | e2
    ·exact e2.symm
    ·have := hm.1 x e; have := hl.1 y e2; omega
  subst e
  congr 1
  refine sext hl.2 hm.2 (fun z => ⟨fun hz => ?_, fun hz => ?_⟩)
  ·have := hl.1 z hz
   rcases List.mem_cons.1 ((h z).1 (List.mem_cons_of_mem _ hz)) with e | e
   ·omega
   ·exact e
  ·have := hm.1 z hz
   rcases List.mem_cons.1 ((h z).2 (List.mem_cons_of_mem _ hz)) with e | e
   ·omega
   ·exact e
/-- A set and a number. -/
def ins (a : Int) (l : List Int) : List Int := l.filter (fun x => decide (x < a)) ++ a :: l.filter (fun x => decide (a < x))
/-- A set without a number. -/
def del (a : Int) (l : List Int) : List Int := l.filter (fun x => !decide (x = a))
theorem mem_ins {a x : Int} {l : List Int} : x ∈ ins a l ↔ x = a ∨ x ∈ l := by
 unfold ins
 simp only [List.mem_append, List.mem_cons, List.mem_filter, decide_eq_true_eq]
 constructor
 ·rintro (h | h | h)
  ·exact .inr h.1
  ·exact .inl h
  ·exact .inr h.1
 ·rintro (h | h)
  ·exact .inr (.inl h)
  ·by_cases c1 : x < a
   ·exact .inl ⟨h, c1⟩
   by_cases c2 : x = a
   ·exact .inr (.inl c2)
   ·exact .inr (.inr ⟨h, by omega⟩)
theorem mem_del {a x : Int} {l : List Int} : x ∈ del a l ↔ x ∈ l ∧ x ≠ a := by
 unfold del
 simp [List.mem_filter]
theorem Sd_ins {a : Int} {l : List Int} (h : Sd l) : Sd (ins a l) := by
 unfold ins Sd
 rw [List.pairwise_append, List.pairwise_cons]
 refine ⟨h.filter _, ⟨fun x hx => by simpa using (List.mem_filter.1 hx).2, h.filter _⟩, fun x hx y hy => ?_⟩
 have h1 : x < a := by simpa using (List.mem_filter.1 hx).2
 rcases List.mem_cons.1 hy with rfl | hy
 ·exact h1
 ·have h2 : a < y := by simpa using (List.mem_filter.1 hy).2
  omega
theorem Sd_del {a : Int} {l : List Int} (h : Sd l) : Sd (del a l) := h.filter _
theorem ins_len {a : Int} {l : List Int} (h : a ∉ l) : (ins a l).length = l.length + 1 := by
 unfold ins
 rw [List.length_append, List.length_cons]
 induction l with
 | nil => rfl
 | cons x xs ih =>
  have hx : ¬ x = a := fun e => h (by simp [e])
  have ih := ih (fun hh => h (List.mem_cons_of_mem _ hh))
  by_cases c : x < a
  ·simp only [List.filter_cons, decide_eq_true c, decide_eq_false (show ¬ a < x by omega), if_true, List.length_cons]; simp; omega
  ·simp only [List.filter_cons, decide_eq_false c, decide_eq_true (show a < x by omega), if_true, List.length_cons]; simp; omega
theorem ins_of_mem {a : Int} {l : List Int} (hs : Sd l) (h : a ∈ l) : ins a l = l := sext (Sd_ins hs) hs (fun x => by rw [mem_ins]; exact ⟨fun e => e.elim (fun e => e ▸ h) id, .inr⟩)
theorem del_of_not {a : Int} {l : List Int} (h : a ∉ l) : del a l = l := by
 unfold del
 rw [List.filter_eq_self]
 intro x hx
 simp only [Bool.not_eq_true', decide_eq_false_iff_not]
 rintro rfl
 exact h hx
theorem del_len_le (a : Int) (l : List Int) : (del a l).length ≤ l.length := List.length_filter_le _ _
/-- Does a list rise? -/
def rise : List Int → Bool
 | [] => true
 | x :: xs => (match xs with | [] => true | y :: _ => decide (x < y)) && rise xs
theorem rises_Sd {last m : Int} {l : List Int} (h : rises last m l = true) : Sd l := by
 induction l generalizing last with
 | nil => exact List.Pairwise.nil
 | cons x xs ih =>
  simp only [rises, Bool.and_eq_true, decide_eq_true_eq] at h
  exact List.pairwise_cons.2 ⟨fun y hy => (rises_bounds h.2 y hy).1, ih h.2⟩
theorem rises_of {last m : Int} {l : List Int} (hs : Sd l) (hb : ∀ x ∈ l, last < x ∧ x < m) : rises last m l = true := by
 induction l generalizing last with
 | nil => rfl
 | cons x xs ih =>
  rw [Sd, List.pairwise_cons] at hs
  simp only [rises, Bool.and_eq_true, decide_eq_true_eq]
  exact ⟨hb x (by simp), ih hs.2 (fun y hy => ⟨hs.1 y hy, (hb y (List.mem_cons_of_mem _ hy)).2⟩)⟩
theorem rd_get {l : List Int} {i : Nat} (h : i < l.length) : rd l (i : Int) = l[i] := by unfold rd; simp [List.getD_eq_getElem?_getD, h]

theorem isNaN_s (x : Int) : slices_isNaN_int.f x = some false := by unfold slices_isNaN_int.f; simp
theorem isNaN_c (x : Int) : cmp_isNaN_int.f x = some false := by unfold cmp_isNaN_int.f; simp
theorem Less_eq (x y : Int) : cmp_Less_int.f x y = some (decide (x < y)) := by unfold cmp_Less_int.f; rw [isNaN_c, Option.bind_some, if_neg (by simp)]
theorem BS_l0 {l : List Int} {a : Int} (hs : Sd l) (hn : l.length ≤ 100000000) (d : Nat) : ∀ (k i j : Nat), i ≤ j → j ≤ l.length → j - i ≤ d → d < k → (∀ m (hm : m < l.length), m < i → l[m] < a) → (∀ m (hm : m < l.length), j ≤ m → a ≤ l[m]) →
  ∃ q : Nat, slices_BinarySearch_int_int.l0 k l a l.length i j = some ((q : Int), decide (a ∈ l)) ∧ q ≤ l.length ∧ (∀ m (hm : m < l.length), m < q → l[m] < a) ∧ (∀ m (hm : m < l.length), q ≤ m → a ≤ l[m]) := by
 have hp := List.pairwise_iff_getElem.1 hs
 have fin : ∀ (k i : Nat), 0 < k → i ≤ l.length → (∀ m (hm : m < l.length), m < i → l[m] < a) → (∀ m (hm : m < l.length), i ≤ m → a ≤ l[m]) →
   ∃ q : Nat, slices_BinarySearch_int_int.l0 k l a l.length i i = some ((q : Int), decide (a ∈ l)) ∧ q ≤ l.length ∧ (∀ m (hm : m < l.length), m < q → l[m] < a) ∧ (∀ m (hm : m < l.length), q ≤ m → a ≤ l[m]) := by
  intro k i hk hi h1 h2
  obtain ⟨k, rfl⟩ : ∃ m, k = m + 1 := ⟨k - 1, by omega⟩
  refine ⟨i, ?_, hi, h1, h2⟩
  simp only [slices_BinarySearch_int_int.l0]
  rw [if_neg (by omega)]
  by_cases c : i < l.length
  ·rw [if_pos (by omega), if_pos (by omega), if_pos (by omega), rd_get c]
   by_cases e : l[i] = a
   ·rw [if_pos e, decide_eq_true (e ▸ List.getElem_mem c)]
   ·rw [if_neg e, isNaN_s, Option.bind_some, if_neg (by simp), decide_eq_false]
    intro hm
    obtain ⟨m, hm1, hm2⟩ := List.mem_iff_getElem.1 hm
    by_cases c1 : m < i
    ·have := h1 m hm1 c1; omega
    by_cases c2 : m = i
    ·subst c2; exact e hm2
    ·have := hp i m c hm1 (by omega)
     have := h2 i c (Nat.le_refl _)
     omega
  ·rw [if_neg (by omega), decide_eq_false]
   intro hm
   obtain ⟨m, hm1, hm2⟩ := List.mem_iff_getElem.1 hm
   have := h1 m hm1 (by omega)
   omega
 induction d with
 | zero =>
  intro k i j hij hj hd hk h1 h2
  obtain rfl : i = j := by omega
  exact fin k i hk hj h1 h2
 | succ d ih =>
  intro k i j hij hj hd hk h1 h2
  by_cases c : i = j
  ·subst c; exact fin k i (by omega) hj h1 h2
  obtain ⟨k, rfl⟩ : ∃ m, k = m + 1 := ⟨k - 1, by omega⟩
  have hlt : (i + j) / 2 < l.length := by omega
  have e : wrap64 ((IntKind.u64.wrap (wrap64 ((i : Int) + (j : Int)))) / 2) = (((i + j) / 2 : Nat) : Int) := by
   rw [w64 (x := (i : Int) + j) (by omega) (by omega), wrapu_small (by omega) (by omega), w64 (by omega) (by omega)]; omega
  simp only [slices_BinarySearch_int_int.l0]
  rw [if_pos (by omega), e, if_pos (by omega), if_pos (by omega), rd_get hlt, Less_eq, Option.bind_some]
  generalize hh : (i + j) / 2 = h at *
  by_cases c2 : l[h] < a
  ·rw [decide_eq_true c2, if_pos rfl, w64 (x := (h : Int) + 1) (by omega) (by omega)]
   have := ih k (h + 1) j (by omega) hj (by omega) (by omega) (fun m hm hmh => by
    by_cases c3 : m = h
    ·subst c3; exact c2
    ·have := hp m h hm hlt (by omega); omega) h2
   exact this
  ·rw [decide_eq_false c2, if_neg (by simp)]
   exact ih k i h (by omega) (by omega) (by omega) (by omega) h1 (fun m hm hmh => by
    by_cases c3 : m = h
    ·subst c3; omega
    ·have := hp h m hlt hm (by omega); omega)
theorem BS_eq {l : List Int} (a : Int) (hs : Sd l) (hn : l.length ≤ 100000000) {k : Nat} (hk : l.length < k) :
  ∃ q : Nat, slices_BinarySearch_int_int.f k l a = some ((q : Int), decide (a ∈ l)) ∧ q ≤ l.length ∧ (∀ x ∈ l.take q, x < a) ∧ (∀ x ∈ l.drop q, a ≤ x) := by
 unfold slices_BinarySearch_int_int.f
 obtain ⟨q, h1, h2, h3, h4⟩ := BS_l0 (a := a) hs hn l.length k 0 l.length (by omega) (by omega) (by omega) hk (fun m _ h => by omega) (fun m hm h => by omega)
 refine ⟨q, h1, h2, fun x hx => ?_, fun x hx => ?_⟩
 ·obtain ⟨m, hm1, hm2⟩ := List.mem_iff_getElem.1 hx
  rw [List.length_take] at hm1
  rw [← hm2, List.getElem_take]
  exact h3 m (by omega) (by omega)
 ·obtain ⟨m, hm1, hm2⟩ := List.mem_iff_getElem.1 hx
  rw [List.length_drop] at hm1
  rw [← hm2, List.getElem_drop]
  exact h4 (q + m) (by omega) (by omega)
theorem MHas_eq {l : List Int} (a : Int) (hs : Sd l) (hn : l.length ≤ 100000000) {k : Nat} (hk : l.length < k) : model_Has.f k l a = some (decide (a ∈ l)) := by
 obtain ⟨q, h1, _⟩ := BS_eq a hs hn hk
 unfold model_Has.f; rw [h1, Option.bind_some]

theorem With_eq {l : List Int} (a : Int) (hs : Sd l) (hn : l.length ≤ 100000000) {k : Nat} (hk : l.length < k) : model_With.f k l a = some (ins a l) := by
 obtain ⟨q, h1, h2, h3, h4⟩ := BS_eq a hs hn hk
 unfold model_With.f
 rw [h1, Option.bind_some]
 have e : (((q : Nat) : Int)).toNat = q := by omega
 by_cases c : a ∈ l
 ·rw [decide_eq_true c, if_pos rfl, ins_of_mem hs c]
 ·rw [decide_eq_false c, if_neg (by simp), if_pos (by omega), if_pos (by omega), Option.bind_some, e, if_pos (by rw [List.length_take]; omega), Option.bind_some, Option.bind_some, if_pos (by rw [List.length_append, List.length_take, List.length_drop]; simp; omega)]
  congr 1
  have hc : l.take q ++ l.drop q = l := List.take_append_drop ..
  refine sext ?_ (Sd_ins hs) (fun x => ?_)
  ·rw [Sd, List.append_assoc, List.pairwise_append, List.singleton_append, List.pairwise_cons]
   have hs' := hs
   rw [← hc, Sd, List.pairwise_append] at hs'
   refine ⟨hs'.1, ⟨fun y hy => ?_, hs'.2.1⟩, fun x hx y hy => ?_⟩
   ·have := h4 y hy
    have : ¬ y = a := fun e => c (e ▸ List.mem_of_mem_drop hy)
    omega
   ·rcases List.mem_cons.1 hy with rfl | hy
    ·exact h3 x hx
    ·exact hs'.2.2 x hx y hy
  ·rw [mem_ins]
   conv => rhs; rw [← hc]
   simp only [List.mem_append, List.mem_singleton]
   constructor
   ·rintro ((h | h) | h)
    ·exact .inr (.inl h)
    ·exact .inl h
    ·exact .inr (.inr h)
   ·rintro (h | h | h)
    ·exact .inl (.inr h)
    ·exact .inl (.inl h)
    ·exact .inr h
theorem Without_eq {l : List Int} (a : Int) (hs : Sd l) (hn : l.length ≤ 100000000) {k : Nat} (hk : l.length < k) : model_Without.f k l a = some (del a l) := by
 obtain ⟨q, h1, h2, h3, h4⟩ := BS_eq a hs hn hk
 unfold model_Without.f
 rw [h1, Option.bind_some]
 have e : (((q : Nat) : Int)).toNat = q := by omega
 have e1 : (((q : Nat) : Int) + 1).toNat = q + 1 := by omega
 by_cases c : a ∈ l
 ·have hc : l.take q ++ l.drop q = l := List.take_append_drop ..
  have hq : q < l.length := by
   rcases Nat.lt_or_ge q l.length with h | h
   ·exact h
   ·rw [List.take_of_length_le h] at h3
    have := h3 a c
    omega
  have hd : l.drop q = l[q] :: l.drop (q + 1) := List.drop_eq_getElem_cons hq
  have hs' := hs
  rw [← hc, hd, Sd, List.pairwise_append, List.pairwise_cons] at hs'
  have ha : l[q] = a := by
   rw [← hc, hd] at c
   rcases List.mem_append.1 c with h | h
   ·have := h3 a h; omega
   rcases List.mem_cons.1 h with h | h
   ·exact h.symm
   ·have := hs'.2.1.1 a h
    have := h4 l[q] (by rw [hd]; exact List.mem_cons_self ..)
    omega
  rw [decide_eq_true c, if_pos rfl, if_pos (by omega), if_pos (by omega), Option.bind_some, w64 (x := (q : Int) + 1) (by omega) (by omega), if_pos (by omega), if_pos (by omega), Option.bind_some, e, e1, if_pos (by rw [List.length_take, List.length_drop]; omega)]
  congr 1
  rw [ha] at hs'
  refine sext ?_ (Sd_del hs) (fun x => ?_)
  ·rw [Sd, List.pairwise_append]
   exact ⟨hs'.1, hs'.2.1.2, fun x hx y hy => hs'.2.2 x hx y (List.mem_cons_of_mem _ hy)⟩
  ·rw [mem_del]
   conv => rhs; rw [← hc, hd, ha]
   rw [List.mem_append, List.mem_append, List.mem_cons]
   constructor
   ·rintro (h | h)
    ·exact ⟨.inl h, by have := h3 x h; omega⟩
    ·exact ⟨.inr (.inr h), by have := hs'.2.1.1 x h; omega⟩
   ·rintro ⟨h | h | h, g⟩
    ·exact .inl h
    ·exact absurd h g
    ·exact .inr h
 ·rw [decide_eq_false c, if_neg (by simp), del_of_not c]

/-- Is it a set that may be? -/
def mset (n : Int) (H l : List Int) : Bool := rises (-1) n l && l.all (fun x => !decide (x ∈ H))
theorem mset_iff {n : Int} {H l : List Int} : mset n H l = true ↔ Sd l ∧ ∀ x ∈ l, 0 ≤ x ∧ x < n ∧ x ∉ H := by
 unfold mset
 rw [Bool.and_eq_true, List.all_eq_true]
 constructor
 ·rintro ⟨h1, h2⟩
  refine ⟨rises_Sd h1, fun x hx => ?_⟩
  have := rises_bounds h1 x hx
  exact ⟨by omega, this.2, by simpa using h2 x hx⟩
 ·rintro ⟨h1, h2⟩
  refine ⟨rises_of h1 (fun x hx => ?_), fun x hx => by simpa using (h2 x hx).2.2⟩
  have := h2 x hx
  exact ⟨by omega, this.2.1⟩

theorem Addr_eq (B p x : Int) : block_Address.f B p x = some ((B + x) % 4294967296) := by unfold block_Address.f; rfl
theorem modelAddrs_l0 (B p : Int) (H : List Int) (s w q t : Int) {l : List Int} (hl : l.length ≤ 100000000) : ∀ (xs pre acc : List Int) (k : Nat), l = pre ++ xs → acc.length ≤ pre.length → xs.length < k →
  model_Addrs.l0 k acc l (l.length : Int) (pre.length : Int) B p H s w q t = some (acc ++ xs.map (fun x => (B + x) % 4294967296)) := by
 intro xs
 induction xs with
 | nil =>
  intro pre acc k hp ha hk
  obtain ⟨k, rfl⟩ : ∃ m, k = m + 1 := ⟨k - 1, by omega⟩
  simp only [model_Addrs.l0]; rw [if_neg (by rw [hp]; simp)]; simp
 | cons x xs ih =>
  intro pre acc k hp ha hk
  simp only [List.length_cons] at hk
  have hl1 : l.length = pre.length + (xs.length + 1) := by rw [hp]; simp
  obtain ⟨k, rfl⟩ : ∃ m, k = m + 1 := ⟨k - 1, by omega⟩
  have hx : rd l (pre.length : Int) = x := by rw [hp]; exact rd_mid ..
  have h := ih (pre ++ [x]) (acc ++ [(B + x) % 4294967296]) k (by rw [hp]; simp) (by simp; omega) (by omega)
  rw [show ((pre ++ [x]).length : Int) = (pre.length : Int) + 1 by simp] at h
  simp only [model_Addrs.l0]
  rw [if_pos (by omega), if_pos (by omega), if_pos (by omega), hx, Addr_eq, Option.bind_some, if_pos (by omega), w64 (by omega) (by omega), h]
  simp
theorem modelAddrs_eq (B p : Int) (H : List Int) (s w q t : Int) {l : List Int} (hl : l.length ≤ 100000000) {k : Nat} (hk : l.length < k) :
  model_Addrs.f k B p H s w q t l = some (l.map (fun x => (B + x) % 4294967296)) := by
 unfold model_Addrs.f
 have := modelAddrs_l0 B p H s w q t hl l [] [] k rfl (by simp) hk
 simpa using this

theorem ref09May_l0 (B p : Int) (H : List Int) (s w q t : Int) (hH : H.length ≤ maxLen) {l : List Int} (hl : l.length ≤ maxLen) (h1 : 16 ≤ p) (h2 : p ≤ 32) : ∀ (xs pre : List Int) (last : Int) (k : Nat), l = pre ++ xs → (pre = [] ∧ last = -1 ∨ (∃ pr, pre = pr ++ [last]) ∧ 0 ≤ last) → xs.length + H.length + 30 < k →
  lodgerref09_May.l0 k l (pre.length : Int) B p H s w q t = some (rises last (M p) xs && xs.all (fun x => !decide (x ∈ H))) := by
 unfold maxLen at hl
 intro xs
 induction xs with
 | nil =>
  intro pre last k hp hpre hk
  obtain ⟨k, rfl⟩ : ∃ m, k = m + 1 := ⟨k - 1, by omega⟩
  simp only [lodgerref09_May.l0]; rw [if_neg (by rw [hp]; simp)]; rfl
 | cons x xs ih =>
  intro pre last k hp hpre hk
  simp only [List.length_cons] at hk
  obtain ⟨k, rfl⟩ : ∃ m, k = m + 1 := ⟨k - 1, by omega⟩
  have hlt : pre.length < l.length := by rw [hp]; simp
  simp only [lodgerref09_May.l0, rises, List.all_cons]
  have hx : rd l (pre.length : Int) = x := by rw [hp]; exact rd_mid ..
  rw [if_pos (by omega), if_pos (by omega), hx]
  by_cases c1 : x < 0
  ·rw [if_pos c1, decide_eq_false (p := last < x) (by rcases hpre with ⟨_, h⟩ | ⟨_, h⟩ <;> omega)]; rfl
  rw [if_neg c1, ref05Many_eq B h1 h2 (by omega), Option.bind_some]
  by_cases c2 : x ≥ M p
  ·rw [if_pos c2, decide_eq_false (p := x < M p) (by omega)]; simp
  rw [if_neg c2, refHeld_eq B p H s w q t hH x (by omega), Option.bind_some]
  by_cases c3 : x ∈ H
  ·rw [if_pos (by simpa using c3)]; simp [c3]
  have h := ih (pre ++ [x]) x k (by rw [hp]; simp) (.inr ⟨⟨pre, rfl⟩, by omega⟩) (by omega)
  simp only [List.length_append, List.length_cons, List.length_nil, Nat.zero_add, Int.natCast_add, Int.natCast_one] at h
  rw [if_neg (by simpa using c3), decide_eq_true (p := x < M p) (by omega), w64 (x := (pre.length : Int) + 1) (by omega) (by omega), h, decide_eq_false c3]
  rcases hpre with ⟨rfl, rfl⟩ | ⟨⟨pr, rfl⟩, h0⟩
  ·rw [if_neg (by simp), decide_eq_true (p := -1 < x) (by omega)]; simp
  ·have hy : rd l (((pr ++ [last]).length : Int) - 1) = last := by
    rw [hp]; simp [rd]
   have hl1 : (pr ++ [last]).length = pr.length + 1 := by simp
   rw [if_pos (by omega), w64 (by omega) (by omega), if_pos (by omega), if_pos (by omega), hy]
   by_cases c4 : x ≤ last
   ·rw [if_pos c4, decide_eq_false (p := last < x) (by omega)]; simp
   ·rw [if_neg c4, decide_eq_true (p := last < x) (by omega)]; simp
theorem ref09May_eq (B : Int) {p : Int} (H : List Int) (s w q t : Int) (hH : H.length ≤ maxLen) {l : List Int} (hl : l.length ≤ maxLen) (h1 : 16 ≤ p) (h2 : p ≤ 32) {k : Nat} (hk : l.length + H.length + 30 < k) :
  lodgerref09_May.f k B p H s w q t l = some (mset (M p) H l) := by
 unfold lodgerref09_May.f mset
 exact ref09May_l0 B p H s w q t hH hl h1 h2 l [] (-1) k rfl (.inl ⟨rfl, rfl⟩) hk

theorem Ints_l0 : ∀ (xs ys pre qre : List Int) (k : Nat), pre.length = qre.length → xs.length = ys.length → (pre ++ xs).length ≤ 9223372036854775807 → xs.length < k →
  lodgerref03_Ints.l0 k (pre ++ xs) (qre ++ ys) (pre.length : Int) = some (decide (xs = ys)) := by
 intro xs
 induction xs with
 | nil =>
  intro ys pre qre k hp hx hm hk
  obtain ⟨k, rfl⟩ : ∃ m, k = m + 1 := ⟨k - 1, by omega⟩
  have : ys = [] := List.eq_nil_of_length_eq_zero hx.symm
  subst this
  simp only [lodgerref03_Ints.l0]; rw [if_neg (by simp)]; simp
 | cons x xs ih =>
  intro ys pre qre k hp hx hm hk
  cases ys with
  | nil => simp at hx
  | cons y ys =>
   simp only [List.length_cons, List.length_append] at hk hx hm
   obtain ⟨k, rfl⟩ : ∃ m, k = m + 1 := ⟨k - 1, by omega⟩
   simp only [lodgerref03_Ints.l0]
   have e1 : rd (pre ++ x :: xs) (pre.length : Int) = x := by simp [rd]
   have e2 : rd (qre ++ y :: ys) (pre.length : Int) = y := by rw [hp]; simp [rd]
   rw [if_pos (by simp; omega), if_pos (by omega), if_pos (by rw [hp]; simp; omega), e1, e2]
   by_cases e : x = y
   ·subst e
    rw [if_pos rfl, w64 (by omega) (by omega)]
    have := ih ys (pre ++ [x]) (qre ++ [x]) k (by simp [hp]) (by omega) (by simp; omega) (by omega)
    simp only [List.append_assoc, List.singleton_append, List.length_append, List.length_cons, List.length_nil, Nat.zero_add, Int.natCast_add, Int.natCast_one] at this
    rw [this]; simp
   ·rw [if_neg e]; simp [e]
theorem Ints_eq (a b : List Int) (ha : a.length ≤ 100000) {k : Nat} (hk : a.length < k) : lodgerref03_Ints.f k a b = some (decide (a = b)) := by
 unfold lodgerref03_Ints.f
 by_cases h : (a.length : Int) = (b.length : Int)
 ·rw [if_pos h]
  exact Ints_l0 a b [] [] k rfl (by omega) (by simp; omega) hk
 ·rw [if_neg h, decide_eq_false (fun e => h (by rw [e]))]

theorem Equal32_l0 (a b : List Int) (hab : a.length = b.length) (ha : a.length ≤ 100000) : ∀ (xs ys pre qre : List Int) (k : Nat), a = pre ++ xs → b = qre ++ ys → pre.length = qre.length → xs.length < k →
  slices_Equal_uint32_uint32.l0 k a b (a.length : Int) (pre.length : Int) = some (decide (xs = ys)) := by
 intro xs
 induction xs with
 | nil =>
  intro ys pre qre k hp hq hpq hk
  obtain ⟨k, rfl⟩ : ∃ m, k = m + 1 := ⟨k - 1, by omega⟩
  have : ys = [] := by
   have h1 : a.length = pre.length := by rw [hp]; simp
   have h2 : b.length = qre.length + ys.length := by rw [hq]; simp
   exact List.eq_nil_of_length_eq_zero (by omega)
  subst this
  simp only [slices_Equal_uint32_uint32.l0]; rw [if_neg (by rw [hp]; simp)]; simp
 | cons x xs ih =>
  intro ys pre qre k hp hq hpq hk
  have h1 : a.length = pre.length + (xs.length + 1) := by rw [hp]; simp
  have h2 : b.length = qre.length + ys.length := by rw [hq]; simp
  cases ys with
  | nil => simp at h2; omega
  | cons y ys =>
   simp only [List.length_cons] at hk
   obtain ⟨k, rfl⟩ : ∃ m, k = m + 1 := ⟨k - 1, by omega⟩
   have e1 : rd a (pre.length : Int) = x := by rw [hp]; exact rd_mid ..
   have e2 : rd b (pre.length : Int) = y := by rw [hpq, hq]; exact rd_mid ..
   simp only [slices_Equal_uint32_uint32.l0]
   rw [if_pos (by omega), if_pos (by omega), if_pos (by omega), if_pos (by omega), e1, e2]
   by_cases e : x = y
   ·subst e
    rw [if_pos rfl, w64 (by omega) (by omega)]
    have := ih ys (pre ++ [x]) (qre ++ [x]) k (by rw [hp]; simp) (by rw [hq]; simp) (by simp [hpq]) (by omega)
    rw [show ((pre ++ [x]).length : Int) = (pre.length : Int) + 1 by simp] at this
    rw [this]; simp
   ·rw [if_neg e]; simp [e]
theorem Equal32_eq (a b : List Int) (ha : a.length ≤ 100000) {k : Nat} (hk : a.length < k) : slices_Equal_uint32_uint32.f k a b = some (decide (a = b)) := by
 unfold slices_Equal_uint32_uint32.f
 by_cases h : (a.length : Int) = (b.length : Int)
 ·rw [if_pos h]
  exact Equal32_l0 a b (by omega) ha a b [] [] k rfl rfl rfl hk
 ·rw [if_neg h, decide_eq_false (fun e => h (by rw [e]))]

theorem below_zero {last m : Int} {H : List Int} (h : rises last m H = true) (hl : -1 ≤ last) : below H 0 = 0 := below_none (fun x hx => by have := rises_bounds h x hx; omega)

/-- Of a set, and of what is reserved: as many as there are offsets just if each offset is of one of the two. -/
theorem full_below {n : Int} {H l : List Int} (hr : rises (-1) n H = true) (hl : rises (-1) n l = true) (hd : ∀ x ∈ l, x ∉ H) (y : Nat) :
  below l y + below H y ≤ y ∧ (below l y + below H y = y ↔ ∀ z : Nat, z < y → (z : Int) ∈ H ∨ (z : Int) ∈ l) := by
 induction y with
 | zero => rw [show ((0 : Nat) : Int) = 0 from rfl, below_zero hr (by omega), below_zero hl (by omega)]; exact ⟨Nat.le_refl _, ⟨fun _ z hz => absurd hz (by omega), fun _ => rfl⟩⟩
 | succ y ih =>
  obtain ⟨i1, i2⟩ := ih
  have a := below_succ hr (y : Int)
  have b := below_succ hl (y : Int)
  rw [show ((y + 1 : Nat) : Int) = (y : Int) + 1 by omega]
  have hnot : (y : Int) ∈ l → (y : Int) ∉ H := hd _
  constructor
  ·by_cases c1 : (y : Int) ∈ l
   ·rw [if_neg (hnot c1)] at a; rw [if_pos c1] at b; omega
   ·rw [if_neg c1] at b; split at a <;> omega
  ·constructor
   ·intro h z hz
    by_cases c1 : (y : Int) ∈ l
    ·rw [if_neg (hnot c1)] at a; rw [if_pos c1] at b
     by_cases e : z = y
     ·subst e; exact .inr c1
     ·exact i2.1 (by omega) z (by omega)
    ·rw [if_neg c1] at b
     by_cases c2 : (y : Int) ∈ H
     ·rw [if_pos c2] at a
      by_cases e : z = y
      ·subst e; exact .inl c2
      ·exact i2.1 (by omega) z (by omega)
     ·rw [if_neg c2] at a; omega
   ·intro h
    have g := i2.2 (fun z hz => h z (by omega))
    by_cases c1 : (y : Int) ∈ l
    ·rw [if_neg (hnot c1)] at a; rw [if_pos c1] at b; omega
    ·have c2 := (h y (by omega)).resolve_right c1
     rw [if_neg c1] at b; rw [if_pos c2] at a; omega
theorem fullset_iff {n : Nat} {H l : List Int} (hr : rises (-1) (n : Int) H = true) (hl : mset (n : Int) H l = true) : l.length + H.length ≤ n ∧ (l.length + H.length = n ↔ ∀ z : Nat, z < n → (z : Int) ∈ H ∨ (z : Int) ∈ l) := by
 have hm := mset_iff.1 hl
 have hl' := hl
 unfold mset at hl'
 rw [Bool.and_eq_true] at hl'
 have := full_below hr hl'.1 (fun x hx => (hm.2 x hx).2.2) n
 rwa [below_all (fun x hx => (rises_bounds hr x hx).2), below_all (fun x hx => (hm.2 x hx).2.1)] at this

theorem ref09Has_l0 {l : List Int} (hl : l.length ≤ maxLen) (a : Int) : ∀ (xs pre : List Int) (k : Nat), l = pre ++ xs → xs.length < k →
  lodgerref09_Has.l0 k l a (pre.length : Int) = some (decide (a ∈ xs)) := by
 unfold maxLen at hl
 intro xs
 induction xs with
 | nil =>
  intro pre k hp hk
  obtain ⟨k, rfl⟩ : ∃ m, k = m + 1 := ⟨k - 1, by omega⟩
  simp only [lodgerref09_Has.l0]; rw [if_neg (by rw [hp]; simp)]; simp
 | cons x xs ih =>
  intro pre k hp hk
  simp only [List.length_cons] at hk
  obtain ⟨k, rfl⟩ : ∃ m, k = m + 1 := ⟨k - 1, by omega⟩
  have hlt : pre.length < l.length := by rw [hp]; simp
  simp only [lodgerref09_Has.l0]
  have hx : rd l (pre.length : Int) = x := by rw [hp]; exact rd_mid ..
  rw [if_pos (by omega), if_pos (by omega), hx]
  by_cases e : x = a
  ·rw [if_pos e]; simp [e]
  ·rw [if_neg e, w64 (by omega) (by omega)]
   have h1 := ih (pre ++ [x]) k (by rw [hp]; simp) (by omega)
   simp only [List.length_append, List.length_cons, List.length_nil, Nat.zero_add, Int.natCast_add, Int.natCast_one] at h1
   rw [h1]
   have : ¬ a = x := fun h => e h.symm
   simp [this]
theorem ref09Has_eq {l : List Int} (hl : l.length ≤ maxLen) (a : Int) {k : Nat} (hk : l.length < k) : lodgerref09_Has.f k l a = some (decide (a ∈ l)) := by
 unfold lodgerref09_Has.f
 exact ref09Has_l0 hl a l [] k rfl hk

theorem refFull_l0 (B : Int) {p : Int} (H : List Int) (s w q t : Int) (hH : H.length ≤ maxLen) (h1 : 16 ≤ p) (h2 : p ≤ 32) {l : List Int} (hl : l.length ≤ maxLen) {n : Nat} (hM : M p = n) (hn : n ≤ 70000) (d : Nat) : ∀ (k i : Nat), i ≤ n → n - i = d → d + H.length + l.length + 100 < k →
  ∃ b, lodgerref09_Full.l0 k l i B p H s w q t = some b ∧ (b = true ↔ ∀ z : Nat, i ≤ z → z < n → (z : Int) ∈ H ∨ (z : Int) ∈ l) := by
 induction d with
 | zero =>
  intro k i hi hd hk
  obtain ⟨k, rfl⟩ : ∃ m, k = m + 1 := ⟨k - 1, by omega⟩
  refine ⟨true, ?_, fun _ z hz hz2 => absurd hz2 (by omega), fun _ => rfl⟩
  simp only [lodgerref09_Full.l0]; rw [ref05Many_eq B h1 h2 (by omega), Option.bind_some, if_neg (by omega)]
 | succ d ih =>
  intro k i hi hd hk
  obtain ⟨k, rfl⟩ : ∃ m, k = m + 1 := ⟨k - 1, by omega⟩
  obtain ⟨b, g1, g2⟩ := ih k (i + 1) (by omega) (by omega) (by omega)
  rw [show ((i + 1 : Nat) : Int) = (i : Int) + 1 by omega] at g1
  have hup : ((i : Int) ∈ H ∨ (i : Int) ∈ l) → ((∀ z : Nat, i + 1 ≤ z → z < n → (z : Int) ∈ H ∨ (z : Int) ∈ l) ↔ ∀ z : Nat, i ≤ z → z < n → (z : Int) ∈ H ∨ (z : Int) ∈ l) := by
   intro hi2
   constructor
   ·intro h z hz hz2
    by_cases e : z = i
    ·subst e; exact hi2
    ·exact h z (by omega) hz2
   ·intro h z hz hz2; exact h z (by omega) hz2
  simp only [lodgerref09_Full.l0]
  rw [ref05Many_eq B h1 h2 (by omega), Option.bind_some, if_pos (by omega), refHeld_eq B p H s w q t hH _ (by omega), Option.bind_some, w64 (x := (i : Int) + 1) (by omega) (by omega)]
  by_cases c : (i : Int) ∈ H
  ·rw [decide_eq_true c, if_pos rfl]
   exact ⟨b, g1, by rw [g2, hup (.inl c)]⟩
  ·rw [decide_eq_false c, if_neg (by simp), ref09Has_eq hl _ (by omega), Option.bind_some]
   by_cases c2 : (i : Int) ∈ l
   ·rw [decide_eq_true c2, if_pos rfl]
    exact ⟨b, g1, by rw [g2, hup (.inr c2)]⟩
   ·rw [decide_eq_false c2, if_neg (by simp)]
    refine ⟨false, rfl, fun h => absurd h (by simp), fun h => ?_⟩
    rcases h i (Nat.le_refl _) (by omega) with h | h
    ·exact absurd h c
    ·exact absurd h c2
theorem refFull_eq (B : Int) {p : Int} (H : List Int) (s w q t : Int) (hH : H.length ≤ maxLen) (h1 : 16 ≤ p) (h2 : p ≤ 32) (hr : rises (-1) (M p) H = true) {l : List Int} (hl : l.length ≤ maxLen) (hs : mset (M p) H l = true) {k : Nat} (hk : 70000 + H.length + l.length + 100 < k) :
  lodgerref09_Full.f k B p H s w q t l = some (decide ((l.length : Int) = M p - H.length)) := by
 have hb := M_bounds h1 h2
 obtain ⟨n, hn⟩ : ∃ n : Nat, M p = n := ⟨(M p).toNat, by omega⟩
 unfold lodgerref09_Full.f
 obtain ⟨b, g1, g2⟩ := refFull_l0 B H s w q t hH h1 h2 hl hn (by omega) n k 0 (by omega) (by omega) (by omega)
 rw [show ((0 : Nat) : Int) = 0 from rfl] at g1
 rw [g1]
 congr 1
 rw [hn] at hr hs ⊢
 have hf := fullset_iff hr hs
 rw [Bool.eq_iff_iff, g2, decide_eq_true_eq]
 constructor
 ·intro h
  have := hf.2.2 (fun z hz => h z (by omega) hz)
  omega
 ·intro h z _ hz
  exact hf.2.1 (by omega) z hz

theorem ins_cons_lt {a x : Int} {xs : List Int} (h : x < a) : ins a (x :: xs) = x :: ins a xs := by
 unfold ins
 simp only [List.filter_cons, decide_eq_true h, decide_eq_false (show ¬ a < x by omega), if_true, List.cons_append]; simp
theorem ins_cons_gt {a x : Int} {xs : List Int} (hs : Sd (x :: xs)) (h : a < x) : ins a (x :: xs) = a :: x :: xs := by
 have hs' := List.pairwise_cons.1 hs
 refine sext (Sd_ins hs) (List.pairwise_cons.2 ⟨fun y hy => ?_, hs⟩) (fun y => ?_)
 ·rcases List.mem_cons.1 hy with rfl | hy
  ·exact h
  ·have := hs'.1 y hy; omega
 ·rw [mem_ins, List.mem_cons (a := y) (b := a)]
theorem ref09With_l0 {l : List Int} (hl : l.length ≤ 1000000) (a : Int) : ∀ (xs pre acc : List Int) (k : Nat), l = pre ++ xs → Sd xs → acc.length ≤ pre.length + 1 → xs.length * 2 < k →
  lodgerref09_With.l0 k l a acc true (pre.length : Int) = some (acc ++ xs) ∧ (acc.length ≤ pre.length → lodgerref09_With.l0 k l a acc false (pre.length : Int) = some (acc ++ ins a xs)) := by
 intro xs
 induction xs with
 | nil =>
  intro pre acc k hp hs ha hk
  obtain ⟨k, rfl⟩ : ∃ m, k = m + 1 := ⟨k - 1, by omega⟩
  have hl1 : l.length = pre.length := by rw [hp]; simp
  constructor
  ·simp only [lodgerref09_With.l0]; rw [if_neg (by omega), if_pos trivial, List.append_nil]
  ·intro ha2; simp only [lodgerref09_With.l0]; rw [if_neg (by omega), if_neg (by simp), if_pos (by omega)]; simp [ins]
 | cons x xs ih =>
  intro pre acc k hp hs ha hk
  simp only [List.length_cons] at hk
  have hl1 : l.length = pre.length + (xs.length + 1) := by rw [hp]; simp
  obtain ⟨k, rfl⟩ : ∃ m, k = m + 1 + 1 := ⟨k - 2, by omega⟩
  have hx : rd l (pre.length : Int) = x := by rw [hp]; exact rd_mid ..
  have hs' := List.pairwise_cons.1 hs
  have H := fun acc2 (hacc : acc2.length ≤ pre.length + 2) => ih (pre ++ [x]) acc2 k (by rw [hp]; simp) hs'.2 (by simp; omega) (by omega)
  simp only [List.length_append, List.length_cons, List.length_nil, Nat.zero_add, Int.natCast_add, Int.natCast_one] at H
  have h1 := (H (acc ++ [x]) (by rw [List.length_append]; simp; omega)).1
  have h2 := fun (ha2 : acc.length ≤ pre.length) => (H (acc ++ [x]) (by rw [List.length_append]; simp; omega)).2 (by rw [List.length_append]; simp; omega)
  constructor
  ·simp only [lodgerref09_With.l0, lodgerref09_With.j1]
   rw [if_pos (by omega), if_pos trivial, if_neg (by simp), if_pos (by omega), if_pos (by omega), if_pos (by omega), hx, w64 (by omega) (by omega), h1]; simp
  ·intro ha2
   simp only [lodgerref09_With.l0, lodgerref09_With.j1]
   rw [if_pos (by omega), if_neg (by simp), if_pos (by omega), hx]
   by_cases c : x ≥ a
   ·rw [decide_eq_true c, if_pos rfl, if_pos (by omega), if_pos (by omega)]
    by_cases c2 : x > a
    ·have h3 := (H (acc ++ [a] ++ [x]) (by rw [List.length_append, List.length_append]; simp; omega)).1
     rw [if_pos c2, if_pos (by omega), Option.bind_some, if_pos (by rw [List.length_append]; simp; omega), w64 (by omega) (by omega), h3, ins_cons_gt hs c2]; simp
    ·have e : x = a := by omega
     rw [if_neg c2, if_pos (by omega), w64 (by omega) (by omega), h1, ins_of_mem hs (by simp [e])]; simp
   ·rw [decide_eq_false c, if_neg (by simp), if_pos (by omega), if_pos (by omega), if_pos (by omega), w64 (by omega) (by omega), h2 ha2, ins_cons_lt (by omega)]; simp
theorem ref09With_eq {l : List Int} (a : Int) (hs : Sd l) (hl : l.length ≤ 1000000) {k : Nat} (hk : l.length * 2 < k) : lodgerref09_With.f k l a = some (ins a l) := by
 unfold lodgerref09_With.f
 have := (ref09With_l0 hl a l [] [] k rfl hs (by simp) hk).2 (by simp)
 simpa using this
theorem ref09Without_l0 {l : List Int} (hl : l.length ≤ 1000000) (a : Int) : ∀ (xs pre acc : List Int) (k : Nat), l = pre ++ xs → acc.length ≤ pre.length → xs.length < k →
  lodgerref09_Without.l0 k l a acc (pre.length : Int) = some (acc ++ del a xs) := by
 intro xs
 induction xs with
 | nil =>
  intro pre acc k hp ha hk
  obtain ⟨k, rfl⟩ : ∃ m, k = m + 1 := ⟨k - 1, by omega⟩
  have hl1 : l.length = pre.length := by rw [hp]; simp
  simp only [lodgerref09_Without.l0]; rw [if_neg (by omega)]; simp [del]
 | cons x xs ih =>
  intro pre acc k hp ha hk
  simp only [List.length_cons] at hk
  have hl1 : l.length = pre.length + (xs.length + 1) := by rw [hp]; simp
  obtain ⟨k, rfl⟩ : ∃ m, k = m + 1 := ⟨k - 1, by omega⟩
  have hx : rd l (pre.length : Int) = x := by rw [hp]; exact rd_mid ..
  have H := fun acc2 (hacc : acc2.length ≤ pre.length + 1) => ih (pre ++ [x]) acc2 k (by rw [hp]; simp) (by simp; omega) (by omega)
  simp only [List.length_append, List.length_cons, List.length_nil, Nat.zero_add, Int.natCast_add, Int.natCast_one] at H
  simp only [lodgerref09_Without.l0]
  rw [if_pos (by omega), if_pos (by omega), hx]
  by_cases e : x = a
  ·rw [if_pos e, w64 (by omega) (by omega), H acc (by omega)]
   simp [del, List.filter_cons, e]
  ·rw [if_neg e, if_pos (by omega), w64 (by omega) (by omega), H (acc ++ [x]) (by rw [List.length_append]; simp; omega)]
   simp [del, List.filter_cons, e]
theorem ref09Without_eq {l : List Int} (a : Int) (hl : l.length ≤ 1000000) {k : Nat} (hk : l.length < k) : lodgerref09_Without.f k l a = some (del a l) := by
 unfold lodgerref09_Without.f
 have := ref09Without_l0 hl a l [] [] k rfl (by simp) hk
 simpa using this

/-- The least offset, from i on, that is neither reserved nor used. -/
def lst (H S : List Int) : Nat → Int → Option Int
 | 0, _ => none
 | d + 1, i => if i ∈ H then lst H S d (i + 1) else if i ∈ S then lst H S d (i + 1) else some i
/-- What a release leaves, and answers. -/
def relz (S : List Int) (o : Int) : List Int × Int := if o ∈ S then (del o S, 0) else (S, 6)
/-- A batch: release by release. -/
def bat (F : Int → Int) : List Int → List Int → List Int → List Int × List Int
 | [], S, acc => (S, acc)
 | a :: r, S, acc => bat F r (relz S (F a)).1 (acc ++ [(relz S (F a)).2])
/-- Some right answer. -/
def som (B p : Int) (H S : List Int) (K A : Int) (l : List Int) : List Int × Int × Int × Bool × List Int × List Int :=
 if chk B p H K A l = 0 then
  (if K = 1 then (match lst H S (M p).toNat 0 with | some i => (ins i S, 0, (B + i) % 4294967296, false, [], []) | none => (S, 9, 0, false, [], []))
  else if K = 2 then (if (find B p H A).1 ∈ S then (S, 5, 0, false, [], []) else (ins (find B p H A).1 S, 0, A, false, [], []))
  else if K = 3 then ((relz S (find B p H A).1).1, (relz S (find B p H A).1).2, 0, false, [], [])
  else if K = 4 then ((bat (fun x => (find B p H x).1) l S []).1, 0, 0, false, [], (bat (fun x => (find B p H x).1) l S []).2)
  else if K = 5 then (S, 0, 0, decide ((find B p H A).1 ∈ S), [], [])
  else if K = 6 then (S, 0, 0, false, S.map (fun x => (B + x) % 4294967296), [])
  else (S, 0, 0, false, [], []))
 else (S, chk B p H K A l, 0, false, [], [])
theorem relz_Sd {S : List Int} (o : Int) (h : Sd S) : Sd (relz S o).1 := by
 unfold relz
 split
 ·exact Sd_del h
 ·exact h
theorem relz_len (S : List Int) (o : Int) : (relz S o).1.length ≤ S.length := by
 unfold relz
 split
 ·exact del_len_le ..
 ·exact Nat.le_refl _
theorem bat_len (F : Int → Int) : ∀ (xs S acc : List Int), (bat F xs S acc).1.length ≤ S.length ∧ (bat F xs S acc).2.length = acc.length + xs.length
 | [], S, acc => ⟨Nat.le_refl _, rfl⟩
 | a :: r, S, acc => by
  have h := bat_len F r (relz S (F a)).1 (acc ++ [(relz S (F a)).2])
  have := relz_len S (F a)
  simp only [bat, List.length_append, List.length_cons, List.length_nil] at h ⊢
  omega
theorem som_lens (B p : Int) (H S : List Int) (K A : Int) (l : List Int) : (som B p H S K A l).2.2.2.2.1.length ≤ S.length ∧ (som B p H S K A l).2.2.2.2.2.length ≤ l.length := by
 unfold som
 by_cases c : chk B p H K A l = 0
 ·rw [if_pos c]
  by_cases k1 : K = 1
  ·rw [if_pos k1]
   cases lst H S (M p).toNat 0 <;> simp
  rw [if_neg k1]
  by_cases k2 : K = 2
  ·rw [if_pos k2]; split <;> simp
  rw [if_neg k2]
  by_cases k3 : K = 3
  ·rw [if_pos k3]; simp
  rw [if_neg k3]
  by_cases k4 : K = 4
  ·rw [if_pos k4]
   have := bat_len (fun x => (find B p H x).1) l S []
   simp only [List.length_nil, Nat.zero_add] at this
   simp [this.2]
  rw [if_neg k4]
  by_cases k5 : K = 5
  ·rw [if_pos k5]; simp
  rw [if_neg k5]
  by_cases k6 : K = 6
  ·rw [if_pos k6]; simp
  rw [if_neg k6]; simp
 ·rw [if_neg c]; simp

theorem Fail_eq (e : Int) : spec_fail.f e = some (e, 0, false, [], []) := rfl
theorem Offs_eq {B p : Int} (H : List Int) (s w q t : Int) (hH : H.length ≤ maxLen) (hB0 : 0 ≤ B) (hB1 : B ≤ 4294967295) (h1 : 16 ≤ p) (h2 : p ≤ 32) {a : Int} (ha : 0 ≤ a ∧ a ≤ 4294967295) {k : Nat} (hk : H.length < k) : spec_offset.f k B p H s w q t a = some (find B p H a).1 := by
 unfold spec_offset.f
 rw [Find_eq H s w q t hH hB0 hB1 h1 h2 ha.1 ha.2 hk, Option.bind_some]
theorem least_l0 {B p : Int} (H : List Int) (s w q t : Int) (hH : H.length ≤ maxLen) (h1 : 16 ≤ p) (h2 : p ≤ 32) {S : List Int} (hs : Sd S) (hn : S.length ≤ 1000000) (d : Nat) : ∀ (k : Nat) (i : Int), 0 ≤ i → i ≤ M p → M p - i = d → d * 2 + H.length + S.length + 10 < k →
  spec_least.l0 k S (M p) i B p H s w q t = some (match lst H S d i with | some i => (ins i S, 0, (B + i) % 4294967296, false, [], []) | none => (S, 9, 0, false, [], [])) := by
 have hM := M_bounds h1 h2
 induction d with
 | zero =>
  intro k i hi0 hi1 hd hk
  obtain ⟨k, rfl⟩ : ∃ m, k = m + 1 := ⟨k - 1, by omega⟩
  simp only [spec_least.l0]
  rw [if_neg (by omega), Fail_eq, Option.bind_some]
  rfl
 | succ d ih =>
  intro k i hi0 hi1 hd hk
  obtain ⟨k, rfl⟩ : ∃ m, k = m + 2 := ⟨k - 2, by omega⟩
  have h := ih k (i + 1) (by omega) (by omega) (by omega) (by omega)
  simp only [spec_least.l0]
  rw [if_pos (by omega), Held_eq B p H s w q t hH _ (by omega), Option.bind_some]
  by_cases c : i ∈ H
  ·rw [decide_eq_true c, if_pos rfl]
   simp only [spec_least.j1]
   rw [if_neg (by simp), w64 (by omega) (by omega), h]
   simp only [lst, if_pos c]
  ·rw [decide_eq_false c, if_neg (by simp), MHas_eq i hs (by omega) (by omega), Option.bind_some]
   simp only [spec_least.j1]
   by_cases e : i ∈ S
   ·rw [decide_eq_true e, if_neg (by simp), w64 (by omega) (by omega), h]
    simp only [lst, if_neg c, if_pos e]
   ·rw [decide_eq_false e, if_pos (by simp), With_eq i hs (by omega) (by omega), Option.bind_some, Addr_eq, Option.bind_some]
    simp only [lst, if_neg c, if_neg e]
theorem release_eq {B p : Int} (H : List Int) (s w q t : Int) (hH : H.length ≤ maxLen) (hB0 : 0 ≤ B) (hB1 : B ≤ 4294967295) (h1 : 16 ≤ p) (h2 : p ≤ 32) {S : List Int} (hs : Sd S) (hn : S.length ≤ 1000000) (K : Int) {a : Int} (l : List Int) (ha : 0 ≤ a ∧ a ≤ 4294967295) {k : Nat} (hk : H.length + S.length < k) :
  spec_release.f k B p H s w q t S K a l = some ((relz S (find B p H a).1).1, (relz S (find B p H a).1).2, 0, false, [], []) := by
 unfold spec_release.f relz
 rw [Offs_eq H s w q t hH hB0 hB1 h1 h2 ha (by omega), Option.bind_some, MHas_eq _ hs (by omega) (by omega), Option.bind_some]
 by_cases c : (find B p H a).1 ∈ S
 ·rw [decide_eq_true c, if_pos rfl, if_pos c, Without_eq _ hs (by omega) (by omega), Option.bind_some]
 ·rw [decide_eq_false c, if_neg (by simp), if_neg c, Fail_eq, Option.bind_some]
theorem batch_l0 {B p : Int} (H : List Int) (s w q t : Int) (hH : H.length ≤ maxLen) (hB0 : 0 ≤ B) (hB1 : B ≤ 4294967295) (h1 : 16 ≤ p) (h2 : p ≤ 32) {l : List Int} (hl : l.length ≤ 1000000) (hw : ∀ x ∈ l, 0 ≤ x ∧ x ≤ 4294967295) : ∀ (xs pre S acc : List Int) (k : Nat), l = pre ++ xs → Sd S → S.length ≤ 1000000 → acc.length ≤ pre.length → xs.length + H.length + S.length + 1 < k →
  spec_batch.l0 k S l (l.length : Int) (pre.length : Int) B p H s w q t 0 0 false acc = some ((bat (fun x => (find B p H x).1) xs S acc).1, 0, 0, false, [], (bat (fun x => (find B p H x).1) xs S acc).2) := by
 intro xs
 induction xs with
 | nil =>
  intro pre S acc k hp hs hn ha hk
  obtain ⟨k, rfl⟩ : ∃ m, k = m + 1 := ⟨k - 1, by omega⟩
  simp only [spec_batch.l0]; rw [if_neg (by rw [hp]; simp)]; rfl
 | cons x xs ih =>
  intro pre S acc k hp hs hn ha hk
  simp only [List.length_cons] at hk
  have hl1 : l.length = pre.length + (xs.length + 1) := by rw [hp]; simp
  obtain ⟨k, rfl⟩ : ∃ m, k = m + 1 := ⟨k - 1, by omega⟩
  have hx : rd l (pre.length : Int) = x := by rw [hp]; exact rd_mid ..
  have hxw := hw x (by rw [hp]; simp)
  have hr := relz_len S (find B p H x).1
  have h := ih (pre ++ [x]) (relz S (find B p H x).1).1 (acc ++ [(relz S (find B p H x).1).2]) k (by rw [hp]; simp) (relz_Sd _ hs) (by omega) (by simp; omega) (by omega)
  rw [show ((pre ++ [x]).length : Int) = (pre.length : Int) + 1 by simp] at h
  simp only [spec_batch.l0]
  rw [if_pos (by omega), if_pos (by omega), if_pos (by omega), hx, release_eq H s w q t hH hB0 hB1 h1 h2 hs hn 0 [] hxw (by omega), Option.bind_some, if_pos (by omega), w64 (by omega) (by omega)]
  exact h
theorem Some_eq {B p : Int} (H : List Int) (s w q t : Int) (hH : H.length ≤ maxLen) (hB0 : 0 ≤ B) (hB1 : B ≤ 4294967295) (h1 : 16 ≤ p) (h2 : p ≤ 32) {S : List Int} (hs : Sd S) (hn : S.length ≤ 1000000) {K A : Int} {l : List Int} (hl : l.length ≤ 1000000) (hA : 0 ≤ A ∧ A ≤ 4294967295) (hw : ∀ x ∈ l, 0 ≤ x ∧ x ≤ 4294967295) {k : Nat} (hk : l.length + H.length + S.length + 200000 < k) :
  spec_Some.f k B p H s w q t S K A l = some (som B p H S K A l) := by
 have hM := M_bounds h1 h2
 unfold spec_Some.f som
 rw [Check_eq H s w q t hH hB0 hB1 h1 h2 hl hA hw (by omega), Option.bind_some]
 by_cases c : chk B p H K A l = 0
 ·rw [if_pos c, if_pos c]
  have hK : 1 ≤ K ∧ K ≤ 7 := by
   unfold chk at c
   by_cases d : K < 1 ∨ K > 7
   ·rw [if_pos d] at c; omega
   ·omega
  by_cases k1 : K = 1
  ·rw [if_pos k1, if_pos k1]
   unfold spec_least.f
   have h := least_l0 (B := B) H s w q t hH h1 h2 hs hn (M p).toNat k 0 (by omega) (by omega) (by omega) (by omega)
   rw [Many_eq B h1 h2, Option.bind_some, h, Option.bind_some]
  rw [if_neg k1, if_neg k1]
  by_cases k2 : K = 2
  ·rw [if_pos k2, if_pos k2]
   unfold spec_exact.f
   rw [Offs_eq H s w q t hH hB0 hB1 h1 h2 hA (by omega), Option.bind_some, MHas_eq _ hs (by omega) (by omega), Option.bind_some]
   by_cases e : (find B p H A).1 ∈ S
   ·rw [decide_eq_true e, if_pos rfl, if_pos e, Fail_eq, Option.bind_some, Option.bind_some]
   ·rw [decide_eq_false e, if_neg (by simp), if_neg e, With_eq _ hs (by omega) (by omega), Option.bind_some, Option.bind_some]
  rw [if_neg k2, if_neg k2]
  by_cases k3 : K = 3
  ·rw [if_pos k3, if_pos k3, release_eq H s w q t hH hB0 hB1 h1 h2 hs hn _ _ hA (by omega), Option.bind_some]
  rw [if_neg k3, if_neg k3]
  by_cases k4 : K = 4
  ·rw [if_pos k4, if_pos k4]
   unfold spec_batch.f
   have h := batch_l0 H s w q t hH hB0 hB1 h1 h2 hl hw l [] S [] k rfl hs hn (by simp) (by omega)
   rw [show (([] : List Int).length : Int) = 0 from rfl] at h
   rw [h, Option.bind_some]
  rw [if_neg k4, if_neg k4]
  by_cases k5 : K = 5
  ·rw [if_pos k5, if_pos k5]
   unfold spec_query.f
   rw [Offs_eq H s w q t hH hB0 hB1 h1 h2 hA (by omega), Option.bind_some, MHas_eq _ hs (by omega) (by omega), Option.bind_some, Option.bind_some]
  rw [if_neg k5, if_neg k5]
  by_cases k6 : K = 6
  ·rw [if_pos k6, if_pos k6]
   unfold spec_snapshot.f
   rw [modelAddrs_eq B p H s w q t (by omega) (by omega), Option.bind_some, Option.bind_some]
  rw [if_neg k6, if_neg k6, if_pos (by omega)]
  unfold spec_closing.f
  rw [Option.bind_some]
 ·rw [if_neg c, if_neg c, Fail_eq, Option.bind_some]

theorem EqualE_l0 (a b : List Int) (hab : a.length = b.length) (ha : a.length ≤ 100000) : ∀ (xs ys pre qre : List Int) (k : Nat), a = pre ++ xs → b = qre ++ ys → pre.length = qre.length → xs.length < k →
  api_Errno.l0 k a b (a.length : Int) (pre.length : Int) = some (decide (xs = ys)) := by
 intro xs
 induction xs with
 | nil =>
  intro ys pre qre k hp hq hpq hk
  obtain ⟨k, rfl⟩ : ∃ m, k = m + 1 := ⟨k - 1, by omega⟩
  have : ys = [] := by
   have h1 : a.length = pre.length := by rw [hp]; simp
   have h2 : b.length = qre.length + ys.length := by rw [hq]; simp
   exact List.eq_nil_of_length_eq_zero (by omega)
  subst this
  simp only [api_Errno.l0]; rw [if_neg (by rw [hp]; simp)]; simp
 | cons x xs ih =>
  intro ys pre qre k hp hq hpq hk
  have h1 : a.length = pre.length + (xs.length + 1) := by rw [hp]; simp
  have h2 : b.length = qre.length + ys.length := by rw [hq]; simp
  cases ys with
  | nil => simp at h2; omega
  | cons y ys =>
   simp only [List.length_cons] at hk
   obtain ⟨k, rfl⟩ : ∃ m, k = m + 1 := ⟨k - 1, by omega⟩
   have e1 : rd a (pre.length : Int) = x := by rw [hp]; exact rd_mid ..
   have e2 : rd b (pre.length : Int) = y := by rw [hpq, hq]; exact rd_mid ..
   simp only [api_Errno.l0]
   rw [if_pos (by omega), if_pos (by omega), if_pos (by omega), if_pos (by omega), e1, e2]
   by_cases e : x = y
   ·subst e
    rw [if_pos rfl, w64 (by omega) (by omega)]
    have := ih ys (pre ++ [x]) (qre ++ [x]) k (by rw [hp]; simp) (by rw [hq]; simp) (by simp [hpq]) (by omega)
    rw [show ((pre ++ [x]).length : Int) = (pre.length : Int) + 1 by simp] at this
    rw [this]; simp
   ·rw [if_neg e]; simp [e]
theorem EqualE_eq (a b : List Int) (ha : a.length ≤ 100000) {k : Nat} (hk : a.length < k) : api_Errno.f k a b = some (decide (a = b)) := by
 unfold api_Errno.f
 by_cases h : (a.length : Int) = (b.length : Int)
 ·rw [if_pos h]
  exact EqualE_l0 a b (by omega) ha a b [] [] k rfl rfl rfl hk
 ·rw [if_neg h, decide_eq_false (fun e => h (by rw [e]))]
theorem SameA_eq (e a : Int) (u : Bool) (l m : List Int) (y : Int × Int × Bool × List Int × List Int) (hl : l.length ≤ 100000) (hm : m.length ≤ 100000) {k : Nat} (hk : l.length + m.length < k) :
  spec_Same.f k e a u l m y.1 y.2.1 y.2.2.1 y.2.2.2.1 y.2.2.2.2 = some (decide ((e, a, u, l, m) = y)) := by
 obtain ⟨e', a', u', l', m'⟩ := y
 unfold spec_Same.f
 by_cases c1 : e = e'
 ·rw [if_pos c1]
  by_cases c2 : a = a'
  ·rw [if_pos c2]
   by_cases c3 : u = u'
   ·rw [if_pos (by simp [c3]), Equal32_eq l l' hl (by omega), Option.bind_some]
    by_cases c4 : l = l'
    ·rw [if_pos (by simp [c4]), EqualE_eq m m' hm (by omega), Option.bind_some]
     simp [c1, c2, c3, c4]
    ·rw [if_neg (by simp [c4])]; simp [c4]
   ·rw [if_neg (by simp [c3])]; simp [c3]
  ·rw [if_neg c2]; simp [c2]
 ·rw [if_neg c1]; simp [c1]

/-- Whether an answer is right, and what then is used. -/
def leg (B p : Int) (H S : List Int) (K A : Int) (l : List Int) (x : Int × Int × Bool × List Int × List Int) : List Int × Bool :=
 if x = (10, 0, false, [], []) ∨ x = (12, 0, false, [], []) then (S, true)
 else if x = (som B p H S K A l).2 then ((som B p H S K A l).1, true)
 else if chk B p H K A l = 0 then
  (if K = 6 ∧ x = (11, 0, false, [], []) then (S, true)
  else if K = 1 ∧ x = (0, x.2.1, false, [], []) then
   (if (find B p H x.2.1).2 = 0 then (if (find B p H x.2.1).1 ∈ S then (S, false) else (ins (find B p H x.2.1).1 S, true)) else (S, false))
  else (S, false))
 else (S, false)
theorem Legal_eq {B p : Int} (H : List Int) (s w q t : Int) (hH : H.length ≤ maxLen) (hB0 : 0 ≤ B) (hB1 : B ≤ 4294967295) (h1 : 16 ≤ p) (h2 : p ≤ 32) {S : List Int} (hs : Sd S) (hn : S.length ≤ 1000000) {K A : Int} {l : List Int} (hl : l.length ≤ 1000000) (hA : 0 ≤ A ∧ A ≤ 4294967295) (hw : ∀ x ∈ l, 0 ≤ x ∧ x ≤ 4294967295)
  (e a : Int) (u : Bool) (m n : List Int) (ha : 0 ≤ a ∧ a ≤ 4294967295) (hm : m.length ≤ 100000) (hn2 : n.length ≤ 100000) {k : Nat} (hk : l.length + H.length + S.length + 500000 < k) :
  spec_Legal.f k B p H s w q t S K A l e a u m n = some (leg B p H S K A l (e, a, u, m, n)) := by
 obtain ⟨k, rfl⟩ : ∃ z, k = z + 3 := ⟨k - 3, by omega⟩
 have hj0 : spec_Legal.j0 (k + 3) S true B p H s w q t K A l e a u m n = some (S, true) := by simp only [spec_Legal.j0, ↓reduceIte]
 unfold spec_Legal.f leg
 have sm : ∀ y : Int × Int × Bool × List Int × List Int, ∀ k', 300000 < k' → spec_Same.f k' e a u m n y.1 y.2.1 y.2.2.1 y.2.2.2.1 y.2.2.2.2 = some (decide ((e, a, u, m, n) = y)) := fun y k' hk' => SameA_eq e a u m n y hm hn2 (by omega)
 rw [Fail_eq, Option.bind_some, sm (10, 0, false, [], []) (k + 3) (by omega), Option.bind_some]
 by_cases c10 : (e, a, u, m, n) = (10, 0, false, [], [])
 ·rw [decide_eq_true c10, if_pos rfl, if_pos (.inl c10), hj0]
 rw [decide_eq_false c10, if_neg (by simp), Fail_eq, Option.bind_some, sm (12, 0, false, [], []) (k + 3) (by omega), Option.bind_some]
 by_cases c12 : (e, a, u, m, n) = (12, 0, false, [], [])
 ·rw [decide_eq_true c12, if_pos (.inr c12), hj0]
 rw [decide_eq_false c12, if_neg (fun h => h.elim c10 c12)]
 simp only [spec_Legal.j0]
 rw [if_neg (by simp), Some_eq H s w q t hH hB0 hB1 h1 h2 hs hn hl hA hw (by omega), Option.bind_some, sm (som B p H S K A l).2 (k + 2) (by omega), Option.bind_some]
 by_cases cs : (e, a, u, m, n) = (som B p H S K A l).2
 ·rw [decide_eq_true cs, if_pos rfl, if_pos cs]
 rw [decide_eq_false cs, if_neg (by simp), if_neg cs, Check_eq H s w q t hH hB0 hB1 h1 h2 hl hA hw (by omega), Option.bind_some]
 by_cases cc : chk B p H K A l = 0
 ·rw [if_pos cc, if_pos cc]
  have hj2 : ∀ b, spec_Legal.j2 (k + 1) S b B p H s w q t e a u m n = some (if b = true then (if (find B p H a).2 = 0 then (if (find B p H a).1 ∈ S then (S, false) else (ins (find B p H a).1 S, true)) else (S, false)) else (S, false)) := by
   intro b
   simp only [spec_Legal.j2]
   cases b with
   | false => rw [if_neg (by simp), if_neg (by simp)]
   | true =>
    rw [if_pos rfl, if_pos rfl, Find_eq H s w q t hH hB0 hB1 h1 h2 ha.1 ha.2 (by omega), Option.bind_some]
    by_cases f0 : (find B p H a).2 = 0
    ·rw [if_pos f0, if_pos f0, MHas_eq _ hs (by omega) (by omega), Option.bind_some]
     by_cases fs : (find B p H a).1 ∈ S
     ·rw [decide_eq_true fs, if_pos rfl, if_pos fs]
     ·rw [decide_eq_false fs, if_neg (by simp), if_neg fs, With_eq _ hs (by omega) (by omega), Option.bind_some]
    ·rw [if_neg f0, if_neg f0]
  have hj1 : ∀ b, spec_Legal.j1 (k + 2) S b B p H s w q t K A l e a u m n = some (if b = true then (S, true) else if K = 1 ∧ (e, a, u, m, n) = (0, a, false, [], []) then (if (find B p H a).2 = 0 then (if (find B p H a).1 ∈ S then (S, false) else (ins (find B p H a).1 S, true)) else (S, false)) else (S, false)) := by
   intro b
   simp only [spec_Legal.j1]
   cases b with
   | true => rw [if_pos rfl, if_pos rfl]
   | false =>
    rw [if_neg (show ¬ ((false : Bool) = true) by simp), if_neg (show ¬ ((false : Bool) = true) by simp)]
    by_cases k1 : K = 1
    ·rw [if_pos k1, sm (0, a, false, [], []) (k + 1) (by omega), Option.bind_some, hj2]
     by_cases c0 : (e, a, u, m, n) = (0, a, false, [], [])
     ·rw [decide_eq_true c0, if_pos rfl, if_pos (show K = 1 ∧ (e, a, u, m, n) = (0, a, false, [], []) from ⟨k1, c0⟩)]
     ·rw [decide_eq_false c0, if_neg (show ¬ ((false : Bool) = true) by simp), if_neg (show ¬ (K = 1 ∧ (e, a, u, m, n) = (0, a, false, [], [])) from fun h => c0 h.2)]
    ·rw [if_neg k1, hj2, if_neg (show ¬ ((false : Bool) = true) by simp), if_neg (show ¬ (K = 1 ∧ (e, a, u, m, n) = (0, a, false, [], [])) from fun h => k1 h.1)]
  by_cases k6 : K = 6
  ·rw [if_pos k6, Fail_eq, Option.bind_some, sm (11, 0, false, [], []) (k + 2) (by omega), Option.bind_some, hj1]
   by_cases c0 : (e, a, u, m, n) = (11, 0, false, [], [])
   ·rw [decide_eq_true c0, if_pos rfl, if_pos ⟨k6, c0⟩]
   ·rw [decide_eq_false c0, if_neg (by simp), if_neg (show ¬ (K = 6 ∧ (e, a, u, m, n) = (11, 0, false, [], [])) from fun h => c0 h.2)]
  ·rw [if_neg k6, hj1, if_neg (by simp), if_neg (show ¬ (K = 6 ∧ (e, a, u, m, n) = (11, 0, false, [], [])) from fun h => k6 h.1)]
 ·rw [if_neg cc, if_neg cc]

theorem lst_some {H S : List Int} : ∀ {d : Nat} {i j : Int}, lst H S d i = some j → i ≤ j ∧ j < i + d ∧ j ∉ H ∧ j ∉ S ∧ ∀ y, i ≤ y → y < j → y ∈ H ∨ y ∈ S
 | 0, i, j, h => by simp [lst] at h
 | d + 1, i, j, h => by
  simp only [lst] at h
  by_cases c : i ∈ H
  ·rw [if_pos c] at h
   obtain ⟨a1, a2, a3, a4, a5⟩ := lst_some h
   refine ⟨by omega, by omega, a3, a4, fun y h1 h2 => ?_⟩
   by_cases e : y = i
   ·subst e; exact .inl c
   ·exact a5 y (by omega) h2
  ·rw [if_neg c] at h
   by_cases c2 : i ∈ S
   ·rw [if_pos c2] at h
    obtain ⟨a1, a2, a3, a4, a5⟩ := lst_some h
    refine ⟨by omega, by omega, a3, a4, fun y h1 h2 => ?_⟩
    by_cases e : y = i
    ·subst e; exact .inr c2
    ·exact a5 y (by omega) h2
   ·rw [if_neg c2] at h
    injection h with h
    subst h
    exact ⟨by omega, by omega, c, c2, fun y h1 h2 => by omega⟩
theorem lst_none {H S : List Int} : ∀ {d : Nat} {i : Int}, lst H S d i = none → ∀ y, i ≤ y → y < i + d → y ∈ H ∨ y ∈ S
 | 0, i, _ => fun y h1 h2 => by omega
 | d + 1, i, h => by
  simp only [lst] at h
  intro y h1 h2
  by_cases c : i ∈ H
  ·rw [if_pos c] at h
   by_cases e : y = i
   ·subst e; exact .inl c
   ·exact lst_none h y (by omega) (by omega)
  ·rw [if_neg c] at h
   by_cases c2 : i ∈ S
   ·rw [if_pos c2] at h
    by_cases e : y = i
    ·subst e; exact .inr c2
    ·exact lst_none h y (by omega) (by omega)
   ·rw [if_neg c2] at h; cases h
theorem find_ok {B p : Int} {H : List Int} {a : Int} (h : (find B p H a).2 = 0) : (find B p H a).1 = a - B ∧ B ≤ a ∧ a < B + M p ∧ a - B ∉ H := by
 unfold find at h ⊢
 by_cases c : B ≤ a ∧ a < B + M p
 ·rw [if_pos c] at h ⊢
  by_cases d : a - B ∈ H
  ·rw [if_pos d] at h; simp at h
  ·rw [if_neg d]; exact ⟨rfl, c.1, c.2, d⟩
 ·rw [if_neg c] at h; simp at h
theorem chk_one0 {B p : Int} {H : List Int} {K A : Int} {l : List Int} (hK : K = 2 ∨ K = 3 ∨ K = 5) (h : chk B p H K A l = 0) : (find B p H A).2 = 0 := by
 unfold chk at h
 rw [if_neg (by omega), if_neg (by omega), if_neg (by omega)] at h
 unfold names at h
 rw [if_neg (by omega), if_pos hK] at h
 simp only [scan] at h
 by_cases c : (find B p H A).2 = 0
 ·exact c
 ·rw [if_neg c] at h; exact h
theorem mset_ins {n : Int} {H S : List Int} {o : Int} (hS : mset n H S = true) (h0 : 0 ≤ o) (h1 : o < n) (h2 : o ∉ H) : mset n H (ins o S) = true := by
 have hm := mset_iff.1 hS
 refine mset_iff.2 ⟨Sd_ins hm.1, fun x hx => ?_⟩
 rcases mem_ins.1 hx with rfl | hx
 ·exact ⟨h0, h1, h2⟩
 ·exact hm.2 x hx
theorem mset_sub {n : Int} {H S T : List Int} (hS : mset n H S = true) (hT : Sd T) (h : ∀ x ∈ T, x ∈ S) : mset n H T = true :=
 mset_iff.2 ⟨hT, fun x hx => (mset_iff.1 hS).2 x (h x hx)⟩
theorem relz_sub {S : List Int} {o : Int} : ∀ x ∈ (relz S o).1, x ∈ S := by
 unfold relz
 intro x hx
 by_cases c : o ∈ S
 ·rw [if_pos c] at hx; exact (mem_del.1 hx).1
 ·rw [if_neg c] at hx; exact hx
theorem bat_sub (F : Int → Int) : ∀ (xs S acc : List Int), Sd S → Sd (bat F xs S acc).1 ∧ ∀ x ∈ (bat F xs S acc).1, x ∈ S
 | [], S, acc, h => ⟨h, fun x hx => hx⟩
 | a :: r, S, acc, h => by
  obtain ⟨h1, h2⟩ := bat_sub F r (relz S (F a)).1 (acc ++ [(relz S (F a)).2]) (relz_Sd _ h)
  exact ⟨h1, fun x hx => relz_sub x (h2 x hx)⟩
/-- What an answer that is right tells of the set then. -/
structure Right (B p : Int) (H S : List Int) (K A : Int) (T : List Int) (e a : Int) (u : Bool) : Prop where
 keep : e ≠ 0 → T = S
 may : mset (M p) H T = true
 len : T.length ≤ S.length + 1
 more : ∀ y ∈ T, y ∉ S → (K = 1 ∨ K = 2) ∧ a = (B + y) % 4294967296
 one : K = 1 → e = 0 → ∃ o, o ∉ S ∧ T = ins o S
 asks : K = 5 → e = 0 → B ≤ A ∧ u = decide (A - B ∈ S)
theorem Right.same {B p : Int} {H S : List Int} {K A e a : Int} {u : Bool} (hS : mset (M p) H S = true) (h1 : K = 1 → e ≠ 0) (h5 : K = 5 → e = 0 → B ≤ A ∧ u = decide (A - B ∈ S)) : Right B p H S K A S e a u :=
 ⟨fun _ => rfl, hS, by omega, fun y hy hn => absurd hy hn, fun h0 h => absurd h (h1 h0), h5⟩
theorem som_right {B p : Int} {H S : List Int} (h1 : 16 ≤ p) (h2 : p ≤ 32) (hS : mset (M p) H S = true) {K A : Int} (hA : 0 ≤ A ∧ A ≤ 4294967295) (l : List Int) :
  Right B p H S K A (som B p H S K A l).1 (som B p H S K A l).2.1 (som B p H S K A l).2.2.1 (som B p H S K A l).2.2.2.1 := by
 have hb := M_bounds h1 h2
 have hm := mset_iff.1 hS
 unfold som
 by_cases c : chk B p H K A l = 0
 ·rw [if_pos c]
  by_cases k1 : K = 1
  ·rw [if_pos k1]
   cases h : lst H S (M p).toNat 0 with
   | none => exact Right.same hS (fun _ => by simp) (fun h5 => by omega)
   | some i =>
    obtain ⟨a1, a2, a3, a4, _⟩ := lst_some h
    refine ⟨fun h => absurd rfl h, mset_ins hS a1 (by omega) a3, by have := ins_len a4; simp only; omega, fun y hy hn => ?_, fun _ _ => ⟨i, a4, rfl⟩, fun h5 => by omega⟩
    rcases mem_ins.1 hy with rfl | hy
    ·exact ⟨.inl k1, rfl⟩
    ·exact absurd hy hn
  rw [if_neg k1]
  by_cases k2 : K = 2
  ·rw [if_pos k2]
   obtain ⟨f1, f2, f3, f4⟩ := find_ok (chk_one0 (by omega) c)
   by_cases d : (find B p H A).1 ∈ S
   ·rw [if_pos d]; exact Right.same hS (fun h => absurd h k1) (fun h5 => by omega)
   ·rw [if_neg d]
    refine ⟨fun h => absurd rfl h, mset_ins hS (by omega) (by omega) (by rw [f1]; exact f4), by have := ins_len d; simp only; omega, fun y hy hn => ?_, fun h => absurd h k1, fun h5 => by omega⟩
    rcases mem_ins.1 hy with rfl | hy
    ·refine ⟨.inr k2, ?_⟩
     rw [f1]
     show A = (B + (A - B)) % 4294967296
     omega
    ·exact absurd hy hn
  rw [if_neg k2]
  by_cases k3 : K = 3
  ·rw [if_pos k3]
   refine ⟨fun h => ?_, mset_sub hS (relz_Sd _ hm.1) relz_sub, by have := relz_len S (find B p H A).1; simp only; omega, fun y hy hn => absurd (relz_sub y hy) hn, fun h => absurd h k1, fun h5 => by omega⟩
   simp only at h ⊢
   unfold relz at h ⊢
   by_cases d : (find B p H A).1 ∈ S
   ·rw [if_pos d] at h; exact absurd rfl h
   ·rw [if_neg d]
  rw [if_neg k3]
  by_cases k4 : K = 4
  ·rw [if_pos k4]
   have hbt := bat_sub (fun x => (find B p H x).1) l S [] hm.1
   have hbl := bat_len (fun x => (find B p H x).1) l S []
   exact ⟨fun h => absurd rfl h, mset_sub hS hbt.1 hbt.2, by simp only; omega, fun y hy hn => absurd (hbt.2 y hy) hn, fun h => absurd h k1, fun h5 => by omega⟩
  rw [if_neg k4]
  by_cases k5 : K = 5
  ·rw [if_pos k5]
   obtain ⟨f1, f2, f3, f4⟩ := find_ok (chk_one0 (by omega) c)
   exact Right.same hS (fun h => absurd h k1) (fun _ _ => ⟨f2, by simp only; rw [f1]⟩)
  rw [if_neg k5]
  by_cases k6 : K = 6
  ·rw [if_pos k6]; exact Right.same hS (fun h => absurd h k1) (fun h5 => absurd h5 k5)
  rw [if_neg k6]; exact Right.same hS (fun h => absurd h k1) (fun h5 => absurd h5 k5)
 ·rw [if_neg c]; exact Right.same hS (fun _ => c) (fun _ h => absurd h c)
theorem leg_right {B p : Int} {H S : List Int} (h1 : 16 ≤ p) (h2 : p ≤ 32) (hB0 : 0 ≤ B) (hS : mset (M p) H S = true) {K A : Int} (hA : 0 ≤ A ∧ A ≤ 4294967295) (l : List Int) (e a : Int) (u : Bool) (m n : List Int) (ha : 0 ≤ a ∧ a ≤ 4294967295) :
  ((leg B p H S K A l (e, a, u, m, n)).2 = false → (leg B p H S K A l (e, a, u, m, n)).1 = S) ∧ ((leg B p H S K A l (e, a, u, m, n)).2 = true → Right B p H S K A (leg B p H S K A l (e, a, u, m, n)).1 e a u) := by
 have hb := M_bounds h1 h2
 unfold leg
 dsimp only
 by_cases c0 : (e, a, u, m, n) = (10, 0, false, [], []) ∨ (e, a, u, m, n) = (12, 0, false, [], [])
 ·rw [if_pos c0]
  have he : e ≠ 0 := by
   rcases c0 with c0 | c0
   ·simp at c0; omega
   ·simp at c0; omega
  exact ⟨fun h => by simp at h, fun _ => Right.same hS (fun _ => he) (fun _ h => absurd h he)⟩
 rw [if_neg c0]
 by_cases cs : (e, a, u, m, n) = (som B p H S K A l).2
 ·rw [if_pos cs]
  refine ⟨fun h => by simp at h, fun _ => ?_⟩
  have hr := som_right h1 h2 hS hA l (B := B) (K := K)
  rw [← cs] at hr
  exact hr
 rw [if_neg cs]
 by_cases cc : chk B p H K A l = 0
 ·rw [if_pos cc]
  by_cases c6 : K = 6 ∧ (e, a, u, m, n) = (11, 0, false, [], [])
  ·rw [if_pos c6]
   have he : e ≠ 0 := by have := c6.2; simp at this; omega
   exact ⟨fun h => by simp at h, fun _ => Right.same hS (fun _ => he) (fun _ h => absurd h he)⟩
  rw [if_neg c6]
  by_cases c1 : K = 1 ∧ (e, a, u, m, n) = (0, a, false, [], [])
  ·rw [if_pos c1]
   by_cases f0 : (find B p H a).2 = 0
   ·rw [if_pos f0]
    by_cases fs : (find B p H a).1 ∈ S
    ·rw [if_pos fs]; exact ⟨fun _ => rfl, fun h => by simp at h⟩
    ·rw [if_neg fs]
     obtain ⟨f1, f2, f3, f4⟩ := find_ok f0
     have he : e = 0 := by have := c1.2; simp at this; exact this.1
     refine ⟨fun h => by simp at h, fun _ => ⟨fun h => absurd he h, mset_ins hS (by omega) (by omega) (by rw [f1]; exact f4), by have := ins_len fs; simp only; omega, fun y hy hn => ?_, fun _ _ => ⟨_, fs, rfl⟩, fun h5 => by omega⟩⟩
     rcases mem_ins.1 hy with rfl | hy
     ·refine ⟨.inl c1.1, ?_⟩
      rw [f1]
      omega
     ·exact absurd hy hn
   ·rw [if_neg f0]; exact ⟨fun _ => rfl, fun h => by simp at h⟩
  ·rw [if_neg c1]; exact ⟨fun _ => rfl, fun h => by simp at h⟩
 ·rw [if_neg cc]; exact ⟨fun _ => rfl, fun h => by simp at h⟩
theorem refAddrs_l0 (B p : Int) (H : List Int) (s w q t : Int) {l : List Int} (hl : l.length ≤ 100000000) : ∀ (xs pre acc : List Int) (k : Nat), l = pre ++ xs → acc.length ≤ pre.length → xs.length < k →
  lodgerref09_Addrs.l0 k l acc (pre.length : Int) B p H s w q t = some (acc ++ xs.map (fun x => (B + x) % 4294967296)) := by
 intro xs
 induction xs with
 | nil =>
  intro pre acc k hp ha hk
  obtain ⟨k, rfl⟩ : ∃ m, k = m + 1 := ⟨k - 1, by omega⟩
  simp only [lodgerref09_Addrs.l0]; rw [if_neg (by rw [hp]; simp)]; simp
 | cons x xs ih =>
  intro pre acc k hp ha hk
  simp only [List.length_cons] at hk
  have hl1 : l.length = pre.length + (xs.length + 1) := by rw [hp]; simp
  obtain ⟨k, rfl⟩ : ∃ m, k = m + 1 := ⟨k - 1, by omega⟩
  have hx : rd l (pre.length : Int) = x := by rw [hp]; exact rd_mid ..
  have h := ih (pre ++ [x]) (acc ++ [(B + x) % 4294967296]) k (by rw [hp]; simp) (by simp; omega) (by omega)
  rw [show ((pre ++ [x]).length : Int) = (pre.length : Int) + 1 by simp] at h
  simp only [lodgerref09_Addrs.l0]
  rw [if_pos (by omega), if_pos (by omega), hx, if_pos (by omega), w64 (by omega) (by omega), h]
  simp
theorem refAddrs_eq (B p : Int) (H : List Int) (s w q t : Int) {l : List Int} (hl : l.length ≤ 100000000) {k : Nat} (hk : l.length < k) :
  lodgerref09_Addrs.f k B p H s w q t l = some (l.map (fun x => (B + x) % 4294967296)) := by
 unfold lodgerref09_Addrs.f
 have := refAddrs_l0 B p H s w q t hl l [] [] k rfl (by simp) hk
 simpa using this

theorem refNames_eq {K A : Int} {l : List Int} (hl : l.length ≤ 1000000) {k : Nat} (hk : 1 ≤ k) : lodgerref10_Names.f k K A l = some (names K A l) := by
 obtain ⟨k, rfl⟩ : ∃ m, k = m + 1 := ⟨k - 1, by omega⟩
 unfold lodgerref10_Names.f names
 by_cases c2 : K = 2
 ·rw [if_pos c2, if_neg (by omega), if_pos (by omega)]; simp only [lodgerref10_Names.j0, ↓reduceIte]
 rw [if_neg c2]
 by_cases c3 : K = 3
 ·rw [if_pos c3, if_neg (by omega), if_pos (by omega)]; simp only [lodgerref10_Names.j0, ↓reduceIte]
 rw [if_neg c3]
 simp only [lodgerref10_Names.j0]
 by_cases c5 : K = 5
 ·rw [if_pos (by simp [c5]), if_neg (by omega), if_pos (by omega)]
 rw [if_neg (by simp [c5])]
 by_cases c4 : K = 4
 ·rw [if_pos c4, if_pos c4, Option.bind_some, if_pos (by simp; omega), List.nil_append]
 ·rw [if_neg c4, if_neg c4, if_neg (by omega)]
theorem refCheck_l1 {B p : Int} (H : List Int) (s w q t : Int) {l : List Int} (hl : l.length ≤ 1000001) {x v : Int} {pre suf : List Int} (hp : l = pre ++ x :: suf) {N : Nat}
  (hc : ∀ k, N ≤ k → lodgerref10_Check.l0 k l ((pre.length : Int) + 1) B p H s w q t = some v) : ∀ (ys zs : List Int) (k : Nat), pre = zs ++ ys → N + ys.length < k →
  lodgerref10_Check.l1 k l (pre.length : Int) (zs.length : Int) B p H s w q t = some (if x ∈ ys then 8 else v) := by
 have hl1 : l.length = pre.length + (suf.length + 1) := by rw [hp]; simp
 have hx : rd l (pre.length : Int) = x := by rw [hp]; exact rd_mid ..
 intro ys
 induction ys with
 | nil =>
  intro zs k hz hk
  obtain ⟨k, rfl⟩ : ∃ m, k = m + 1 := ⟨k - 1, by omega⟩
  have hlen : zs.length = pre.length := by rw [hz]; simp
  simp only [lodgerref10_Check.l1]
  rw [if_neg (by omega), w64 (by omega) (by omega), hc k (by simp at hk; omega)]; simp
 | cons y ys ih =>
  intro zs k hz hk
  simp only [List.length_cons] at hk
  obtain ⟨k, rfl⟩ : ∃ m, k = m + 1 := ⟨k - 1, by omega⟩
  have hlen : pre.length = zs.length + (ys.length + 1) := by rw [hz]; simp
  have hy : rd l (zs.length : Int) = y := by rw [hp, hz, List.append_assoc, List.cons_append]; exact rd_mid ..
  have h := ih (zs ++ [y]) k (by rw [hz]; simp) (by omega)
  rw [show ((zs ++ [y]).length : Int) = (zs.length : Int) + 1 by simp] at h
  simp only [lodgerref10_Check.l1]
  rw [if_pos (by omega), if_pos (by omega), if_pos (by omega), if_pos (by omega), if_pos (by omega), hx, hy]
  by_cases c : y = x
  ·rw [if_pos c, if_pos (by simp [c])]
  ·rw [if_neg c, w64 (by omega) (by omega), h]
   have hne : ¬ x = y := fun h => c h.symm
   have : (x ∈ y :: ys) = (x ∈ ys) := by simp [hne]
   simp only [this]
theorem refCheck_l0 {B p : Int} (H : List Int) (s w q t : Int) (hH : H.length ≤ maxLen) (hB0 : 0 ≤ B) (hB1 : B ≤ 4294967295) (h1 : 16 ≤ p) (h2 : p ≤ 32) {l : List Int} (hl : l.length ≤ 200) (hw : ∀ x ∈ l, 0 ≤ x ∧ x ≤ 4294967295) : ∀ (xs pre : List Int) (k : Nat), l = pre ++ xs → xs.length * 300 + H.length + 30 ≤ k →
  lodgerref10_Check.l0 k l (pre.length : Int) B p H s w q t = some (scan (fun x => (find B p H x).2) xs pre) := by
 intro xs
 induction xs with
 | nil =>
  intro pre k hp hk
  obtain ⟨k, rfl⟩ : ∃ m, k = m + 1 := ⟨k - 1, by omega⟩
  simp only [lodgerref10_Check.l0]; rw [if_neg (by rw [hp]; simp)]; rfl
 | cons x xs ih =>
  intro pre k hp hk
  simp only [List.length_cons] at hk
  have hl1 : l.length = pre.length + (xs.length + 1) := by rw [hp]; simp
  obtain ⟨k, rfl⟩ : ∃ m, k = m + 1 := ⟨k - 1, by omega⟩
  have hx : rd l (pre.length : Int) = x := by rw [hp]; exact rd_mid ..
  have hxw := hw x (by rw [hp]; simp)
  simp only [lodgerref10_Check.l0, scan]
  rw [if_pos (by omega), if_pos (by omega), hx, refFind_eq H s w q t hH hB0 hB1 h1 h2 hxw.1 hxw.2 (by omega), Option.bind_some]
  by_cases c : (find B p H x).2 = 0
  ·rw [if_pos c, if_pos c]
   have h := refCheck_l1 H s w q t (by omega) hp (N := xs.length * 300 + H.length + 30) (fun k' hk' => by
    have h := ih (pre ++ [x]) k' (by rw [hp]; simp) hk'
    rwa [show ((pre ++ [x]).length : Int) = (pre.length : Int) + 1 by simp] at h) pre [] k rfl (by omega)
   exact h
  ·rw [if_neg c, if_neg c]
theorem refCheck_eq {B p : Int} (H : List Int) (s w q t : Int) (hH : H.length ≤ maxLen) (hB0 : 0 ≤ B) (hB1 : B ≤ 4294967295) (h1 : 16 ≤ p) (h2 : p ≤ 32) {K A : Int} {l : List Int} (hl : l.length ≤ 100) (hA : 0 ≤ A ∧ A ≤ 4294967295) (hw : ∀ x ∈ l, 0 ≤ x ∧ x ≤ 4294967295) {k : Nat} (hk : H.length + 40000 < k) :
  lodgerref10_Check.f k B p H s w q t K A l = some (chk B p H K A l) := by
 obtain ⟨k, rfl⟩ : ∃ m, k = m + 3 := ⟨k - 3, by omega⟩
 unfold lodgerref10_Check.f chk
 have hn := names_len (K := K) (A := A) (l := l)
 by_cases c1 : K < 1
 ·rw [if_pos c1, if_pos (by omega)]; simp only [lodgerref10_Check.j0, ↓reduceIte]
 rw [if_neg c1]
 by_cases c7 : K > 7
 ·rw [decide_eq_true c7, if_pos (by omega)]; simp only [lodgerref10_Check.j0, ↓reduceIte]
 rw [decide_eq_false c7, if_neg (by omega)]
 have hlast : lodgerref10_Check.j2 (k + 1) false B p H s w q t K A l = some (scan (fun x => (find B p H x).2) (names K A l) []) := by
  simp only [lodgerref10_Check.j2]
  rw [if_neg (by simp), refNames_eq (by omega) (by omega), Option.bind_some]
  exact refCheck_l0 H s w q t hH hB0 hB1 h1 h2 (by omega) (names_wf hA hw) _ [] k rfl (by omega)
 simp only [lodgerref10_Check.j0]
 rw [if_neg (by simp)]
 by_cases d : K = 4
 ·rw [if_pos d]
  simp only [lodgerref10_Check.j1]
  by_cases e : l.length = 0
  ·rw [if_pos (by simp [e]), if_pos ⟨d, e⟩]
  ·rw [if_neg (by simp; intro h; exact e (by rw [h]; rfl)), if_neg (show ¬ (K = 4 ∧ l.length = 0) from fun h => e h.2), if_pos d]
   by_cases g : (l.length : Int) > 64
   ·rw [decide_eq_true g, if_pos (show K = 4 ∧ 64 < l.length from ⟨d, by omega⟩)]; simp only [lodgerref10_Check.j2, ↓reduceIte]
   ·rw [decide_eq_false g, if_neg (show ¬ (K = 4 ∧ 64 < l.length) from fun h => g (by omega)), hlast]
 ·rw [if_neg d, if_neg (show ¬ (K = 4 ∧ l.length = 0) from fun h => d h.1), if_neg (show ¬ (K = 4 ∧ 64 < l.length) from fun h => d h.1)]
  simp only [lodgerref10_Check.j1]
  rw [if_neg (by simp), if_neg d, hlast]

theorem AddrsS_l0 : ∀ (xs ys pre qre : List Int) (k : Nat), pre.length = qre.length → xs.length = ys.length → (pre ++ xs).length ≤ 9223372036854775807 → xs.length < k →
  lodgerref08_Addrs.l0 k (pre ++ xs) (qre ++ ys) (pre.length : Int) = some (decide (xs = ys)) := by
 intro xs
 induction xs with
 | nil =>
  intro ys pre qre k hp hx hm hk
  obtain ⟨k, rfl⟩ : ∃ m, k = m + 1 := ⟨k - 1, by omega⟩
  have : ys = [] := List.eq_nil_of_length_eq_zero hx.symm
  subst this
  simp only [lodgerref08_Addrs.l0]; rw [if_neg (by simp)]; simp
 | cons x xs ih =>
  intro ys pre qre k hp hx hm hk
  cases ys with
  | nil => simp at hx
  | cons y ys =>
   simp only [List.length_cons, List.length_append] at hk hx hm
   obtain ⟨k, rfl⟩ : ∃ m, k = m + 1 := ⟨k - 1, by omega⟩
   simp only [lodgerref08_Addrs.l0]
   have e1 : rd (pre ++ x :: xs) (pre.length : Int) = x := by simp [rd]
   have e2 : rd (qre ++ y :: ys) (pre.length : Int) = y := by rw [hp]; simp [rd]
   rw [if_pos (by simp; omega), if_pos (by omega), if_pos (by rw [hp]; simp; omega), e1, e2]
   by_cases e : x = y
   ·subst e
    rw [if_pos rfl, w64 (by omega) (by omega)]
    have := ih ys (pre ++ [x]) (qre ++ [x]) k (by simp [hp]) (by omega) (by simp; omega) (by omega)
    simp only [List.append_assoc, List.singleton_append, List.length_append, List.length_cons, List.length_nil, Nat.zero_add, Int.natCast_add, Int.natCast_one] at this
    rw [this]; simp
   ·rw [if_neg e]; simp [e]
theorem AddrsS_eq (a b : List Int) (ha : a.length ≤ 100000) {k : Nat} (hk : a.length < k) : lodgerref08_Addrs.f k a b = some (decide (a = b)) := by
 unfold lodgerref08_Addrs.f
 by_cases h : (a.length : Int) = (b.length : Int)
 ·rw [if_pos h]
  exact AddrsS_l0 a b [] [] k rfl (by omega) (by simp; omega) hk
 ·rw [if_neg h, decide_eq_false (fun e => h (by rw [e]))]

theorem ErrsS_l0 : ∀ (xs ys pre qre : List Int) (k : Nat), pre.length = qre.length → xs.length = ys.length → (pre ++ xs).length ≤ 9223372036854775807 → xs.length < k →
  lodgerref08_Errs.l0 k (pre ++ xs) (qre ++ ys) (pre.length : Int) = some (decide (xs = ys)) := by
 intro xs
 induction xs with
 | nil =>
  intro ys pre qre k hp hx hm hk
  obtain ⟨k, rfl⟩ : ∃ m, k = m + 1 := ⟨k - 1, by omega⟩
  have : ys = [] := List.eq_nil_of_length_eq_zero hx.symm
  subst this
  simp only [lodgerref08_Errs.l0]; rw [if_neg (by simp)]; simp
 | cons x xs ih =>
  intro ys pre qre k hp hx hm hk
  cases ys with
  | nil => simp at hx
  | cons y ys =>
   simp only [List.length_cons, List.length_append] at hk hx hm
   obtain ⟨k, rfl⟩ : ∃ m, k = m + 1 := ⟨k - 1, by omega⟩
   simp only [lodgerref08_Errs.l0]
   have e1 : rd (pre ++ x :: xs) (pre.length : Int) = x := by simp [rd]
   have e2 : rd (qre ++ y :: ys) (pre.length : Int) = y := by rw [hp]; simp [rd]
   rw [if_pos (by simp; omega), if_pos (by omega), if_pos (by rw [hp]; simp; omega), e1, e2]
   by_cases e : x = y
   ·subst e
    rw [if_pos rfl, w64 (by omega) (by omega)]
    have := ih ys (pre ++ [x]) (qre ++ [x]) k (by simp [hp]) (by omega) (by simp; omega) (by omega)
    simp only [List.append_assoc, List.singleton_append, List.length_append, List.length_cons, List.length_nil, Nat.zero_add, Int.natCast_add, Int.natCast_one] at this
    rw [this]; simp
   ·rw [if_neg e]; simp [e]
theorem ErrsS_eq (a b : List Int) (ha : a.length ≤ 100000) {k : Nat} (hk : a.length < k) : lodgerref08_Errs.f k a b = some (decide (a = b)) := by
 unfold lodgerref08_Errs.f
 by_cases h : (a.length : Int) = (b.length : Int)
 ·rw [if_pos h]
  exact ErrsS_l0 a b [] [] k rfl (by omega) (by simp; omega) hk
 ·rw [if_neg h, decide_eq_false (fun e => h (by rw [e]))]

/-- An address' offset in the block, 0 if it has none. -/
def offo (B p a : Int) : Int := if B ≤ a ∧ a < B + M p then a - B else 0
theorem offo_find {B p a : Int} {H : List Int} (h : (find B p H a).2 = 0) : offo B p a = (find B p H a).1 := by
 obtain ⟨h1, h2, h3, _⟩ := find_ok h
 unfold offo
 rw [if_pos ⟨h2, h3⟩, h1]
theorem refOff {B p : Int} (hB0 : 0 ≤ B) (hB1 : B ≤ 4294967295) (h1 : 16 ≤ p) (h2 : p ≤ 32) {a : Int} (ha : 0 ≤ a ∧ a ≤ 4294967295) {k : Nat} (hk : 20 ≤ k) : ∃ e, lodgerref05_Offset.f k B p a = some (offo B p a, e) := by
 rw [refOffset_eq hB0 hB1 h1 h2 ha.1 ha.2 hk]
 unfold offo
 by_cases c : B ≤ a ∧ a < B + M p
 ·exact ⟨0, by rw [if_pos c, if_pos c]⟩
 ·exact ⟨3, by rw [if_neg c, if_neg c]⟩
theorem refAns_eq (e a : Int) (u : Bool) (l m : List Int) (e' a' : Int) (u' : Bool) (l' m' : List Int) (hl : l.length ≤ 100000) (hm : m.length ≤ 100000) {k : Nat} (hk : l.length + m.length < k) :
  lodgerref08_Answers.f k e a u l m e' a' u' l' m' = some (decide ((e, a, u, l, m) = (e', a', u', l', m'))) := by
 unfold lodgerref08_Answers.f
 by_cases c1 : e = e'
 ·rw [if_pos c1]
  by_cases c2 : a = a'
  ·rw [if_pos c2]
   by_cases c3 : u = u'
   ·rw [if_pos (by simp [c3]), AddrsS_eq l l' hl (by omega), Option.bind_some]
    by_cases c4 : l = l'
    ·rw [if_pos (by simp [c4]), ErrsS_eq m m' hm (by omega), Option.bind_some]
     simp [c1, c2, c3, c4]
    ·rw [if_neg (by simp [c4])]; simp [c4]
   ·rw [if_neg (by simp [c3])]; simp [c3]
  ·rw [if_neg c2]; simp [c2]
 ·rw [if_neg c1]; simp [c1]
theorem refOnly_eq (e a : Int) (u : Bool) (l m : List Int) (y : Int) (hl : l.length ≤ 100000) (hm : m.length ≤ 100000) {k : Nat} (hk : l.length + m.length < k) :
  lodgerref11_only.f k e a u l m y = some (decide ((e, a, u, l, m) = (y, 0, false, [], []))) := by
 unfold lodgerref11_only.f
 rw [refAns_eq e a u l m y 0 false [] [] hl hm hk, Option.bind_some]
theorem scan_ok {F : Int → Int} : ∀ {xs met : List Int}, scan F xs met = 0 → ∀ x ∈ xs, F x = 0
 | [], _, _ => fun x hx => by simp at hx
 | y :: xs, met, h => by
  simp only [scan] at h
  by_cases c : F y = 0
  ·rw [if_pos c] at h
   by_cases d : y ∈ met
   ·rw [if_pos d] at h; simp at h
   ·rw [if_neg d] at h
    intro x hx
    rcases List.mem_cons.1 hx with rfl | hx
    ·exact c
    ·exact scan_ok h x hx
  ·rw [if_neg c] at h; exact absurd h c
theorem chk_batch {B p : Int} {H : List Int} {A : Int} {l : List Int} (h : chk B p H 4 A l = 0) : ∀ x ∈ l, (find B p H x).2 = 0 := by
 unfold chk at h
 rw [if_neg (by omega)] at h
 by_cases c1 : (4 : Int) = 4 ∧ l.length = 0
 ·rw [if_pos c1] at h; simp at h
 rw [if_neg c1] at h
 by_cases c2 : (4 : Int) = 4 ∧ l.length > 64
 ·rw [if_pos c2] at h; simp at h
 rw [if_neg c2] at h
 unfold names at h
 rw [if_pos rfl] at h
 exact scan_ok h
theorem relz_eq (T : List Int) (o : Int) : relz T o = (del o T, if o ∈ T then 0 else 6) := by
 unfold relz
 by_cases c : o ∈ T
 ·rw [if_pos c, if_pos c]
 ·rw [if_neg c, if_neg c, del_of_not c]
theorem refLegal_l0 {B p : Int} (H : List Int) (s w q t : Int) (hB0 : 0 ≤ B) (hB1 : B ≤ 4294967295) (h1 : 16 ≤ p) (h2 : p ≤ 32) {S : List Int} {K A : Int} {l : List Int} (hl : l.length ≤ 1000) (hw : ∀ x ∈ l, 0 ≤ x ∧ x ≤ 4294967295) (hf : ∀ x ∈ l, (find B p H x).2 = 0)
  (e a : Int) (u : Bool) (m n : List Int) (hm : m.length ≤ 100000) (hn : n.length ≤ 100000) : ∀ (xs pre T acc : List Int) (k : Nat) (Z : List Int × List Int), bat (fun x => (find B p H x).1) xs T acc = Z → l = pre ++ xs → T.length ≤ 1000 → acc.length ≤ pre.length → xs.length + 300000 < k →
  lodgerref11_Legal.l0 k S T acc (pre.length : Int) B p H s w q t K A l e a u m n = some (if (e, a, u, m, n) = (0, 0, false, [], Z.2) then (Z.1, true) else (S, false)) := by
 intro xs
 induction xs with
 | nil =>
  intro pre T acc k Z hZ hp hT ha hk
  obtain ⟨k, rfl⟩ : ∃ z, k = z + 1 := ⟨k - 1, by omega⟩
  simp only [bat] at hZ
  subst hZ
  simp only [lodgerref11_Legal.l0]
  rw [if_neg (by rw [hp]; simp), refAns_eq e a u m n 0 0 false [] acc hm hn (by omega), Option.bind_some]
  by_cases c : (e, a, u, m, n) = (0, 0, false, [], acc)
  ·rw [decide_eq_true c, if_pos rfl, if_pos c]
  ·rw [decide_eq_false c, if_neg (by simp), if_neg c]
 | cons x xs ih =>
  intro pre T acc k Z hZ hp hT ha hk
  simp only [List.length_cons] at hk
  have hl1 : l.length = pre.length + (xs.length + 1) := by rw [hp]; simp
  obtain ⟨k, rfl⟩ : ∃ z, k = z + 1 := ⟨k - 1, by omega⟩
  have hx : rd l (pre.length : Int) = x := by rw [hp]; exact rd_mid ..
  have hxm : x ∈ l := by rw [hp]; simp
  have hdl := del_len_le (find B p H x).1 T
  simp only [bat] at hZ
  have h := ih (pre ++ [x]) (relz T (find B p H x).1).1 (acc ++ [(relz T (find B p H x).1).2]) k Z hZ (by rw [hp]; simp) (by rw [relz_eq]; simp only; omega) (by simp; omega) (by omega)
  rw [show ((pre ++ [x]).length : Int) = (pre.length : Int) + 1 by simp] at h
  obtain ⟨e', he'⟩ := refOff hB0 hB1 h1 h2 (hw x hxm) (show 20 ≤ k by omega)
  simp only [lodgerref11_Legal.l0]
  rw [if_pos (by omega), if_pos (by omega), hx, he', Option.bind_some, offo_find (hf x hxm), ref09Has_eq (by unfold maxLen; omega) _ (by omega), Option.bind_some]
  rw [relz_eq] at h
  by_cases c : (find B p H x).1 ∈ T
  ·rw [decide_eq_true c, if_pos rfl, if_pos (by omega), ref09Without_eq _ (by omega) (by omega), Option.bind_some, w64 (by omega) (by omega)]
   rw [if_pos c] at h
   exact h
  ·rw [decide_eq_false c, if_neg (by simp), if_pos (by omega), ref09Without_eq _ (by omega) (by omega), Option.bind_some, w64 (by omega) (by omega)]
   rw [if_neg c] at h
   exact h
theorem lst_full {p : Int} {H S : List Int} (h1 : 16 ≤ p) (h2 : p ≤ 32) (hr : rises (-1) (M p) H = true) (hS : mset (M p) H S = true) : ((S.length : Int) = M p - H.length) ↔ lst H S (M p).toNat 0 = none := by
 have hb := M_bounds h1 h2
 obtain ⟨n, hn⟩ : ∃ n : Nat, M p = n := ⟨(M p).toNat, by omega⟩
 have hf := fullset_iff (n := n) (H := H) (l := S) (by rw [← hn]; exact hr) (by rw [← hn]; exact hS)
 constructor
 ·intro h
  cases hc : lst H S (M p).toNat 0 with
  | none => rfl
  | some j =>
   obtain ⟨a1, a2, a3, a4, _⟩ := lst_some hc
   rcases hf.2.1 (by omega) j.toNat (by omega) with h | h
   ·rw [show ((j.toNat : Nat) : Int) = j by omega] at h; exact absurd h a3
   ·rw [show ((j.toNat : Nat) : Int) = j by omega] at h; exact absurd h a4
 ·intro h
  have := hf.2.2 (fun z hz => lst_none h z (by omega) (by omega))
  omega
theorem find_at {B p : Int} {H : List Int} (hb : B + M p ≤ 4294967296) (hB0 : 0 ≤ B) {i : Int} (h0 : 0 ≤ i) (h1 : i < M p) : find B p H ((B + i) % 4294967296) = if i ∈ H then (find B p H ((B + i) % 4294967296)) else (i, 0) := by
 by_cases c : i ∈ H
 ·rw [if_pos c]
 ·rw [if_neg c, show (B + i) % 4294967296 = B + i by omega]
  unfold find
  rw [if_pos ⟨by omega, by omega⟩, show B + i - B = i by omega, if_neg c]
theorem find_held {B p : Int} {H : List Int} (hb : B + M p ≤ 4294967296) (hB0 : 0 ≤ B) {i : Int} (h0 : 0 ≤ i) (h1 : i < M p) (c : i ∈ H) : ¬ (find B p H ((B + i) % 4294967296)).2 = 0 := by
 rw [show (B + i) % 4294967296 = B + i by omega]
 unfold find
 rw [if_pos ⟨by omega, by omega⟩, show B + i - B = i by omega, if_pos c]
 simp
theorem find_free {B p : Int} {H : List Int} (hb : B + M p ≤ 4294967296) (hB0 : 0 ≤ B) {i : Int} (h0 : 0 ≤ i) (h1 : i < M p) (c : i ∉ H) : find B p H ((B + i) % 4294967296) = (i, 0) := by
 rw [find_at hb hB0 h0 h1, if_neg c]
/-- What is right of a grant's answer that names an address. -/
theorem leg_at {B p : Int} {H S : List Int} (hb : B + M p ≤ 4294967296) (hB0 : 0 ≤ B) (h1 : 16 ≤ p) (h2 : p ≤ 32) {A : Int} {l : List Int} (hc : chk B p H 1 A l = 0) {j : Int} (h0 : 0 ≤ j) (hj : j < M p) :
  leg B p H S 1 A l (0, (B + j) % 4294967296, false, [], []) = if j ∈ H then (S, false) else if j ∈ S then (S, false) else (ins j S, true) := by
 have hM := M_bounds h1 h2
 unfold leg
 dsimp only
 rw [if_neg (by simp)]
 by_cases cs : (0, (B + j) % 4294967296, false, [], []) = (som B p H S 1 A l).2
 ·rw [if_pos cs]
  unfold som at cs ⊢
  rw [if_pos hc, if_pos rfl] at cs ⊢
  cases h : lst H S (M p).toNat 0 with
  | none => rw [h] at cs; simp at cs
  | some i =>
   rw [h] at cs
   obtain ⟨a1, a2, a3, a4, _⟩ := lst_some h
   simp only [Prod.mk.injEq] at cs
   have : j = i := by omega
   subst this
   rw [if_neg a3, if_neg a4]
 ·rw [if_neg cs, if_pos hc, if_neg (by simp), if_pos ⟨rfl, rfl⟩]
  by_cases c : j ∈ H
  ·rw [if_pos c, if_neg (find_held hb hB0 h0 hj c)]
  ·rw [if_neg c, find_free hb hB0 h0 hj c, if_pos rfl]
theorem refLegal_eq {B p : Int} (H : List Int) (s w q t : Int) (hH : H.length ≤ maxLen) (hB0 : 0 ≤ B) (hB1 : B ≤ 4294967295) (h1 : 16 ≤ p) (h2 : p ≤ 32) (hb : B + M p ≤ 4294967296) (hr : rises (-1) (M p) H = true) {S : List Int} (hS : mset (M p) H S = true) (hn : S.length ≤ 300) {K A : Int} {l : List Int} (hl : l.length ≤ 100) (hA : 0 ≤ A ∧ A ≤ 4294967295) (hw : ∀ x ∈ l, 0 ≤ x ∧ x ≤ 4294967295)
  (e a : Int) (u : Bool) (m n : List Int) (ha : 0 ≤ a ∧ a ≤ 4294967295) (hm : m.length ≤ 100000) (hn2 : n.length ≤ 100000) {k : Nat} (hk : H.length + 500000 < k) :
  lodgerref11_Legal.f k B p H s w q t S K A l e a u m n = some (leg B p H S K A l (e, a, u, m, n)) := by
 have hM := M_bounds h1 h2
 have hs := (mset_iff.1 hS).1
 have hSl : S.length ≤ maxLen := by unfold maxLen; omega
 obtain ⟨k, rfl⟩ : ∃ z, k = z + 2 := ⟨k - 2, by omega⟩
 have on : ∀ y : Int, ∀ k', 250000 < k' → lodgerref11_only.f k' e a u m n y = some (decide ((e, a, u, m, n) = (y, 0, false, [], []))) := fun y k' hk' => refOnly_eq e a u m n y hm hn2 (by omega)
 have an : ∀ (e' a' : Int) (u' : Bool) (m' n' : List Int), ∀ k', 250000 < k' → lodgerref08_Answers.f k' e a u m n e' a' u' m' n' = some (decide ((e, a, u, m, n) = (e', a', u', m', n'))) := fun e' a' u' m' n' k' hk' => refAns_eq e a u m n e' a' u' m' n' hm hn2 (by omega)
 have hj0 : lodgerref11_Legal.j0 (k + 2) S true B p H s w q t K A l e a u m n = some (S, true) := by simp only [lodgerref11_Legal.j0, ↓reduceIte]
 unfold lodgerref11_Legal.f leg
 dsimp only
 rw [on 10 (k + 2) (by omega), Option.bind_some]
 by_cases c10 : (e, a, u, m, n) = (10, 0, false, [], [])
 ·rw [decide_eq_true c10, if_pos rfl, if_pos (.inl c10), hj0]
 rw [decide_eq_false c10, if_neg (by simp), on 12 (k + 2) (by omega), Option.bind_some]
 by_cases c12 : (e, a, u, m, n) = (12, 0, false, [], [])
 ·rw [decide_eq_true c12, if_pos (.inr c12), hj0]
 rw [decide_eq_false c12, if_neg (fun h => h.elim c10 c12)]
 simp only [lodgerref11_Legal.j0]
 rw [if_neg (by simp), refCheck_eq H s w q t hH hB0 hB1 h1 h2 hl hA hw (by omega), Option.bind_some]
 unfold som
 by_cases cc : chk B p H K A l = 0
 rotate_left
 ·rw [if_neg cc, if_neg cc, on _ (k + 1) (by omega), Option.bind_some]
  by_cases c : (e, a, u, m, n) = (chk B p H K A l, 0, false, [], [])
  ·rw [decide_eq_true c, if_pos c]
  ·rw [decide_eq_false c, if_neg c, if_neg cc]
 obtain ⟨e', he'⟩ := refOff hB0 hB1 h1 h2 hA (show 20 ≤ k + 1 by omega)
 rw [if_pos cc, if_pos cc, he', Option.bind_some, ref09Has_eq hSl _ (by omega), Option.bind_some]
 by_cases k1 : K = 1
 ·rw [if_pos k1, if_pos k1, on 9 (k + 1) (by omega), Option.bind_some]
  by_cases c9 : (e, a, u, m, n) = (9, 0, false, [], [])
  ·rw [decide_eq_true c9, if_pos rfl, refFull_eq B H s w q t hH h1 h2 hr hSl hS (by omega), Option.bind_some]
   cases h : lst H S (M p).toNat 0 with
   | none => rw [if_pos c9, decide_eq_true ((lst_full h1 h2 hr hS).2 h)]
   | some i =>
    rw [if_neg (by rw [c9]; simp), if_pos cc, if_neg (by omega), if_neg (by rw [c9]; simp), decide_eq_false (fun hx => by rw [(lst_full h1 h2 hr hS).1 hx] at h; cases h)]
  ·rw [decide_eq_false c9, if_neg (by simp), refFind_eq H s w q t hH hB0 hB1 h1 h2 ha.1 ha.2 (by omega), Option.bind_some, an 0 a false [] [] (k + 1) (by omega), Option.bind_some]
   by_cases c0 : (e, a, u, m, n) = (0, a, false, [], [])
   ·rw [decide_eq_true c0, if_pos rfl]
    have key : (if (e, a, u, m, n) = (match lst H S (M p).toNat 0 with | some i => (ins i S, 0, (B + i) % 4294967296, false, [], []) | none => (S, 9, 0, false, [], []) : List Int × Int × Int × Bool × List Int × List Int).2 then ((match lst H S (M p).toNat 0 with | some i => (ins i S, 0, (B + i) % 4294967296, false, [], []) | none => (S, 9, 0, false, [], []) : List Int × Int × Int × Bool × List Int × List Int).1, true) else if chk B p H K A l = 0 then (if K = 6 ∧ (e, a, u, m, n) = (11, 0, false, [], []) then (S, true) else if K = 1 ∧ (e, a, u, m, n) = (0, a, false, [], []) then (if (find B p H a).2 = 0 then (if (find B p H a).1 ∈ S then (S, false) else (ins (find B p H a).1 S, true)) else (S, false)) else (S, false)) else (S, false))
      = (if (find B p H a).2 = 0 then (if (find B p H a).1 ∈ S then (S, false) else (ins (find B p H a).1 S, true)) else (S, false)) := by
     cases h : lst H S (M p).toNat 0 with
     | none => rw [if_neg (fun hx => c9 hx), if_pos cc, if_neg (by omega), if_pos ⟨k1, c0⟩]
     | some i =>
      by_cases cs : (e, a, u, m, n) = (0, (B + i) % 4294967296, false, [], [])
      ·obtain ⟨a1, a2, a3, a4, _⟩ := lst_some h
       have hai : a = (B + i) % 4294967296 := by simp only [Prod.mk.injEq] at cs; exact cs.2.1
       rw [if_pos cs, hai, find_free hb hB0 a1 (by omega) a3, if_pos rfl, if_neg a4]
      ·rw [if_neg cs, if_pos cc, if_neg (by omega), if_pos ⟨k1, c0⟩]
    rw [key]
    by_cases f0 : (find B p H a).2 = 0
    ·rw [if_pos f0, if_pos f0, ref09Has_eq hSl _ (by omega), Option.bind_some]
     simp only [lodgerref11_Legal.j1]
     by_cases fs : (find B p H a).1 ∈ S
     ·rw [decide_eq_true fs, if_pos rfl, if_pos fs]
     ·rw [decide_eq_false fs, if_neg (by simp), if_neg fs, ref09With_eq _ hs (by omega) (by omega), Option.bind_some]
    ·rw [if_neg f0, if_neg f0]; simp only [lodgerref11_Legal.j1, ↓reduceIte]
   ·rw [decide_eq_false c0, if_neg (by simp)]
    simp only [lodgerref11_Legal.j1, ↓reduceIte]
    cases h : lst H S (M p).toNat 0 with
    | none => rw [if_neg (fun hx => c9 hx), if_pos cc, if_neg (by omega), if_neg (fun hx => c0 hx.2)]
    | some i => rw [if_neg (fun hx => c0 (by simp only [Prod.mk.injEq] at hx; simp [hx])), if_pos cc, if_neg (by omega), if_neg (fun hx => c0 hx.2)]
 rw [if_neg k1, if_neg k1]
 have tail : ∀ Z : List Int × Bool, (if K = 6 ∧ (e, a, u, m, n) = (11, 0, false, [], []) then (S, true) else if K = 1 ∧ (e, a, u, m, n) = (0, a, false, [], []) then Z else (S, false)) = (if K = 6 ∧ (e, a, u, m, n) = (11, 0, false, [], []) then (S, true) else (S, false)) := by
  intro Z
  split
  ·rfl
  ·rw [if_neg (fun hx => k1 hx.1)]
 rw [tail, if_pos cc]
 by_cases k2 : K = 2
 ·rw [if_pos k2, if_pos k2, offo_find (chk_one0 (.inl k2) cc), if_neg (show ¬ (K = 6 ∧ (e, a, u, m, n) = (11, 0, false, [], [])) from fun hx => by omega)]
  by_cases d : (find B p H A).1 ∈ S
  ·rw [decide_eq_true d, if_pos rfl, if_pos d, on 5 (k + 1) (by omega), Option.bind_some]
   by_cases c : (e, a, u, m, n) = (5, 0, false, [], [])
   ·rw [decide_eq_true c, if_pos c]
   ·rw [decide_eq_false c, if_neg c]
  ·rw [decide_eq_false d, if_neg (by simp), if_neg d, an 0 A false [] [] (k + 1) (by omega), Option.bind_some]
   by_cases c : (e, a, u, m, n) = (0, A, false, [], [])
   ·rw [decide_eq_true c, if_pos rfl, if_pos c, ref09With_eq _ hs (by omega) (by omega), Option.bind_some]
   ·rw [decide_eq_false c, if_neg (by simp), if_neg c]
 rw [if_neg k2, if_neg k2]
 by_cases k3 : K = 3
 ·rw [if_pos k3, if_pos k3, offo_find (chk_one0 (.inr (.inl k3)) cc), if_neg (show ¬ (K = 6 ∧ (e, a, u, m, n) = (11, 0, false, [], [])) from fun hx => by omega)]
  unfold relz
  by_cases d : (find B p H A).1 ∈ S
  ·rw [decide_eq_true d, if_pos rfl, if_pos d, on 0 (k + 1) (by omega), Option.bind_some]
   by_cases c : (e, a, u, m, n) = (0, 0, false, [], [])
   ·rw [decide_eq_true c, if_pos rfl, if_pos c, ref09Without_eq _ (by omega) (by omega), Option.bind_some]
   ·rw [decide_eq_false c, if_neg (by simp), if_neg c]
  ·rw [decide_eq_false d, if_neg (by simp), if_neg d, on 6 (k + 1) (by omega), Option.bind_some]
   by_cases c : (e, a, u, m, n) = (6, 0, false, [], [])
   ·rw [decide_eq_true c, if_pos c]
   ·rw [decide_eq_false c, if_neg c]
 rw [if_neg k3, if_neg k3]
 by_cases k4 : K = 4
 ·rw [if_pos k4, if_pos k4, if_neg (show ¬ (K = 6 ∧ (e, a, u, m, n) = (11, 0, false, [], [])) from fun hx => by omega)]
  have h := refLegal_l0 (S := S) (K := K) (A := A) H s w q t hB0 hB1 h1 h2 (by omega) hw (chk_batch (A := A) (by rw [← k4]; exact cc)) e a u m n hm hn2 l [] S [] (k + 1) _ rfl rfl (by omega) (by simp) (by omega)
  rw [show (([] : List Int).length : Int) = 0 from rfl] at h
  exact h
 rw [if_neg k4, if_neg k4]
 by_cases k5 : K = 5
 ·rw [if_pos k5, if_pos k5, offo_find (chk_one0 (.inr (.inr k5)) cc), if_neg (show ¬ (K = 6 ∧ (e, a, u, m, n) = (11, 0, false, [], [])) from fun hx => by omega), an 0 0 _ [] [] (k + 1) (by omega), Option.bind_some]
  by_cases c : (e, a, u, m, n) = (0, 0, decide ((find B p H A).1 ∈ S), [], [])
  ·rw [decide_eq_true c, if_pos c]
  ·rw [decide_eq_false c, if_neg c]
 rw [if_neg k5, if_neg k5]
 by_cases k6 : K = 6
 ·rw [if_pos k6, if_pos k6, on 11 (k + 1) (by omega), Option.bind_some]
  by_cases c11 : (e, a, u, m, n) = (11, 0, false, [], [])
  ·rw [decide_eq_true c11, if_pos rfl, if_pos (show K = 6 ∧ (e, a, u, m, n) = (11, 0, false, [], []) from ⟨k6, c11⟩)]
   split <;> rfl
  ·rw [decide_eq_false c11, if_neg (by simp), if_neg (show ¬ (K = 6 ∧ (e, a, u, m, n) = (11, 0, false, [], [])) from fun hx => c11 hx.2), refAddrs_eq B p H s w q t (by omega) (by omega), Option.bind_some, an 0 0 false _ [] (k + 1) (by omega), Option.bind_some]
   by_cases c : (e, a, u, m, n) = (0, 0, false, S.map (fun x => (B + x) % 4294967296), [])
   ·rw [decide_eq_true c, if_pos c]
   ·rw [decide_eq_false c, if_neg c]
 ·rw [if_neg k6, if_neg k6, if_neg (show ¬ (K = 6 ∧ (e, a, u, m, n) = (11, 0, false, [], [])) from fun hx => k6 hx.1), on 0 (k + 1) (by omega), Option.bind_some]
  by_cases c : (e, a, u, m, n) = (0, 0, false, [], [])
  ·rw [decide_eq_true c, if_pos c]
  ·rw [decide_eq_false c, if_neg c]
theorem refSome_l0 {B p : Int} (H : List Int) (s w q t : Int) (hH : H.length ≤ maxLen) (hB0 : 0 ≤ B) (hB1 : B ≤ 4294967295) (h1 : 16 ≤ p) (h2 : p ≤ 32) (hb : B + M p ≤ 4294967296) (hr : rises (-1) (M p) H = true) {S : List Int} (hS : mset (M p) H S = true) (hn : S.length ≤ 300) {A : Int} {l : List Int} (hl : l.length ≤ 100) (hA : 0 ≤ A ∧ A ≤ 4294967295) (hw : ∀ x ∈ l, 0 ≤ x ∧ x ≤ 4294967295) (hc : chk B p H 1 A l = 0) (d : Nat) : ∀ (k : Nat) (i : Int), 0 ≤ i → i ≤ M p → M p - i = d → d + H.length + 600000 < k →
  lodgerref11_Some.l0 k S i B p H s w q t 1 A l = some (match lst H S d i with | some i => (ins i S, 0, (B + i) % 4294967296, false, [], []) | none => (S, 9, 0, false, [], [])) := by
 have hM := M_bounds h1 h2
 induction d with
 | zero =>
  intro k i hi0 hi1 hd hk
  obtain ⟨k, rfl⟩ : ∃ z, k = z + 1 := ⟨k - 1, by omega⟩
  simp only [lodgerref11_Some.l0]
  rw [ref05Many_eq B h1 h2 (by omega), Option.bind_some, if_neg (by omega)]
  rfl
 | succ d ih =>
  intro k i hi0 hi1 hd hk
  obtain ⟨k, rfl⟩ : ∃ z, k = z + 1 := ⟨k - 1, by omega⟩
  have h := ih k (i + 1) (by omega) (by omega) (by omega) (by omega)
  simp only [lodgerref11_Some.l0]
  rw [ref05Many_eq B h1 h2 (by omega), Option.bind_some, if_pos (by omega), refLegal_eq H s w q t hH hB0 hB1 h1 h2 hb hr hS hn hl hA hw 0 _ false [] [] (by omega) (by simp) (by simp) (by omega), Option.bind_some, leg_at hb hB0 h1 h2 hc hi0 (by omega), w64 (x := i + 1) (by omega) (by omega)]
  simp only [lst]
  by_cases c : i ∈ H
  ·rw [if_pos c, if_pos c, if_neg (by simp)]; exact h
  ·rw [if_neg c, if_neg c]
   by_cases c2 : i ∈ S
   ·rw [if_pos c2, if_pos c2, if_neg (by simp)]; exact h
   ·rw [if_neg c2, if_neg c2, if_pos rfl]
theorem refSome_l1 {B p : Int} (H : List Int) (s w q t : Int) (hB0 : 0 ≤ B) (hB1 : B ≤ 4294967295) (h1 : 16 ≤ p) (h2 : p ≤ 32) {K A : Int} {l : List Int} (hl : l.length ≤ 1000) (hw : ∀ x ∈ l, 0 ≤ x ∧ x ≤ 4294967295) (hf : ∀ x ∈ l, (find B p H x).2 = 0) : ∀ (xs pre T acc : List Int) (k : Nat) (Z : List Int × List Int), bat (fun x => (find B p H x).1) xs T acc = Z → l = pre ++ xs → T.length ≤ 1000 → acc.length ≤ pre.length → xs.length + 300000 < k →
  lodgerref11_Some.l1 k acc T (pre.length : Int) B p H s w q t K A l = some (Z.1, 0, 0, false, [], Z.2) := by
 intro xs
 induction xs with
 | nil =>
  intro pre T acc k Z hZ hp hT ha hk
  obtain ⟨k, rfl⟩ : ∃ z, k = z + 1 := ⟨k - 1, by omega⟩
  simp only [bat] at hZ
  subst hZ
  simp only [lodgerref11_Some.l1]
  rw [if_neg (by rw [hp]; simp)]
 | cons x xs ih =>
  intro pre T acc k Z hZ hp hT ha hk
  simp only [List.length_cons] at hk
  have hl1 : l.length = pre.length + (xs.length + 1) := by rw [hp]; simp
  obtain ⟨k, rfl⟩ : ∃ z, k = z + 1 := ⟨k - 1, by omega⟩
  have hx : rd l (pre.length : Int) = x := by rw [hp]; exact rd_mid ..
  have hxm : x ∈ l := by rw [hp]; simp
  have hdl := del_len_le (find B p H x).1 T
  simp only [bat] at hZ
  have h := ih (pre ++ [x]) (relz T (find B p H x).1).1 (acc ++ [(relz T (find B p H x).1).2]) k Z hZ (by rw [hp]; simp) (by rw [relz_eq]; simp only; omega) (by simp; omega) (by omega)
  rw [show ((pre ++ [x]).length : Int) = (pre.length : Int) + 1 by simp] at h
  obtain ⟨e', he'⟩ := refOff hB0 hB1 h1 h2 (hw x hxm) (show 20 ≤ k by omega)
  simp only [lodgerref11_Some.l1]
  rw [if_pos (by omega), if_pos (by omega), hx, he', Option.bind_some, offo_find (hf x hxm), ref09Has_eq (by unfold maxLen; omega) _ (by omega), Option.bind_some]
  rw [relz_eq] at h
  by_cases c : (find B p H x).1 ∈ T
  ·rw [decide_eq_true c, if_pos rfl, if_pos (by omega), ref09Without_eq _ (by omega) (by omega), Option.bind_some, w64 (by omega) (by omega)]
   rw [if_pos c] at h
   exact h
  ·rw [decide_eq_false c, if_neg (by simp), if_pos (by omega), ref09Without_eq _ (by omega) (by omega), Option.bind_some, w64 (by omega) (by omega)]
   rw [if_neg c] at h
   exact h
theorem refSome_eq {B p : Int} (H : List Int) (s w q t : Int) (hH : H.length ≤ maxLen) (hB0 : 0 ≤ B) (hB1 : B ≤ 4294967295) (h1 : 16 ≤ p) (h2 : p ≤ 32) (hb : B + M p ≤ 4294967296) (hr : rises (-1) (M p) H = true) {S : List Int} (hS : mset (M p) H S = true) (hn : S.length ≤ 300) {K A : Int} {l : List Int} (hl : l.length ≤ 100) (hA : 0 ≤ A ∧ A ≤ 4294967295) (hw : ∀ x ∈ l, 0 ≤ x ∧ x ≤ 4294967295) {k : Nat} (hk : H.length + 700000 < k) :
  lodgerref11_Some.f k B p H s w q t S K A l = some (som B p H S K A l) := by
 have hM := M_bounds h1 h2
 have hs := (mset_iff.1 hS).1
 have hSl : S.length ≤ maxLen := by unfold maxLen; omega
 unfold lodgerref11_Some.f som
 rw [refCheck_eq H s w q t hH hB0 hB1 h1 h2 hl hA hw (by omega), Option.bind_some]
 by_cases cc : chk B p H K A l = 0
 rotate_left
 ·rw [if_neg cc, if_neg cc]
 obtain ⟨e', he'⟩ := refOff hB0 hB1 h1 h2 hA (show 20 ≤ k by omega)
 rw [if_pos cc, if_pos cc, he', Option.bind_some, ref09Has_eq hSl _ (by omega), Option.bind_some]
 by_cases k1 : K = 1
 ·subst k1
  rw [if_pos rfl, if_pos rfl]
  exact refSome_l0 H s w q t hH hB0 hB1 h1 h2 hb hr hS hn hl hA hw cc (M p).toNat k 0 (by omega) (by omega) (by omega) (by omega)
 rw [if_neg k1, if_neg k1]
 by_cases k2 : K = 2
 ·rw [if_pos k2, if_pos k2, offo_find (chk_one0 (.inl k2) cc)]
  by_cases d : (find B p H A).1 ∈ S
  ·rw [decide_eq_true d, if_pos rfl, if_pos d]
  ·rw [decide_eq_false d, if_neg (by simp), if_neg d, ref09With_eq _ hs (by omega) (by omega), Option.bind_some]
 rw [if_neg k2, if_neg k2]
 by_cases k3 : K = 3
 ·rw [if_pos k3, if_pos k3, offo_find (chk_one0 (.inr (.inl k3)) cc)]
  unfold relz
  by_cases d : (find B p H A).1 ∈ S
  ·rw [decide_eq_true d, if_pos rfl, if_pos d, ref09Without_eq _ (by omega) (by omega), Option.bind_some]
  ·rw [decide_eq_false d, if_neg (by simp), if_neg d]
 rw [if_neg k3, if_neg k3]
 by_cases k4 : K = 4
 ·rw [if_pos k4, if_pos k4]
  have h := refSome_l1 (K := K) (A := A) H s w q t hB0 hB1 h1 h2 (by omega) hw (chk_batch (A := A) (by rw [← k4]; exact cc)) l [] S [] k _ rfl rfl (by omega) (by simp) (by omega)
  rw [show (([] : List Int).length : Int) = 0 from rfl] at h
  exact h
 rw [if_neg k4, if_neg k4]
 by_cases k5 : K = 5
 ·rw [if_pos k5, if_pos k5, offo_find (chk_one0 (.inr (.inr k5)) cc)]
 rw [if_neg k5, if_neg k5]
 by_cases k6 : K = 6
 ·rw [if_pos k6, if_pos k6, refAddrs_eq B p H s w q t (by omega) (by omega), Option.bind_some]
 ·rw [if_neg k6, if_neg k6]

theorem awake_true {k : Nat} (hk : 500 ≤ k) : lodgerlaw11_awake.f k = some true := at_rounds lodgerlaw11_awake.mono hk (by decide +kernel)
theorem SpecTells : lodgerlaw11_SpecTells.Pure := by
 intro B p H s w q t S K A l e a u m n w0 w1 hH w2 w3 w4 w5 w6 hS hS8 wS w7 w8 hl w9 w10 w11 hm w12 hn w13
 have b0 := wf_u32 w0
 have b8 := wf_u32 w8
 have b11 := wf_u32 w11
 have b9 : ∀ x ∈ l, 0 ≤ x ∧ x ≤ 4294967295 := fun x hx => wf_u32 (w9 x hx)
 refine ⟨H.length + 900000, ?_⟩
 generalize hK : H.length + 900000 = k
 obtain ⟨z, rfl, hz⟩ := more (k := k) (N := H.length + 899999) (by omega)
 have hj : lodgerlaw11_SpecTells.j0 (z + 1) S true B p H s w q t K A l e a u m n = some true := by
  simp only [lodgerlaw11_SpecTells.j0, ↓reduceIte]; rw [awake_true (by omega)]; rfl
 unfold lodgerlaw11_SpecTells.f lodgerref11_Fits.f lodgerref10_Few.f lodgerref11_Few.f
 rw [awake_true (by omega), Option.bind_some, if_pos rfl, ref05May_eq H s w q t hH b0.1 b0.2 (by omega), Option.bind_some]
 cases hc : cmay B p H s w q t with
 | false => rw [if_neg (by simp), Option.bind_some, if_neg (by simp), hj]
 | true =>
  obtain ⟨h1, h2, h3, h4, _⟩ := cmay_head hc
  have hr := cmay_rises hc
  have hb := M_fits h1 h2 b0.1 b0.2 h3
  rw [if_pos rfl, ref05Many_eq B h1 h2 (by omega), Option.bind_some]
  by_cases hM : M p ≤ 256
  rotate_left
  ·rw [if_neg hM, Option.bind_some, if_neg (by simp), hj]
  rw [if_pos hM]
  by_cases hS3 : (S.length : Int) ≤ 300
  rotate_left
  ·rw [if_neg hS3, Option.bind_some, if_neg (by simp), hj]
  rw [if_pos hS3, ref09May_eq B H s w q t hH hS h1 h2 (by omega), Option.bind_some, Option.bind_some]
  by_cases hms : mset (M p) H S = true
  rotate_left
  ·rw [if_neg hms, hj]
  rw [if_pos hms, Option.bind_some]
  have hsd := (mset_iff.1 hms).1
  by_cases hf : (l.length : Int) ≤ 100
  rotate_left
  ·rw [decide_eq_false hf, if_neg (by simp), hj]
  rw [decide_eq_true hf, if_pos rfl]
  by_cases hm3 : (m.length : Int) ≤ 300
  rotate_left
  ·rw [if_neg hm3, Option.bind_some]; exact hj
  rw [if_pos hm3, Option.bind_some]
  by_cases hn3 : (n.length : Int) ≤ 300
  rotate_left
  ·rw [decide_eq_false hn3]; exact hj
  rw [decide_eq_true hn3]
  have hrs := som_right h1 h2 hms b8 l (B := B) (K := K)
  have hrl := leg_right h1 h2 b0.1 hms b8 l e a u m n b11 (K := K)
  have hsl := som_lens B p H S K A l
  have hgl : (leg B p H S K A l (e, a, u, m, n)).1.length ≤ S.length + 1 := by
   by_cases hg : (leg B p H S K A l (e, a, u, m, n)).2 = true
   ·exact (hrl.2 hg).len
   ·rw [hrl.1 (by simpa using hg)]; omega
  simp only [lodgerlaw11_SpecTells.j0]
  rw [show (!true) = false from rfl, if_neg (by simp)]
  rw [Legal_eq H s w q t hH b0.1 b0.2 h1 h2 hsd (by omega) (by omega) b8 b9 e a u m n b11 (by omega) (by omega) (by omega), Option.bind_some]
  rw [refLegal_eq H s w q t hH b0.1 b0.2 h1 h2 hb hr hms (by omega) (by omega) b8 b9 e a u m n b11 (by omega) (by omega) (by omega), Option.bind_some]
  rw [Some_eq H s w q t hH b0.1 b0.2 h1 h2 hsd (by omega) (by omega) b8 b9 (by omega), Option.bind_some]
  rw [refSome_eq H s w q t hH b0.1 b0.2 h1 h2 hb hr hms (by omega) (by omega) b8 b9 (by omega), Option.bind_some]
  have hYl := hrs.len
  generalize leg B p H S K A l (e, a, u, m, n) = G at *
  generalize som B p H S K A l = Y at *
  rw [Ints_eq _ _ (by omega) (by omega), Option.bind_some, decide_eq_true rfl, if_pos rfl, if_pos (by simp), Ints_eq _ _ (by omega) (by omega), Option.bind_some, decide_eq_true rfl, if_pos rfl]
  rw [refAns_eq _ _ _ _ _ _ _ _ _ _ (by omega) (by omega) (by omega), Option.bind_some, decide_eq_true rfl, if_pos rfl]
  rw [SameA_eq e a u m n Y.2 (by omega) (by omega) (by omega), Option.bind_some, refAns_eq e a u m n _ _ _ _ _ (by omega) (by omega) (by omega), Option.bind_some]
  have e1 : (Y.2.1, Y.2.2.1, Y.2.2.2.1, Y.2.2.2.2.1, Y.2.2.2.2.2) = Y.2 := rfl
  rw [e1]
  simp

end Go.Proofs.YtkiimboedgnoiaaDoor.Pure
