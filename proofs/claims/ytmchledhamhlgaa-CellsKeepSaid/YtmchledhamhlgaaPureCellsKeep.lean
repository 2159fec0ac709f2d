/- CellsKeep answers true at every input: what is handed to cells stays as it was, new cells are nobody else's; no condition. -/
import Derived.Test.YtmchledhamhlgaaQCellsKeepx3
namespace Go.Proofs.Ytmchledhamhlgaa.Pure
open Go.RowKit Go.Proofs.Ytmchledhamhlgaa.PCellsKeep Go.Proofs.YtmchledhamhlgaaW.PrintWords Go.Proofs.YtmchledhamhlgaaW.PrintLast Go.Proofs.YtmchledhamhlgaaW.PrintMore
set_option linter.unusedVariables false
set_option linter.unusedSimpArgs false

theorem w64 {x : Int} (h1 : -9223372036854775808 ≤ x) (h2 : x ≤ 9223372036854775807) : wrap64 x = x := by unfold wrap64; omega
theorem td {a b : Int} (h : 0 ≤ a) : Int.tdiv a b = a / b := Int.tdiv_eq_ediv_of_nonneg h
theorem tm {a b : Int} (h : 0 ≤ a) : Int.tmod a b = a % b := Int.tmod_eq_emod_of_nonneg h
theorem more {k N : Nat} (h : N + 1 ≤ k) : ∃ m, k = m + 1 ∧ N ≤ m := ⟨k - 1, by omega, by omega⟩
theorem wf_u16 {a : Int} (h : (Lit.int .u16 a).wf = true) : 0 ≤ a ∧ a ≤ 65535 := by
 simp [Lit.wf, IntKind.min, IntKind.max, IntKind.signed, IntKind.bits] at h
 omega
theorem wf_u8 {a : Int} (h : (Lit.int .u8 a).wf = true) : 0 ≤ a ∧ a ≤ 255 := by
 simp [Lit.wf, IntKind.min, IntKind.max, IntKind.signed, IntKind.bits] at h
 omega
theorem wf_u32 {a : Int} (h : (Lit.int .u32 a).wf = true) : 0 ≤ a ∧ a ≤ 4294967295 := by
 simp [Lit.wf, IntKind.min, IntKind.max, IntKind.signed, IntKind.bits] at h
 omega
theorem wf_u64 {a : Int} (h : (Lit.int .u64 a).wf = true) : 0 ≤ a ∧ a ≤ 18446744073709551615 := by
 simp [Lit.wf, IntKind.min, IntKind.max, IntKind.signed, IntKind.bits] at h
 omega
theorem wf_i64 {a : Int} (h : (Lit.int .i64 a).wf = true) : -9223372036854775808 ≤ a ∧ a ≤ 9223372036854775807 := by
 simp [Lit.wf, IntKind.min, IntKind.max, IntKind.signed, IntKind.bits] at h
 omega

/-- Cells of which one is another one, if it is there. -/
def st (l : List Int) (i v : Int) : List Int := if 0 ≤ i ∧ i < (l.length : Int) then l.set i.toNat v else l
/-- What a cell holds. -/
def ld (l : List Int) (i : Int) : Int := if 0 ≤ i ∧ i < (l.length : Int) then rd l i else 0
theorem st_len (l : List Int) (i v : Int) : (st l i v).length = l.length := by unfold st; split <;> simp
theorem st_in {l : List Int} {i : Int} (h0 : 0 ≤ i) (h1 : i < (l.length : Int)) (v : Int) : st l i v = l.set i.toNat v := by unfold st; rw [if_pos ⟨h0, h1⟩]
theorem st_out {l : List Int} {i : Int} (h : i < 0 ∨ (l.length : Int) ≤ i) (v : Int) : st l i v = l := by unfold st; rw [if_neg (by omega)]
theorem ld_in {l : List Int} {i : Int} (h0 : 0 ≤ i) (h1 : i < (l.length : Int)) : ld l i = rd l i := by unfold ld; rw [if_pos ⟨h0, h1⟩]
theorem ld_out {l : List Int} {i : Int} (h : i < 0 ∨ (l.length : Int) ≤ i) : ld l i = 0 := by unfold ld; rw [if_neg (by omega)]
theorem rd_get {l : List Int} {i : Int} (h0 : 0 ≤ i) (h1 : i < (l.length : Int)) : rd l i = l[i.toNat]'(by omega) := by
 have : i.toNat < l.length := by omega
 simp [rd, List.getD_eq_getElem?_getD, this]
theorem rd_set_same {l : List Int} {i : Int} (h0 : 0 ≤ i) (h1 : i < (l.length : Int)) (v : Int) : rd (l.set i.toNat v) i = v := by
 have : i.toNat < l.length := by omega
 simp [rd, List.getD_eq_getElem?_getD, this]
theorem rd_set_ne {l : List Int} {i j : Int} (h0 : 0 ≤ i) (h1 : 0 ≤ j) (h : i ≠ j) (v : Int) : rd (l.set i.toNat v) j = rd l j := by
 have : i.toNat ≠ j.toNat := by omega
 simp [rd, List.getD_eq_getElem?_getD, List.getElem?_set, this]
theorem set_back {l : List Int} {i : Int} (h0 : 0 ≤ i) (h1 : i < (l.length : Int)) (v : Int) : (l.set i.toNat v).set i.toNat (rd l i) = l := by
 rw [List.set_set, rd_get h0 h1]; simp

theorem Is_eq (l : List Int) (i : Int) : cells_is.f l i = some (decide (0 ≤ i ∧ i < (l.length : Int))) := by
 unfold cells_is.f
 by_cases h : i ≥ 0
 ·rw [if_pos h]; congr 1; rw [Bool.eq_iff_iff, decide_eq_true_eq, decide_eq_true_eq]; omega
 ·rw [if_neg h, decide_eq_false (by omega)]
theorem Load_eq (l : List Int) (i : Int) : cells_Load.f l i = some (ld l i) := by
 unfold cells_Load.f ld
 rw [Is_eq, Option.bind_some]
 by_cases h : 0 ≤ i ∧ i < (l.length : Int)
 ·rw [decide_eq_true h, if_pos rfl, if_pos h.1, if_pos h.2, if_pos h]
 ·rw [decide_eq_false h, if_neg (by simp), if_neg h]
theorem Store_eq (l : List Int) (hl : l.length ≤ 100000) (i v : Int) : cells_Store.f l i v = some (st l i v) := by
 unfold cells_Store.f st
 by_cases h1 : i < 0
 ·rw [if_pos h1, if_neg (by omega)]
 by_cases h2 : i ≥ (l.length : Int)
 ·rw [if_neg h1, if_pos h2, if_neg (by omega)]
 ·rw [if_neg h1, if_neg h2, if_pos (by omega), if_pos (by omega)]

theorem Add_eq (l : List Int) (hl : l.length ≤ 100000) (i v : Int) : cells_Add.f l i v = some (st l i (IntKind.u64.wrap (rd l i + v))) := by
 unfold cells_Add.f st
 by_cases h1 : i < 0
 ·rw [if_pos h1, if_neg (by omega)]
 by_cases h2 : i ≥ (l.length : Int)
 ·rw [if_neg h1, if_pos h2, if_neg (by omega)]
 ·rw [if_neg h1, if_neg h2, if_pos (by omega), if_pos (by omega)]

/-- What a swap answers. -/
def sw (l : List Int) (i o v : Int) : List Int × Bool := if 0 ≤ i ∧ i < (l.length : Int) ∧ rd l i = o then (st l i v, true) else (l, false)
theorem Swap_eq (l : List Int) (hl : l.length ≤ 100000) (i o v : Int) : cells_Swap.f l i o v = some (sw l i o v) := by
 unfold cells_Swap.f sw
 rw [Is_eq, Option.bind_some, Store_eq l hl, Option.bind_some]
 by_cases h : 0 ≤ i ∧ i < (l.length : Int)
 ·rw [decide_eq_true h, if_pos rfl, if_pos h.1, if_pos h.2]
  by_cases e : rd l i = o
  ·rw [if_pos e, if_pos ⟨h.1, h.2, e⟩]
  ·rw [if_neg e, if_neg (fun z => e z.2.2)]
 ·rw [decide_eq_false h, if_neg (by simp), if_neg (fun z => h ⟨z.1, z.2.1⟩)]
theorem sw_len (l : List Int) (i o v : Int) : (sw l i o v).1.length = l.length := by unfold sw; split <;> simp [st_len]
theorem sw_yes {l : List Int} {i o v : Int} (h0 : 0 ≤ i) (h1 : i < (l.length : Int)) (h : rd l i = o) : sw l i o v = (st l i v, true) := by unfold sw; rw [if_pos ⟨h0, h1, h⟩]
theorem sw_no {l : List Int} {i o v : Int} (h : ¬ (0 ≤ i ∧ i < (l.length : Int) ∧ rd l i = o)) : sw l i o v = (l, false) := by unfold sw; rw [if_neg h]

theorem Same_l0 : ∀ (xs ys pre qre : List Int) (k : Nat), pre.length = qre.length → xs.length = ys.length → (pre ++ xs).length ≤ 9223372036854775807 → xs.length < k →
  lodgerref02_Same.l0 k (pre ++ xs) (qre ++ ys) (pre.length : Int) = some (decide (xs = ys)) := by
 intro xs
 induction xs with
 | nil =>
  intro ys pre qre k hp hx hm hk
  obtain ⟨k, rfl⟩ : ∃ m, k = m + 1 := ⟨k - 1, by omega⟩
  have : ys = [] := List.eq_nil_of_length_eq_zero hx.symm
  subst this
  simp only [lodgerref02_Same.l0]; rw [if_neg (by simp)]; simp
 | cons x xs ih =>
  intro ys pre qre k hp hx hm hk
  cases ys with
  | nil => simp at hx
  | cons y ys =>
   simp only [List.length_cons, List.length_append] at hk hx hm
   obtain ⟨k, rfl⟩ : ∃ m, k = m + 1 := ⟨k - 1, by omega⟩
   simp only [lodgerref02_Same.l0]
   have e1 : rd (pre ++ x :: xs) (pre.length : Int) = x := by simp [rd]
   have e2 : rd (qre ++ y :: ys) (pre.length : Int) = y := by rw [hp]; simp [rd]
   rw [if_pos (by simp; omega), if_pos (by omega), if_pos (by rw [hp]; simp; omega), e1, e2]
   by_cases e : x = y
   ·subst e
    rw [if_pos rfl, w64 (by omega) (by omega)]
    have := ih ys (pre ++ [x]) (qre ++ [x]) k (by simp [hp]) (by omega) (by simp; omega) (by omega)
    simp only [List.append_assoc, List.singleton_append, List.length_append, List.length_cons, List.length_nil, Nat.zero_add, Int.natCast_add, Int.natCast_one] at this
    rw [this]; simp
   ·rw [if_neg e]; simp [e]
theorem Same_eq (a b : List Int) (ha : a.length ≤ 100000) {k : Nat} (hk : a.length < k) : lodgerref02_Same.f k a b = some (decide (a = b)) := by
 unfold lodgerref02_Same.f
 by_cases h : (a.length : Int) = (b.length : Int)
 ·rw [if_pos h]
  exact Same_l0 a b [] [] k rfl (by omega) (by simp; omega) hk
 ·rw [if_neg h, decide_eq_false (fun e => h (by rw [e]))]

theorem refLoad_l0 (l : List Int) (hl : l.length ≤ 100000) (i : Int) (d : Nat) : ∀ (k : Nat) (x : Int), 0 ≤ x → x ≤ (l.length : Int) → (l.length : Int) - x = d → d < k → lodgerref02_Load.l0 k l i x = some (if x ≤ i ∧ i < (l.length : Int) then rd l i else 0) := by
 induction d with
 | zero =>
  intro k x h0 h1 hd hk
  obtain ⟨k, rfl⟩ : ∃ z, k = z + 1 := ⟨k - 1, by omega⟩
  simp only [lodgerref02_Load.l0]; rw [if_neg (by omega), if_neg (by omega)]
 | succ d ih =>
  intro k x h0 h1 hd hk
  obtain ⟨k, rfl⟩ : ∃ z, k = z + 1 := ⟨k - 1, by omega⟩
  simp only [lodgerref02_Load.l0]; rw [if_pos (by omega), w64 (by omega) (by omega)]
  by_cases e : x = i
  ·rw [if_pos e, if_pos h0, if_pos (by omega), e]
  ·rw [if_neg e, ih k (x + 1) (by omega) (by omega) (by omega) (by omega)]
   by_cases c : x ≤ i ∧ i < (l.length : Int)
   ·rw [if_pos c, if_pos (by omega)]
   ·rw [if_neg c, if_neg (by omega)]
theorem refLoad_eq (l : List Int) (hl : l.length ≤ 100000) (i : Int) {k : Nat} (hk : l.length < k) : lodgerref02_Load.f k l i = some (ld l i) := by
 unfold lodgerref02_Load.f ld
 exact refLoad_l0 l hl i l.length k 0 (by omega) (by omega) (by omega) hk

theorem awake_true {k : Nat} (hk : 500 ≤ k) : lodgerlaw02_awake.f k = some true := at_rounds lodgerlaw02_awake.mono hk (by decide +kernel)
theorem new3 : cells_New.f 3 = some [0, 0, 0] := by decide +kernel
theorem CellsKeep : lodgerlaw02_CellsKeep.Pure := by
 intro l a v hl hs wl w0 w1
 refine ⟨10000, ?_⟩
 generalize hK : 10000 = k
 obtain ⟨m, rfl, hm⟩ := more (k := k) (N := 9999) (by omega)
 unfold lodgerlaw02_CellsKeep.f
 rw [awake_true (by omega), Option.bind_some, if_pos rfl]
 simp only [lodgerlaw02_CellsKeep.j0]
 by_cases c : (l.length : Int) > 2000
 ·rw [decide_eq_true c, if_pos rfl, awake_true (by omega)]; rfl
 rw [decide_eq_false c, if_neg (by simp), Option.bind_some, if_pos (by simp; omega), Option.bind_some, List.nil_append, if_pos (by omega), Option.bind_some, if_pos (by omega), if_pos (by simp; omega)]
 have ht : (l ++ [77]).take (l.length : Int).toNat = l := by simp
 rw [ht, Store_eq l (by omega), Option.bind_some, Add_eq l (by omega), Option.bind_some, refLoad_eq l (by omega) _ (by omega), Option.bind_some, Swap_eq l (by omega), Option.bind_some, new3, Option.bind_some, Option.bind_some, if_pos (by decide)]
 obtain ⟨m, rfl, hm⟩ := more (k := m) (N := 9998) (by omega)
 simp only [lodgerlaw02_CellsKeep.j1]
 have hr : rd (l ++ [77]) (l.length : Int) = 77 := by simp [rd]
 rw [if_pos (by rfl), if_pos (by decide), if_pos (by decide), if_pos (by decide), if_pos (by omega), if_pos (by simp; omega), ht, Same_eq l l (by omega) (by omega), Option.bind_some, if_pos (by simp), if_pos (by simp; omega), hr]
 rfl

end Go.Proofs.Ytmchledhamhlgaa.Pure
