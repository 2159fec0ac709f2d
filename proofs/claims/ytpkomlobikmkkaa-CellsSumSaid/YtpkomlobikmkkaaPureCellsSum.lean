/- CellsSum answers true at every input: numbers that are added one by one, in whatever order, come to their sum; no condition. -/
import Derived.Test.YtpkomlobikmkkaaQCellsSumx2
namespace Go.Proofs.Ytpkomlobikmkkaa.Pure
open Go.RowKit Go.Proofs.Ytpkomlobikmkkaa.PCellsSum Go.Proofs.YtpkomlobikmkkaaW.PrintWords Go.Proofs.YtpkomlobikmkkaaW.PrintLast Go.Proofs.YtpkomlobikmkkaaW.PrintMore
set_option linter.unusedVariables false
set_option linter.unusedSimpArgs false

theorem w64 {x : Int} (h1 : -9223372036854775808 ≤ x) (h2 : x ≤ 9223372036854775807) : wrap64 x = x := by unfold wrap64; omega
theorem td {a b : Int} (h : 0 ≤ a) : Int.tdiv a b = a / b := Int.tdiv_eq_ediv_of_nonneg h
theorem tm {a b : Int} (h : 0 ≤ a) : Int.tmod a b = a % b := Int.tmod_eq_emod_of_nonneg h
theorem more {k N : Nat} (h : N + 1 ≤ k) : ∃ m, k = m + 1 ∧ N ≤ m := ⟨k - 1, by omega, by omega⟩
theorem wf_u16 {a : Int} (h : (Lit.int .u16 a).wf = true) : 0 ≤ a ∧ a ≤ 65535 := by
  simp [Lit.wf, IntKind.min, IntKind.max, IntKind.signed, IntKind.bits] at h
  omega
theorem wf_u8 {a : Int} (h : (Lit.int .u8 a).wf = true) : 0 ≤ a ∧ a ≤ 255 := by
  simp [Lit.wf, IntKind.min, IntKind.max, IntKind.signed, IntKind.bits] at h
  omega
theorem wf_u32 {a : Int} (h : (Lit.int .u32 a).wf = true) : 0 ≤ a ∧ a ≤ 4294967295 := by
  simp [Lit.wf, IntKind.min, IntKind.max, IntKind.signed, IntKind.bits] at h
  omega
theorem wf_u64 {a : Int} (h : (Lit.int .u64 a).wf = true) : 0 ≤ a ∧ a ≤ 18446744073709551615 := by
  simp [Lit.wf, IntKind.min, IntKind.max, IntKind.signed, IntKind.bits] at h
  omega
theorem wf_i64 {a : Int} (h : (Lit.int .i64 a).wf = true) : -9223372036854775808 ≤ a ∧ a ≤ 9223372036854775807 := by
  simp [Lit.wf, IntKind.min, IntKind.max, IntKind.signed, IntKind.bits] at h
  omega

/-- Cells of which one is another one, if it is there. -/
def st (l : List Int) (i v : Int) : List Int := if 0 ≤ i ∧ i < (l.length : Int) then l.set i.toNat v else l
/-- What a cell holds. -/
def ld (l : List Int) (i : Int) : Int := if 0 ≤ i ∧ i < (l.length : Int) then rd l i else 0
theorem st_len (l : List Int) (i v : Int) : (st l i v).length = l.length := by unfold st; split <;> simp
theorem st_in {l : List Int} {i : Int} (h0 : 0 ≤ i) (h1 : i < (l.length : Int)) (v : Int) : st l i v = l.set i.toNat v := by unfold st; rw [if_pos ⟨h0, h1⟩]
theorem st_out {l : List Int} {i : Int} (h : i < 0 ∨ (l.length : Int) ≤ i) (v : Int) : st l i v = l := by unfold st; rw [if_neg (by omega)]
theorem ld_in {l : List Int} {i : Int} (h0 : 0 ≤ i) (h1 : i < (l.length : Int)) : ld l i = rd l i := by unfold ld; rw [if_pos ⟨h0, h1⟩]
theorem ld_out {l : List Int} {i : Int} (h : i < 0 ∨ (l.length : Int) ≤ i) : ld l i = 0 := by unfold ld; rw [if_neg (by omega)]
theorem rd_get {l : List Int} {i : Int} (h0 : 0 ≤ i) (h1 : i < (l.length : Int)) : rd l i = l[i.toNat]'(by omega) := by
  have : i.toNat < l.length := by omega
  simp [rd, List.getD_eq_getElem?_getD, this]
theorem rd_set_same {l : List Int} {i : Int} (h0 : 0 ≤ i) (h1 : i < (l.length : Int)) (v : Int) : rd (l.set i.toNat v) i = v := by
  have : i.toNat < l.length := by omega
  simp [rd, List.getD_eq_getElem?_getD, this]
theorem rd_set_ne {l : List Int} {i j : Int} (h0 : 0 ≤ i) (h1 : 0 ≤ j) (h : i ≠ j) (v : Int) : rd (l.set i.toNat v) j = rd l j := by
  have : i.toNat ≠ j.toNat := by omega
  simp [rd, List.getD_eq_getElem?_getD, List.getElem?_set, this]
theorem set_back {l : List Int} {i : Int} (h0 : 0 ≤ i) (h1 : i < (l.length : Int)) (v : Int) : (l.set i.toNat v).set i.toNat (rd l i) = l := by
  rw [List.set_set, rd_get h0 h1]; simp

theorem Is_eq (l : List Int) (i : Int) : cells_is.f l i = some (decide (0 ≤ i ∧ i < (l.length : Int))) := by
  unfold cells_is.f
  by_cases h : i ≥ 0
  · rw [if_pos h]; congr 1; rw [Bool.eq_iff_iff, decide_eq_true_eq, decide_eq_true_eq]; omega
  · rw [if_neg h, decide_eq_false (by omega)]
theorem Load_eq (l : List Int) (i : Int) : cells_Load.f l i = some (ld l i) := by
  unfold cells_Load.f ld
  rw [Is_eq, Option.bind_some]
  by_cases h : 0 ≤ i ∧ i < (l.length : Int)
  · rw [decide_eq_true h, if_pos rfl, if_pos h.1, if_pos h.2, if_pos h]
  · rw [decide_eq_false h, if_neg (by simp), if_neg h]
theorem Store_eq (l : List Int) (hl : l.length ≤ 100000) (i v : Int) : cells_Store.f l i v = some (st l i v) := by
  unfold cells_Store.f st
  by_cases h1 : i < 0
  · rw [if_pos h1, if_neg (by omega)]
  by_cases h2 : i ≥ (l.length : Int)
  · rw [if_neg h1, if_pos h2, if_neg (by omega)]
  · rw [if_neg h1, if_neg h2, if_pos (by omega), if_pos (by omega)]

theorem Add_eq (l : List Int) (hl : l.length ≤ 100000) (i v : Int) : cells_Add.f l i v = some (st l i (IntKind.u64.wrap (rd l i + v))) := by
  unfold cells_Add.f st
  by_cases h1 : i < 0
  · rw [if_pos h1, if_neg (by omega)]
  by_cases h2 : i ≥ (l.length : Int)
  · rw [if_neg h1, if_pos h2, if_neg (by omega)]
  · rw [if_neg h1, if_neg h2, if_pos (by omega), if_pos (by omega)]

theorem Same_l0 : ∀ (xs ys pre qre : List Int) (k : Nat), pre.length = qre.length → xs.length = ys.length → (pre ++ xs).length ≤ 9223372036854775807 → xs.length < k →
    lodgerref02_Same.l0 k (pre ++ xs) (qre ++ ys) (pre.length : Int) = some (decide (xs = ys)) := by
  intro xs
  induction xs with
  | nil =>
    intro ys pre qre k hp hx hm hk
    obtain ⟨k, rfl⟩ : ∃ m, k = m + 1 := ⟨k - 1, by omega⟩
    have : ys = [] := List.eq_nil_of_length_eq_zero hx.symm
    subst this
    simp only [lodgerref02_Same.l0]; rw [if_neg (by simp)]; simp
  | cons x xs ih =>
    intro ys pre qre k hp hx hm hk
    cases ys with
    | nil => simp at hx
    | cons y ys =>
      simp only [List.length_cons, List.length_append] at hk hx hm
      obtain ⟨k, rfl⟩ : ∃ m, k = m + 1 := ⟨k - 1, by omega⟩
      simp only [lodgerref02_Same.l0]
      have e1 : rd (pre ++ x :: xs) (pre.length : Int) = x := by simp [rd]
      have e2 : rd (qre ++ y :: ys) (pre.length : Int) = y := by rw [hp]; simp [rd]
      rw [if_pos (by simp; omega), if_pos (by omega), if_pos (by rw [hp]; simp; omega), e1, e2]
      by_cases e : x = y
      · subst e
        rw [if_pos rfl, w64 (by omega) (by omega)]
        have := ih ys (pre ++ [x]) (qre ++ [x]) k (by simp [hp]) (by omega) (by simp; omega) (by omega)
        simp only [List.append_assoc, List.singleton_append, List.length_append, List.length_cons, List.length_nil, Nat.zero_add, Int.natCast_add, Int.natCast_one] at this
        rw [this]; simp
      · rw [if_neg e]; simp [e]
theorem Same_eq (a b : List Int) (ha : a.length ≤ 100000) {k : Nat} (hk : a.length < k) : lodgerref02_Same.f k a b = some (decide (a = b)) := by
  unfold lodgerref02_Same.f
  by_cases h : (a.length : Int) = (b.length : Int)
  · rw [if_pos h]
    exact Same_l0 a b [] [] k rfl (by omega) (by simp; omega) hk
  · rw [if_neg h, decide_eq_false (fun e => h (by rw [e]))]

theorem awake_true {k : Nat} (hk : 500 ≤ k) : lodgerlaw02_awake.f k = some true := at_rounds lodgerlaw02_awake.mono hk (by decide +kernel)
theorem wrapu (n : Int) : IntKind.u64.wrap n = n % 18446744073709551616 := by simp [IntKind.wrap, IntKind.bits, IntKind.signed]
/-- A sum, one by one. -/
def sumTo (g : Nat → Int) : Nat → Int
  | 0 => 0
  | k + 1 => sumTo g k + g k
theorem sum_shift (g : Nat → Int) (k : Nat) : sumTo (fun j => g (j + 1)) k = sumTo g k + g k - g 0 := by
  induction k with
  | zero => simp [sumTo]
  | succ k ih => simp only [sumTo]; rw [ih]; omega
theorem sum_turn (f : Nat → Int) (n t : Nat) : sumTo (fun j => f ((j + t) % n)) n = sumTo (fun j => f (j % n)) n := by
  induction t with
  | zero => rfl
  | succ t ih =>
    have := sum_shift (fun j => f ((j + t) % n)) n
    rw [ih] at this
    rw [show (fun j => f ((j + (t + 1)) % n)) = (fun j => f ((j + 1 + t) % n)) by funext j; congr 2; omega, this]
    simp only [Nat.add_mod_left, Nat.zero_add]
    omega
theorem sum_congr (f g : Nat → Int) (n : Nat) (h : ∀ j, j < n → f j = g j) : sumTo f n = sumTo g n := by
  induction n with
  | zero => rfl
  | succ n ih => simp only [sumTo]; rw [ih (fun j hj => h j (by omega)), h n (by omega)]
theorem loop_l0 (l mo : List Int) (t : Nat) (ht : t ≤ 255) (hl : l.length ≤ 500) (hm : mo.length ≤ 50) {i : Int} (i0 : 0 ≤ i) (i1 : i < (l.length : Int)) (d : Nat) : ∀ (k j : Nat), j + d = mo.length → d + 1000 < k →
    lodgerlaw02_CellsSum.l0 k l mo t i (l.set i.toNat (IntKind.u64.wrap (rd l i + sumTo (fun j => rd mo (j : Int)) j))) (l.set i.toNat (IntKind.u64.wrap (rd l i + sumTo (fun j => rd mo (((j + t) % mo.length : Nat) : Int)) j))) (IntKind.u64.wrap (sumTo (fun j => rd mo (j : Int)) j)) (j : Int) = some true := by
  induction d with
  | zero =>
    intro k j hj hk
    obtain ⟨k, rfl⟩ : ∃ z, k = z + 1 := ⟨k - 1, by omega⟩
    obtain rfl : j = mo.length := by omega
    have hs : sumTo (fun j => rd mo (((j + t) % mo.length : Nat) : Int)) mo.length = sumTo (fun j => rd mo (j : Int)) mo.length := by
      rw [sum_turn (fun j => rd mo (j : Int))]
      exact sum_congr _ _ _ (fun j hj => by rw [Nat.mod_eq_of_lt hj])
    simp only [lodgerlaw02_CellsSum.l0]
    rw [if_neg (by omega), hs, Same_eq _ _ (by simp; omega) (by simp; omega), Option.bind_some, if_pos (by simp), Load_eq, Option.bind_some, ld_in i0 (by simpa using i1), rd_set_same i0 i1, Load_eq, Option.bind_some, ld_in i0 i1]
    simp only [Option.some.injEq, beq_iff_eq, wrapu]
    omega
  | succ d ih =>
    intro k j hj hk
    obtain ⟨k, rfl⟩ : ∃ z, k = z + 1 := ⟨k - 1, by omega⟩
    have hlt : (j + t) % mo.length < mo.length := Nat.mod_lt _ (by omega)
    have he : Int.tmod (wrap64 ((j : Int) + wrap64 (t : Int))) (mo.length : Int) = (((j + t) % mo.length : Nat) : Int) := by
      rw [w64 (x := (t : Int)) (by omega) (by omega), w64 (by omega) (by omega), tm (by omega), ← Int.natCast_add, ← Int.natCast_emod]
    simp only [lodgerlaw02_CellsSum.l0]
    rw [if_pos (by omega), if_pos (by omega), he, Add_eq _ (by simp; omega), Option.bind_some, if_neg (by omega), if_pos (by omega), if_pos (by omega), Add_eq _ (by simp; omega), Option.bind_some, w64 (x := (j : Int) + 1) (by omega) (by omega),
      st_in i0 (by simpa using i1), st_in i0 (by simpa using i1), rd_set_same i0 i1, rd_set_same i0 i1, List.set_set, List.set_set]
    have hw : ∀ a b c : Int, IntKind.u64.wrap (IntKind.u64.wrap (a + b) + c) = IntKind.u64.wrap (a + (b + c)) := by intro a b c; simp only [wrapu]; omega
    have hw2 : ∀ b c : Int, IntKind.u64.wrap (IntKind.u64.wrap b + c) = IntKind.u64.wrap (b + c) := by intro b c; simp only [wrapu]; omega
    have := ih k (j + 1) (by omega) (by omega)
    simp only [sumTo, Int.natCast_add, Int.natCast_one] at this
    rw [hw, hw, hw2]
    simpa only [Int.natCast_add] using this
theorem CellsSum : lodgerlaw02_CellsSum.Pure := by
  intro l at_ mo tu hl hs wl w0 hl2 hs2 wl2 w1
  have b0 := wf_u16 w0
  have b1 := wf_u8 w1
  refine ⟨10000, ?_⟩
  generalize hK : 10000 = k
  obtain ⟨m, rfl, hm⟩ := more (k := k) (N := 9999) (by omega)
  have hj : lodgerlaw02_CellsSum.j0 (m + 1) l at_ mo tu true = some true := by
    simp only [lodgerlaw02_CellsSum.j0, ↓reduceIte]; rw [awake_true (by omega)]; rfl
  unfold lodgerlaw02_CellsSum.f
  rw [awake_true (by omega), Option.bind_some, if_pos rfl]
  by_cases c : (l.length : Int) > 500
  · rw [if_pos c, hj]
  rw [if_neg c]
  by_cases c0 : (l.length : Int) = 0
  · rw [if_pos c0, hj]
  rw [if_neg c0]
  by_cases c1 : (mo.length : Int) > 50
  · rw [decide_eq_true c1, hj]
  rw [decide_eq_false c1]
  clear hj
  simp only [lodgerlaw02_CellsSum.j0]
  rw [if_neg (by simp), if_neg c0, w64 (x := at_) (by omega) (by omega), tm b0.1]
  have i0 := Int.emod_nonneg at_ c0
  have i1 := Int.emod_lt_of_pos at_ (show 0 < (l.length : Int) by omega)
  generalize at_ % (l.length : Int) = i at i0 i1
  obtain ⟨t, rfl⟩ := Int.eq_ofNat_of_zero_le b1.1
  have hr : IntKind.u64.wrap (rd l i + 0) = rd l i := by
    have hmem : rd l i ∈ l := by rw [rd_get i0 i1]; exact List.getElem_mem _
    have := wf_u64 (wl _ hmem)
    rw [wrapu]; omega
  have := loop_l0 l mo t (by omega) (by omega) (by omega) i0 i1 mo.length m 0 (by omega) (by omega)
  simp only [sumTo] at this
  rw [hr] at this
  rw [show l.set i.toNat (rd l i) = l by rw [rd_get i0 i1]; simp, show IntKind.u64.wrap 0 = 0 by decide] at this
  exact this

end Go.Proofs.Ytpkomlobikmkkaa.Pure
