/- CellsNew answers true at every input: new cells are as many as told, and all 0; no condition. -/
import Derived.Test.YtpkomlobikmkkaaQCellsNewx1
namespace Go.Proofs.Ytpkomlobikmkkaa.Pure
open Go.RowKit Go.Proofs.Ytpkomlobikmkkaa.PCellsNew Go.Proofs.YtpkomlobikmkkaaW.PrintWords Go.Proofs.YtpkomlobikmkkaaW.PrintLast Go.Proofs.YtpkomlobikmkkaaW.PrintMore
set_option linter.unusedVariables false
set_option linter.unusedSimpArgs false

theorem w64 {x : Int} (h1 : -9223372036854775808 ≤ x) (h2 : x ≤ 9223372036854775807) : wrap64 x = x := by unfold wrap64; omega
theorem td {a b : Int} (h : 0 ≤ a) : Int.tdiv a b = a / b := Int.tdiv_eq_ediv_of_nonneg h
theorem tm {a b : Int} (h : 0 ≤ a) : Int.tmod a b = a % b := Int.tmod_eq_emod_of_nonneg h
theorem more {k N : Nat} (h : N + 1 ≤ k) : ∃ m, k = m + 1 ∧ N ≤ m := ⟨k - 1, by omega, by omega⟩
theorem wf_u16 {a : Int} (h : (Lit.int .u16 a).wf = true) : 0 ≤ a ∧ a ≤ 65535 := by
  simp [Lit.wf, IntKind.min, IntKind.max, IntKind.signed, IntKind.bits] at h
  omega
theorem wf_u8 {a : Int} (h : (Lit.int .u8 a).wf = true) : 0 ≤ a ∧ a ≤ 255 := by
  simp [Lit.wf, IntKind.min, IntKind.max, IntKind.signed, IntKind.bits] at h
  omega
theorem wf_u32 {a : Int} (h : (Lit.int .u32 a).wf = true) : 0 ≤ a ∧ a ≤ 4294967295 := by
  simp [Lit.wf, IntKind.min, IntKind.max, IntKind.signed, IntKind.bits] at h
  omega
theorem wf_u64 {a : Int} (h : (Lit.int .u64 a).wf = true) : 0 ≤ a ∧ a ≤ 18446744073709551615 := by
  simp [Lit.wf, IntKind.min, IntKind.max, IntKind.signed, IntKind.bits] at h
  omega
theorem wf_i64 {a : Int} (h : (Lit.int .i64 a).wf = true) : -9223372036854775808 ≤ a ∧ a ≤ 9223372036854775807 := by
  simp [Lit.wf, IntKind.min, IntKind.max, IntKind.signed, IntKind.bits] at h
  omega

/-- Cells of which one is another one, if it is there. -/
def st (l : List Int) (i v : Int) : List Int := if 0 ≤ i ∧ i < (l.length : Int) then l.set i.toNat v else l
/-- What a cell holds. -/
def ld (l : List Int) (i : Int) : Int := if 0 ≤ i ∧ i < (l.length : Int) then rd l i else 0
theorem st_len (l : List Int) (i v : Int) : (st l i v).length = l.length := by unfold st; split <;> simp
theorem st_in {l : List Int} {i : Int} (h0 : 0 ≤ i) (h1 : i < (l.length : Int)) (v : Int) : st l i v = l.set i.toNat v := by unfold st; rw [if_pos ⟨h0, h1⟩]
theorem st_out {l : List Int} {i : Int} (h : i < 0 ∨ (l.length : Int) ≤ i) (v : Int) : st l i v = l := by unfold st; rw [if_neg (by omega)]
theorem ld_in {l : List Int} {i : Int} (h0 : 0 ≤ i) (h1 : i < (l.length : Int)) : ld l i = rd l i := by unfold ld; rw [if_pos ⟨h0, h1⟩]
theorem ld_out {l : List Int} {i : Int} (h : i < 0 ∨ (l.length : Int) ≤ i) : ld l i = 0 := by unfold ld; rw [if_neg (by omega)]
theorem rd_get {l : List Int} {i : Int} (h0 : 0 ≤ i) (h1 : i < (l.length : Int)) : rd l i = l[i.toNat]'(by omega) := by
  have : i.toNat < l.length := by omega
  simp [rd, List.getD_eq_getElem?_getD, this]
theorem rd_set_same {l : List Int} {i : Int} (h0 : 0 ≤ i) (h1 : i < (l.length : Int)) (v : Int) : rd (l.set i.toNat v) i = v := by
  have : i.toNat < l.length := by omega
  simp [rd, List.getD_eq_getElem?_getD, this]
theorem rd_set_ne {l : List Int} {i j : Int} (h0 : 0 ≤ i) (h1 : 0 ≤ j) (h : i ≠ j) (v : Int) : rd (l.set i.toNat v) j = rd l j := by
  have : i.toNat ≠ j.toNat := by omega
  simp [rd, List.getD_eq_getElem?_getD, List.getElem?_set, this]
theorem set_back {l : List Int} {i : Int} (h0 : 0 ≤ i) (h1 : i < (l.length : Int)) (v : Int) : (l.set i.toNat v).set i.toNat (rd l i) = l := by
  rw [List.set_set, rd_get h0 h1]; simp

theorem Is_eq (l : List Int) (i : Int) : cells_is.f l i = some (decide (0 ≤ i ∧ i < (l.length : Int))) := by
  unfold cells_is.f
  by_cases h : i ≥ 0
  · rw [if_pos h]; congr 1; rw [Bool.eq_iff_iff, decide_eq_true_eq, decide_eq_true_eq]; omega
  · rw [if_neg h, decide_eq_false (by omega)]
theorem Load_eq (l : List Int) (i : Int) : cells_Load.f l i = some (ld l i) := by
  unfold cells_Load.f ld
  rw [Is_eq, Option.bind_some]
  by_cases h : 0 ≤ i ∧ i < (l.length : Int)
  · rw [decide_eq_true h, if_pos rfl, if_pos h.1, if_pos h.2, if_pos h]
  · rw [decide_eq_false h, if_neg (by simp), if_neg h]
theorem Store_eq (l : List Int) (hl : l.length ≤ 100000) (i v : Int) : cells_Store.f l i v = some (st l i v) := by
  unfold cells_Store.f st
  by_cases h1 : i < 0
  · rw [if_pos h1, if_neg (by omega)]
  by_cases h2 : i ≥ (l.length : Int)
  · rw [if_neg h1, if_pos h2, if_neg (by omega)]
  · rw [if_neg h1, if_neg h2, if_pos (by omega), if_pos (by omega)]

theorem awake_true {k : Nat} (hk : 500 ≤ k) : lodgerlaw02_awake.f k = some true := at_rounds lodgerlaw02_awake.mono hk (by decide +kernel)
theorem CellsNew : lodgerlaw02_CellsNew.Pure := by
  intro n a w0 w1
  have b0 := wf_u16 w0
  have b1 := wf_u16 w1
  refine ⟨1000, ?_⟩
  generalize hK : 1000 = k
  unfold lodgerlaw02_CellsNew.f
  rw [awake_true (by omega), Option.bind_some, if_pos rfl, w64 (x := n) (by omega) (by omega), w64 (x := a) (by omega) (by omega)]
  unfold cells_New.f
  rw [if_pos b0.1, if_pos (by omega), Option.bind_some]
  have hl : (List.replicate n.toNat (0 : Int)).length = n.toNat := List.length_replicate
  have hz : ∀ j : Int, rd (List.replicate n.toNat (0 : Int)) j = 0 := by
    intro j
    simp only [rd, List.getD_eq_getElem?_getD, List.getElem?_replicate]
    split <;> rfl
  generalize List.replicate n.toNat (0 : Int) = l at hl hz
  rw [if_pos (by omega), Load_eq, Option.bind_some, if_pos (by unfold ld; split <;> simp [hz]), Store_eq l (by omega), Option.bind_some, Load_eq, Option.bind_some]
  unfold lodgerlaw02_one.f
  by_cases h : a < n
  · rw [decide_eq_true h, st_in b1.1 (by omega), ld_in b1.1 (by simp; omega), rd_set_same b1.1 (by omega)]
    decide
  · rw [decide_eq_false h, st_out (by omega), ld_out (by omega)]
    decide

end Go.Proofs.Ytpkomlobikmkkaa.Pure
