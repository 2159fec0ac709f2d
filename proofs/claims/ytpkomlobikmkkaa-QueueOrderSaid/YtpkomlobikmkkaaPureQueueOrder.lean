/- QueueOrder answers true at every input: numbers come out in the order in which they went in, what is refused isn't in, and there are never more than it takes; no condition. -/
import Derived.Test.YtpkomlobikmkkaaQQueueOrderx2
namespace Go.Proofs.Ytpkomlobikmkkaa.Pure
open Go.RowKit Go.Proofs.Ytpkomlobikmkkaa.PQueueOrder Go.Proofs.YtpkomlobikmkkaaW.PrintWords Go.Proofs.YtpkomlobikmkkaaW.PrintLast Go.Proofs.YtpkomlobikmkkaaW.PrintMore
set_option linter.unusedVariables false
set_option linter.unusedSimpArgs false

theorem w64 {x : Int} (h1 : -9223372036854775808 ≤ x) (h2 : x ≤ 9223372036854775807) : wrap64 x = x := by unfold wrap64; omega
theorem td {a b : Int} (h : 0 ≤ a) : Int.tdiv a b = a / b := Int.tdiv_eq_ediv_of_nonneg h
theorem tm {a b : Int} (h : 0 ≤ a) : Int.tmod a b = a % b := Int.tmod_eq_emod_of_nonneg h
theorem more {k N : Nat} (h : N + 1 ≤ k) : ∃ m, k = m + 1 ∧ N ≤ m := ⟨k - 1, by omega, by omega⟩
theorem wf_u16 {a : Int} (h : (Lit.int .u16 a).wf = true) : 0 ≤ a ∧ a ≤ 65535 := by
  simp [Lit.wf, IntKind.min, IntKind.max, IntKind.signed, IntKind.bits] at h
  omega
theorem wf_u8 {a : Int} (h : (Lit.int .u8 a).wf = true) : 0 ≤ a ∧ a ≤ 255 := by
  simp [Lit.wf, IntKind.min, IntKind.max, IntKind.signed, IntKind.bits] at h
  omega
theorem wf_u32 {a : Int} (h : (Lit.int .u32 a).wf = true) : 0 ≤ a ∧ a ≤ 4294967295 := by
  simp [Lit.wf, IntKind.min, IntKind.max, IntKind.signed, IntKind.bits] at h
  omega
theorem wf_u64 {a : Int} (h : (Lit.int .u64 a).wf = true) : 0 ≤ a ∧ a ≤ 18446744073709551615 := by
  simp [Lit.wf, IntKind.min, IntKind.max, IntKind.signed, IntKind.bits] at h
  omega
theorem wf_i64 {a : Int} (h : (Lit.int .i64 a).wf = true) : -9223372036854775808 ≤ a ∧ a ≤ 9223372036854775807 := by
  simp [Lit.wf, IntKind.min, IntKind.max, IntKind.signed, IntKind.bits] at h
  omega

theorem rd_mid (pre xs : List Int) (x : Int) : rd (pre ++ x :: xs) (pre.length : Int) = x := by simp [rd]

theorem Ints_l0 : ∀ (xs ys pre qre : List Int) (k : Nat), pre.length = qre.length → xs.length = ys.length → (pre ++ xs).length ≤ 9223372036854775807 → xs.length < k →
    lodgerref03_Ints.l0 k (pre ++ xs) (qre ++ ys) (pre.length : Int) = some (decide (xs = ys)) := by
  intro xs
  induction xs with
  | nil =>
    intro ys pre qre k hp hx hm hk
    obtain ⟨k, rfl⟩ : ∃ m, k = m + 1 := ⟨k - 1, by omega⟩
    have : ys = [] := List.eq_nil_of_length_eq_zero hx.symm
    subst this
    simp only [lodgerref03_Ints.l0]; rw [if_neg (by simp)]; simp
  | cons x xs ih =>
    intro ys pre qre k hp hx hm hk
    cases ys with
    | nil => simp at hx
    | cons y ys =>
      simp only [List.length_cons, List.length_append] at hk hx hm
      obtain ⟨k, rfl⟩ : ∃ m, k = m + 1 := ⟨k - 1, by omega⟩
      simp only [lodgerref03_Ints.l0]
      have e1 : rd (pre ++ x :: xs) (pre.length : Int) = x := by simp [rd]
      have e2 : rd (qre ++ y :: ys) (pre.length : Int) = y := by rw [hp]; simp [rd]
      rw [if_pos (by simp; omega), if_pos (by omega), if_pos (by rw [hp]; simp; omega), e1, e2]
      by_cases e : x = y
      · subst e
        rw [if_pos rfl, w64 (by omega) (by omega)]
        have := ih ys (pre ++ [x]) (qre ++ [x]) k (by simp [hp]) (by omega) (by simp; omega) (by omega)
        simp only [List.append_assoc, List.singleton_append, List.length_append, List.length_cons, List.length_nil, Nat.zero_add, Int.natCast_add, Int.natCast_one] at this
        rw [this]; simp
      · rw [if_neg e]; simp [e]
theorem Ints_eq (a b : List Int) (ha : a.length ≤ 100000) {k : Nat} (hk : a.length < k) : lodgerref03_Ints.f k a b = some (decide (a = b)) := by
  unfold lodgerref03_Ints.f
  by_cases h : (a.length : Int) = (b.length : Int)
  · rw [if_pos h]
    exact Ints_l0 a b [] [] k rfl (by omega) (by simp; omega) hk
  · rw [if_neg h, decide_eq_false (fun e => h (by rw [e]))]

theorem Clone_eq {l : List Int} (h : l.length < 17592186044416) : slices_Clone_int_int.f l = some l := by
  unfold slices_Clone_int_int.f
  rw [Option.bind_some, List.length_nil, Nat.zero_add, if_pos h, List.nil_append]
theorem QMay_eq (c : Int) (l : List Int) (z : Bool) : queue_May.f c l z = some (decide (1 ≤ c ∧ c ≤ 64 ∧ (l.length : Int) ≤ c)) := by
  unfold queue_May.f
  by_cases h1 : c ≥ 1
  · rw [if_pos h1]
    by_cases h2 : c ≤ 64
    · rw [if_pos h2, decide_eq_decide.2 (show ((l.length : Int) ≤ c) ↔ (1 ≤ c ∧ c ≤ 64 ∧ (l.length : Int) ≤ c) from ⟨fun h => ⟨h1, h2, h⟩, fun h => h.2.2⟩)]
    · rw [if_neg h2, decide_eq_false (by omega)]
  · rw [if_neg h1, decide_eq_false (by omega)]
theorem QNew_eq {c : Int} (h1 : 1 ≤ c) (h2 : c ≤ 64) : queue_New.f c = some (c, [], false, 0) := by
  unfold queue_New.f
  rw [QMay_eq, Option.bind_some, decide_eq_true ⟨h1, h2, by rw [List.length_nil]; omega⟩, if_pos rfl]
theorem QNew_no {c : Int} (h : ¬ (1 ≤ c ∧ c ≤ 64)) : queue_New.f c = some (0, [], false, 1) := by
  unfold queue_New.f
  rw [QMay_eq, Option.bind_some, decide_eq_false (by omega), if_neg (by simp)]
theorem QTake_none (c : Int) (z : Bool) : queue_Take.f c [] z = some (c, [], z, 0, false) := by
  unfold queue_Take.f
  rw [if_pos (by simp)]
theorem QTake_eq (c : Int) (x : Int) (l : List Int) (z : Bool) (h : l.length < 17592186044416) : queue_Take.f c (x :: l) z = some (c, l, z, x, true) := by
  unfold queue_Take.f
  rw [if_neg (by rw [List.length_cons]; omega), if_pos (by rw [List.length_cons]; omega), if_pos (by rw [List.length_cons]; omega), List.drop_succ_cons, List.drop_zero, Clone_eq h, Option.bind_some]
  rfl
theorem QClose_eq (c : Int) (l : List Int) (z : Bool) (h : l.length < 17592186044416) : queue_Close.f c l z = some (c, l, true) := by
  unfold queue_Close.f
  rw [Clone_eq h, Option.bind_some]
theorem QEnds_eq (c : Int) (l : List Int) (z : Bool) : queue_Ends.f c l z = some (z && decide (l = [])) := by
  unfold queue_Ends.f
  cases z <;> cases l <;> simp <;> omega
theorem QPut_closed (c : Int) (l : List Int) (x : Int) : queue_Put.f c l true x = some (c, l, true, 12) := by
  unfold queue_Put.f
  rw [if_pos rfl]
theorem QPut_full {c : Int} {l : List Int} (x : Int) (h : (l.length : Int) ≥ c) : queue_Put.f c l false x = some (c, l, false, 10) := by
  unfold queue_Put.f
  rw [if_neg (by simp), if_pos h]
theorem QPut_eq {c : Int} {l : List Int} (x : Int) (h : (l.length : Int) < c) (hl : l.length < 17592186044416) : queue_Put.f c l false x = some (c, l ++ [x], false, 0) := by
  unfold queue_Put.f
  rw [if_neg (by simp), if_neg (by omega), if_pos hl]

theorem awake_true : lodgerlaw03_awake.f = some true := by decide +kernel
theorem wf_i16 {a : Int} (h : (Lit.int .i16 a).wf = true) : -32768 ≤ a ∧ a ≤ 32767 := by
  simp [Lit.wf, IntKind.min, IntKind.max, IntKind.signed, IntKind.bits] at h
  omega
theorem rd_mem {l : List Int} {i : Nat} (h : i < l.length) : rd l (i : Int) ∈ l := by
  unfold rd
  rw [Int.toNat_natCast, List.getD_eq_getElem?_getD, List.getElem?_eq_getElem h]
  exact List.getElem_mem h
theorem nxi {i : Nat} (h : i ≤ 1000) : wrap64 ((i : Int) + 1) = ((i + 1 : Nat) : Int) := by rw [w64 (by omega) (by omega)]; omega
theorem lensub {pre L : List Int} (h : pre.length + L.length ≤ 1000) : wrap64 (((pre ++ L).length : Int) - (pre.length : Int)) = (L.length : Int) := by
  rw [List.length_append, w64 (by omega) (by omega)]; omega
theorem lennext {pre : List Int} {y : Int} (h : pre.length ≤ 1000) : wrap64 ((pre.length : Int) + 1) = ((pre ++ [y]).length : Int) := by rw [w64 (by omega) (by omega)]; simp
theorem order_l0 {a0 p : Int} {l : List Int} (h1 : 1 ≤ p) (h2 : p ≤ 64) (e0 : wrap64 (1 + wrap64 (Int.tmod a0 64)) = p) (hl : l.length ≤ 300) (hx : ∀ x ∈ l, -32768 ≤ x ∧ x ≤ 32767) (d : Nat) :
    ∀ (k i : Nat) (pre L : List Int) (z : Bool), i ≤ l.length → l.length - i = d → pre.length + L.length ≤ i → (L.length : Int) ≤ p → d * 2 + 500 < k →
    lodgerlaw03_QueueOrder.l0 k a0 l (pre ++ L) pre.length z i p L z = some true := by
  induction d with
  | zero =>
    intro k i pre L z hi hd hb hp hk
    obtain ⟨k, rfl⟩ : ∃ m, k = m + 1 := ⟨k - 1, by omega⟩
    simp only [lodgerlaw03_QueueOrder.l0]
    clear e0
    have e1 : ((pre.length : Nat) : Int).toNat = pre.length := by omega
    rw [if_neg (by omega), if_pos (by omega), if_pos (by rw [List.length_append]; omega), e1, List.drop_left, Ints_eq _ _ (by omega) (by omega), Option.bind_some, decide_eq_true rfl, if_pos rfl, QMay_eq, Option.bind_some,
      decide_eq_true ⟨h1, h2, hp⟩]
  | succ d ih =>
    intro k i pre L z hi hd hb hp hk
    obtain ⟨k, rfl⟩ : ∃ m, k = m + 1 := ⟨k - 1, by omega⟩
    simp only [lodgerlaw03_QueueOrder.l0]
    have hm := hx _ (rd_mem (l := l) (i := i) (by omega))
    have hli : ((pre ++ L).length : Int) = (pre.length : Int) + (L.length : Int) := by rw [List.length_append]; omega
    rw [if_pos (show ((i : Nat) : Int) < (l.length : Int) by clear e0; omega), if_pos (Int.natCast_nonneg i), w64 (x := rd l (i : Int)) (by clear e0; omega) (by clear e0; omega), nxi (i := i) (by clear e0; omega), e0, lensub (by clear e0; omega)]
    clear e0
    generalize rd l (i : Int) = x at *
    by_cases c1 : Int.tmod x 50 = 0
    · rw [if_pos c1, QClose_eq _ _ _ (by omega), Option.bind_some]
      exact ih k (i + 1) pre L true (by omega) (by omega) (by omega) hp (by omega)
    rw [if_neg c1]
    obtain ⟨k, rfl⟩ : ∃ m, k = m + 1 := ⟨k - 1, by omega⟩
    by_cases c2 : x > 0
    · rw [if_pos c2]
      cases z with
      | true =>
        rw [QPut_closed, Option.bind_some, if_neg (by simp), if_pos rfl]
        simp only [lodgerlaw03_QueueOrder.j2]
        rw [if_neg (by simp), if_neg (by omega), nxi (i := i) (by omega)]
        exact ih k (i + 1) pre L true (by omega) (by omega) (by omega) hp (by omega)
      | false =>
        by_cases c3 : (L.length : Int) ≥ p
        · have c4 : (L.length : Int) = p := by omega
          rw [QPut_full x c3, Option.bind_some, if_neg (by simp), if_neg (by simp), if_neg (by simp [c4])]
          simp only [lodgerlaw03_QueueOrder.j2]
          rw [if_neg (by simp [c4]), if_neg (by omega), nxi (i := i) (by omega)]
          exact ih k (i + 1) pre L false (by omega) (by omega) (by omega) hp (by omega)
        · have c4 : ((L.length : Int) == p) = false := by simp; omega
          rw [QPut_eq x (by omega) (by omega), Option.bind_some, if_neg (by simp), if_neg (by simp), if_neg (by simp [c4])]
          simp only [lodgerlaw03_QueueOrder.j2]
          rw [if_neg (by simp [c4]), if_pos trivial, if_pos (by rw [List.length_append]; omega), nxi (i := i) (by omega), List.append_assoc]
          exact ih k (i + 1) pre (L ++ [x]) false (by omega) (by omega) (by rw [List.length_append]; simp; omega) (by rw [List.length_append]; simp; omega) (by omega)
    · rw [if_neg c2]
      cases L with
      | nil =>
        rw [QTake_none, Option.bind_some]
        have c5 : decide ((pre.length : Int) < ((pre ++ ([] : List Int)).length : Int)) = false := by simp
        rw [c5, if_neg (by simp), if_neg (by simp)]
        simp only [lodgerlaw03_QueueOrder.j3]
        rw [if_neg (by simp), if_neg (by simp), QEnds_eq, Option.bind_some, nxi (i := i) (by omega)]
        have hh := ih k (i + 1) pre [] z (by omega) (by omega) (by omega) hp (by omega)
        cases z with
        | true => rw [if_pos rfl, if_neg (by simp)]; exact hh
        | false => rw [if_neg (by simp), if_neg (by simp)]; exact hh
      | cons y L =>
        simp only [List.length_cons] at hb hp hli
        rw [QTake_eq _ _ _ _ (by omega), Option.bind_some]
        have c5 : decide ((pre.length : Int) < ((pre ++ y :: L).length : Int)) = true := decide_eq_true (by omega)
        have c6 : rd (pre ++ y :: L) (pre.length : Int) = y := rd_mid ..
        rw [c5, if_neg (by simp), if_pos rfl, if_pos (by omega), if_pos (by omega), c6]
        simp only [lodgerlaw03_QueueOrder.j3]
        rw [if_neg (by simp), if_pos trivial, QEnds_eq, Option.bind_some, nxi (i := i) (by omega), lennext (y := y) (by omega)]
        have hh := ih k (i + 1) (pre ++ [y]) L z (by omega) (by omega) (by rw [List.length_append]; simp; omega) (by omega) (by omega)
        rw [List.append_assoc] at hh
        have c7 : ((((pre ++ [y]).length : Nat) : Int) == ((pre ++ y :: L).length : Int)) = decide (L = []) := by
          rw [Bool.eq_iff_iff, beq_iff_eq, decide_eq_true_eq, hli, List.length_append]
          constructor
          · intro h; exact List.eq_nil_of_length_eq_zero (by simp at h; omega)
          · rintro rfl; simp
        cases z with
        | true => rw [if_pos rfl, c7, if_neg (by simp)]; exact hh
        | false => rw [if_neg (by simp), if_neg (by simp)]; exact hh
theorem QueueOrder : lodgerlaw03_QueueOrder.Pure := by
  intro a0 l w0 hl w1 w2
  have b0 := wf_u8 w0
  refine ⟨2000, ?_⟩
  generalize hK : 2000 = k
  have hk : 2000 ≤ k := by omega
  clear hK
  have e0 : wrap64 (1 + wrap64 (Int.tmod a0 64)) = 1 + a0 % 64 := by rw [tm (by omega), w64 (x := a0 % 64) (by omega) (by omega), w64 (by omega) (by omega)]
  unfold lodgerlaw03_QueueOrder.f
  obtain ⟨k, rfl⟩ : ∃ m, k = m + 1 := ⟨k - 1, by omega⟩
  rw [awake_true, Option.bind_some, if_pos rfl]
  simp only [lodgerlaw03_QueueOrder.j0]
  by_cases c : (l.length : Int) > 300
  · rw [decide_eq_true c, if_pos rfl, awake_true, Option.bind_some]
  · rw [decide_eq_false c, if_neg (by simp), e0, QNew_eq (by omega) (by omega), Option.bind_some]
    exact order_l0 (by omega) (by omega) e0 (by omega) (fun x hx => wf_i16 (w2 x hx)) l.length k 0 [] [] false (by omega) (by omega) (by simp) (by simp; omega) (by omega)

end Go.Proofs.Ytpkomlobikmkkaa.Pure
