/- QueueRoom answers true at every input: from empty on as many numbers go in as it takes, and no more; with one taken out one more goes in; no condition. -/
import Derived.Test.YtpkomlobikmkkaaQQueueRoomx2
namespace Go.Proofs.Ytpkomlobikmkkaa.Pure
open Go.RowKit Go.Proofs.Ytpkomlobikmkkaa.PQueueRoom Go.Proofs.YtpkomlobikmkkaaW.PrintWords Go.Proofs.YtpkomlobikmkkaaW.PrintLast Go.Proofs.YtpkomlobikmkkaaW.PrintMore
set_option linter.unusedVariables false
set_option linter.unusedSimpArgs false

theorem w64 {x : Int} (h1 : -9223372036854775808 ≤ x) (h2 : x ≤ 9223372036854775807) : wrap64 x = x := by unfold wrap64; omega
theorem td {a b : Int} (h : 0 ≤ a) : Int.tdiv a b = a / b := Int.tdiv_eq_ediv_of_nonneg h
theorem tm {a b : Int} (h : 0 ≤ a) : Int.tmod a b = a % b := Int.tmod_eq_emod_of_nonneg h
theorem more {k N : Nat} (h : N + 1 ≤ k) : ∃ m, k = m + 1 ∧ N ≤ m := ⟨k - 1, by omega, by omega⟩
theorem wf_u16 {a : Int} (h : (Lit.int .u16 a).wf = true) : 0 ≤ a ∧ a ≤ 65535 := by
  simp [Lit.wf, IntKind.min, IntKind.max, IntKind.signed, IntKind.bits] at h
  omega
theorem wf_u8 {a : Int} (h : (Lit.int .u8 a).wf = true) : 0 ≤ a ∧ a ≤ 255 := by
  simp [Lit.wf, IntKind.min, IntKind.max, IntKind.signed, IntKind.bits] at h
  omega
theorem wf_u32 {a : Int} (h : (Lit.int .u32 a).wf = true) : 0 ≤ a ∧ a ≤ 4294967295 := by
  simp [Lit.wf, IntKind.min, IntKind.max, IntKind.signed, IntKind.bits] at h
  omega
theorem wf_u64 {a : Int} (h : (Lit.int .u64 a).wf = true) : 0 ≤ a ∧ a ≤ 18446744073709551615 := by
  simp [Lit.wf, IntKind.min, IntKind.max, IntKind.signed, IntKind.bits] at h
  omega
theorem wf_i64 {a : Int} (h : (Lit.int .i64 a).wf = true) : -9223372036854775808 ≤ a ∧ a ≤ 9223372036854775807 := by
  simp [Lit.wf, IntKind.min, IntKind.max, IntKind.signed, IntKind.bits] at h
  omega

theorem Ints_l0 : ∀ (xs ys pre qre : List Int) (k : Nat), pre.length = qre.length → xs.length = ys.length → (pre ++ xs).length ≤ 9223372036854775807 → xs.length < k →
    lodgerref03_Ints.l0 k (pre ++ xs) (qre ++ ys) (pre.length : Int) = some (decide (xs = ys)) := by
  intro xs
  induction xs with
  | nil =>
    intro ys pre qre k hp hx hm hk
    obtain ⟨k, rfl⟩ : ∃ m, k = m + 1 := ⟨k - 1, by omega⟩
    have : ys = [] := List.eq_nil_of_length_eq_zero hx.symm
    subst this
    simp only [lodgerref03_Ints.l0]; rw [if_neg (by simp)]; simp
  | cons x xs ih =>
    intro ys pre qre k hp hx hm hk
    cases ys with
    | nil => simp at hx
    | cons y ys =>
      simp only [List.length_cons, List.length_append] at hk hx hm
      obtain ⟨k, rfl⟩ : ∃ m, k = m + 1 := ⟨k - 1, by omega⟩
      simp only [lodgerref03_Ints.l0]
      have e1 : rd (pre ++ x :: xs) (pre.length : Int) = x := by simp [rd]
      have e2 : rd (qre ++ y :: ys) (pre.length : Int) = y := by rw [hp]; simp [rd]
      rw [if_pos (by simp; omega), if_pos (by omega), if_pos (by rw [hp]; simp; omega), e1, e2]
      by_cases e : x = y
      · subst e
        rw [if_pos rfl, w64 (by omega) (by omega)]
        have := ih ys (pre ++ [x]) (qre ++ [x]) k (by simp [hp]) (by omega) (by simp; omega) (by omega)
        simp only [List.append_assoc, List.singleton_append, List.length_append, List.length_cons, List.length_nil, Nat.zero_add, Int.natCast_add, Int.natCast_one] at this
        rw [this]; simp
      · rw [if_neg e]; simp [e]
theorem Ints_eq (a b : List Int) (ha : a.length ≤ 100000) {k : Nat} (hk : a.length < k) : lodgerref03_Ints.f k a b = some (decide (a = b)) := by
  unfold lodgerref03_Ints.f
  by_cases h : (a.length : Int) = (b.length : Int)
  · rw [if_pos h]
    exact Ints_l0 a b [] [] k rfl (by omega) (by simp; omega) hk
  · rw [if_neg h, decide_eq_false (fun e => h (by rw [e]))]

theorem Clone_eq {l : List Int} (h : l.length < 17592186044416) : slices_Clone_int_int.f l = some l := by
  unfold slices_Clone_int_int.f
  rw [Option.bind_some, List.length_nil, Nat.zero_add, if_pos h, List.nil_append]
theorem QMay_eq (c : Int) (l : List Int) (z : Bool) : queue_May.f c l z = some (decide (1 ≤ c ∧ c ≤ 64 ∧ (l.length : Int) ≤ c)) := by
  unfold queue_May.f
  by_cases h1 : c ≥ 1
  · rw [if_pos h1]
    by_cases h2 : c ≤ 64
    · rw [if_pos h2, decide_eq_decide.2 (show ((l.length : Int) ≤ c) ↔ (1 ≤ c ∧ c ≤ 64 ∧ (l.length : Int) ≤ c) from ⟨fun h => ⟨h1, h2, h⟩, fun h => h.2.2⟩)]
    · rw [if_neg h2, decide_eq_false (by omega)]
  · rw [if_neg h1, decide_eq_false (by omega)]
theorem QNew_eq {c : Int} (h1 : 1 ≤ c) (h2 : c ≤ 64) : queue_New.f c = some (c, [], false, 0) := by
  unfold queue_New.f
  rw [QMay_eq, Option.bind_some, decide_eq_true ⟨h1, h2, by rw [List.length_nil]; omega⟩, if_pos rfl]
theorem QNew_no {c : Int} (h : ¬ (1 ≤ c ∧ c ≤ 64)) : queue_New.f c = some (0, [], false, 1) := by
  unfold queue_New.f
  rw [QMay_eq, Option.bind_some, decide_eq_false (by omega), if_neg (by simp)]
theorem QTake_none (c : Int) (z : Bool) : queue_Take.f c [] z = some (c, [], z, 0, false) := by
  unfold queue_Take.f
  rw [if_pos (by simp)]
theorem QTake_eq (c : Int) (x : Int) (l : List Int) (z : Bool) (h : l.length < 17592186044416) : queue_Take.f c (x :: l) z = some (c, l, z, x, true) := by
  unfold queue_Take.f
  rw [if_neg (by rw [List.length_cons]; omega), if_pos (by rw [List.length_cons]; omega), if_pos (by rw [List.length_cons]; omega), List.drop_succ_cons, List.drop_zero, Clone_eq h, Option.bind_some]
  rfl
theorem QClose_eq (c : Int) (l : List Int) (z : Bool) (h : l.length < 17592186044416) : queue_Close.f c l z = some (c, l, true) := by
  unfold queue_Close.f
  rw [Clone_eq h, Option.bind_some]
theorem QEnds_eq (c : Int) (l : List Int) (z : Bool) : queue_Ends.f c l z = some (z && decide (l = [])) := by
  unfold queue_Ends.f
  cases z <;> cases l <;> simp <;> omega
theorem QPut_closed (c : Int) (l : List Int) (x : Int) : queue_Put.f c l true x = some (c, l, true, 12) := by
  unfold queue_Put.f
  rw [if_pos rfl]
theorem QPut_full {c : Int} {l : List Int} (x : Int) (h : (l.length : Int) ≥ c) : queue_Put.f c l false x = some (c, l, false, 10) := by
  unfold queue_Put.f
  rw [if_neg (by simp), if_pos h]
theorem QPut_eq {c : Int} {l : List Int} (x : Int) (h : (l.length : Int) < c) (hl : l.length < 17592186044416) : queue_Put.f c l false x = some (c, l ++ [x], false, 0) := by
  unfold queue_Put.f
  rw [if_neg (by simp), if_neg (by omega), if_pos hl]

theorem ref03Same_eq (c : Int) (z : Bool) (a b : List Int) (ha : a.length ≤ 100000) {k : Nat} (hk : a.length < k) : lodgerref03_Same.f k c a z c b z = some (decide (a = b)) := by
  unfold lodgerref03_Same.f
  rw [if_pos rfl, if_pos (by simp), Ints_eq a b ha hk, Option.bind_some]

theorem awake_true : lodgerlaw03_awake.f = some true := by decide +kernel
theorem room_l0 {p x : Int} (h1 : 1 ≤ p) (h2 : p ≤ 64) (d : Nat) : ∀ (k i : Nat), (i : Int) ≤ p → p - i = d → d + 200 < k → lodgerlaw03_QueueRoom.l0 k x p i p (List.replicate i x) false = some true := by
  induction d with
  | zero =>
    intro k i hi hd hk
    obtain ⟨k, rfl⟩ : ∃ m, k = m + 1 := ⟨k - 1, by omega⟩
    simp only [lodgerlaw03_QueueRoom.l0]
    obtain ⟨n, rfl⟩ : ∃ n, i = n + 1 := ⟨i - 1, by omega⟩
    have hln : (List.replicate n x).length = n := List.length_replicate
    have hl1 : (x :: List.replicate n x).length = n + 1 := by rw [List.length_cons, hln]
    rw [if_neg (by omega), List.replicate_succ, QPut_full x (by rw [hl1]; omega), Option.bind_some, QTake_eq _ _ _ _ (by rw [hln]; omega), Option.bind_some, QPut_eq x (by rw [hln]; omega) (by rw [hln]; omega), Option.bind_some, if_pos rfl,
      ref03Same_eq _ _ _ _ (by rw [hl1]; omega) (by rw [hl1]; omega), Option.bind_some, decide_eq_true rfl, if_pos rfl, if_pos rfl, if_pos rfl]
    have e : List.replicate n x ++ [x] = x :: List.replicate n x := by rw [← List.replicate_succ, List.replicate_succ']
    simp only [e]
    rw [ref03Same_eq _ _ _ _ (by rw [hl1]; omega) (by rw [hl1]; omega), Option.bind_some, decide_eq_true rfl]
  | succ d ih =>
    intro k i hi hd hk
    obtain ⟨k, rfl⟩ : ∃ m, k = m + 1 := ⟨k - 1, by omega⟩
    simp only [lodgerlaw03_QueueRoom.l0]
    have hli : (List.replicate i x).length = i := List.length_replicate
    rw [if_pos (by omega), QPut_eq x (by rw [hli]; omega) (by rw [hli]; omega), Option.bind_some, if_pos rfl, w64 (by omega) (by omega), if_pos (by rw [List.length_append, hli]; simp)]
    have := ih k (i + 1) (by omega) (by omega) (by omega)
    rw [List.replicate_succ'] at this
    exact this
theorem QueueRoom : lodgerlaw03_QueueRoom.Pure := by
  intro a0 a1 w0 w1
  have b0 := wf_u8 w0
  refine ⟨1000, ?_⟩
  generalize hK : 1000 = k
  have hk : 1000 ≤ k := by omega
  clear hK
  have e0 : wrap64 (1 + wrap64 (Int.tmod a0 64)) = 1 + a0 % 64 := by rw [tm (by omega), w64 (x := a0 % 64) (by omega) (by omega), w64 (by omega) (by omega)]
  unfold lodgerlaw03_QueueRoom.f
  rw [awake_true, Option.bind_some, if_pos rfl, e0, QNew_eq (by omega) (by omega), Option.bind_some]
  exact room_l0 (by omega) (by omega) (1 + a0 % 64).toNat k 0 (by omega) (by omega) (by omega)

end Go.Proofs.Ytpkomlobikmkkaa.Pure
