/- QueueDoes answers true at every input: all that a queue does comes to what the document says; no condition. -/
import Derived.Test.YtmchledhamhlgaaQQueueDoesx3
namespace Go.Proofs.Ytmchledhamhlgaa.Pure
open Go.RowKit Go.Proofs.Ytmchledhamhlgaa.PQueueDoes Go.Proofs.YtmchledhamhlgaaW.PrintWords Go.Proofs.YtmchledhamhlgaaW.PrintLast Go.Proofs.YtmchledhamhlgaaW.PrintMore
set_option linter.unusedVariables false
set_option linter.unusedSimpArgs false

theorem w64 {x : Int} (h1 : -9223372036854775808 ≤ x) (h2 : x ≤ 9223372036854775807) : wrap64 x = x := by unfold wrap64; omega
theorem td {a b : Int} (h : 0 ≤ a) : Int.tdiv a b = a / b := Int.tdiv_eq_ediv_of_nonneg h
theorem tm {a b : Int} (h : 0 ≤ a) : Int.tmod a b = a % b := Int.tmod_eq_emod_of_nonneg h
theorem more {k N : Nat} (h : N + 1 ≤ k) : ∃ m, k = m + 1 ∧ N ≤ m := ⟨k - 1, by omega, by omega⟩
theorem wf_u16 {a : Int} (h : (Lit.int .u16 a).wf = true) : 0 ≤ a ∧ a ≤ 65535 := by
 simp [Lit.wf, IntKind.min, IntKind.max, IntKind.signed, IntKind.bits] at h
 omega
theorem wf_u8 {a : Int} (h : (Lit.int .u8 a).wf = true) : 0 ≤ a ∧ a ≤ 255 := by
 simp [Lit.wf, IntKind.min, IntKind.max, IntKind.signed, IntKind.bits] at h
 omega
theorem wf_u32 {a : Int} (h : (Lit.int .u32 a).wf = true) : 0 ≤ a ∧ a ≤ 4294967295 := by
 simp [Lit.wf, IntKind.min, IntKind.max, IntKind.signed, IntKind.bits] at h
 omega
theorem wf_u64 {a : Int} (h : (Lit.int .u64 a).wf = true) : 0 ≤ a ∧ a ≤ 18446744073709551615 := by
 simp [Lit.wf, IntKind.min, IntKind.max, IntKind.signed, IntKind.bits] at h
 omega
theorem wf_i64 {a : Int} (h : (Lit.int .i64 a).wf = true) : -9223372036854775808 ≤ a ∧ a ≤ 9223372036854775807 := by
 simp [Lit.wf, IntKind.min, IntKind.max, IntKind.signed, IntKind.bits] at h
 omega

theorem rd_mid (pre xs : List Int) (x : Int) : rd (pre ++ x :: xs) (pre.length : Int) = x := by simp [rd]

theorem Ints_l0 : ∀ (xs ys pre qre : List Int) (k : Nat), pre.length = qre.length → xs.length = ys.length → (pre ++ xs).length ≤ 9223372036854775807 → xs.length < k →
  lodgerref03_Ints.l0 k (pre ++ xs) (qre ++ ys) (pre.length : Int) = some (decide (xs = ys)) := by
 intro xs
 induction xs with
 | nil =>
  intro ys pre qre k hp hx hm hk
  obtain ⟨k, rfl⟩ : ∃ m, k = m + 1 := ⟨k - 1, by omega⟩
  have : ys = [] := List.eq_nil_of_length_eq_zero hx.symm
  subst this
  simp only [lodgerref03_Ints.l0]; rw [if_neg (by simp)]; simp
 | cons x xs ih =>
  intro ys pre qre k hp hx hm hk
  cases ys with
  | nil => simp at hx
  | cons y ys =>
   simp only [List.length_cons, List.length_append] at hk hx hm
   obtain ⟨k, rfl⟩ : ∃ m, k = m + 1 := ⟨k - 1, by omega⟩
   simp only [lodgerref03_Ints.l0]
   have e1 : rd (pre ++ x :: xs) (pre.length : Int) = x := by simp [rd]
   have e2 : rd (qre ++ y :: ys) (pre.length : Int) = y := by rw [hp]; simp [rd]
   rw [if_pos (by simp; omega), if_pos (by omega), if_pos (by rw [hp]; simp; omega), e1, e2]
   by_cases e : x = y
   ·subst e
    rw [if_pos rfl, w64 (by omega) (by omega)]
    have := ih ys (pre ++ [x]) (qre ++ [x]) k (by simp [hp]) (by omega) (by simp; omega) (by omega)
    simp only [List.append_assoc, List.singleton_append, List.length_append, List.length_cons, List.length_nil, Nat.zero_add, Int.natCast_add, Int.natCast_one] at this
    rw [this]; simp
   ·rw [if_neg e]; simp [e]
theorem Ints_eq (a b : List Int) (ha : a.length ≤ 100000) {k : Nat} (hk : a.length < k) : lodgerref03_Ints.f k a b = some (decide (a = b)) := by
 unfold lodgerref03_Ints.f
 by_cases h : (a.length : Int) = (b.length : Int)
 ·rw [if_pos h]
  exact Ints_l0 a b [] [] k rfl (by omega) (by simp; omega) hk
 ·rw [if_neg h, decide_eq_false (fun e => h (by rw [e]))]

theorem Clone_eq {l : List Int} (h : l.length < 17592186044416) : slices_Clone_int_int.f l = some l := by
 unfold slices_Clone_int_int.f
 rw [Option.bind_some, List.length_nil, Nat.zero_add, if_pos h, List.nil_append]
theorem QMay_eq (c : Int) (l : List Int) (z : Bool) : queue_May.f c l z = some (decide (1 ≤ c ∧ c ≤ 64 ∧ (l.length : Int) ≤ c)) := by
 unfold queue_May.f
 by_cases h1 : c ≥ 1
 ·rw [if_pos h1]
  by_cases h2 : c ≤ 64
  ·rw [if_pos h2, decide_eq_decide.2 (show ((l.length : Int) ≤ c) ↔ (1 ≤ c ∧ c ≤ 64 ∧ (l.length : Int) ≤ c) from ⟨fun h => ⟨h1, h2, h⟩, fun h => h.2.2⟩)]
  ·rw [if_neg h2, decide_eq_false (by omega)]
 ·rw [if_neg h1, decide_eq_false (by omega)]
theorem QNew_eq {c : Int} (h1 : 1 ≤ c) (h2 : c ≤ 64) : queue_New.f c = some (c, [], false, 0) := by
 unfold queue_New.f
 rw [QMay_eq, Option.bind_some, decide_eq_true ⟨h1, h2, by rw [List.length_nil]; omega⟩, if_pos rfl]
theorem QNew_no {c : Int} (h : ¬ (1 ≤ c ∧ c ≤ 64)) : queue_New.f c = some (0, [], false, 1) := by
 unfold queue_New.f
 rw [QMay_eq, Option.bind_some, decide_eq_false (by omega), if_neg (by simp)]
theorem QTake_none (c : Int) (z : Bool) : queue_Take.f c [] z = some (c, [], z, 0, false) := by
 unfold queue_Take.f
 rw [if_pos (by simp)]
theorem QTake_eq (c : Int) (x : Int) (l : List Int) (z : Bool) (h : l.length < 17592186044416) : queue_Take.f c (x :: l) z = some (c, l, z, x, true) := by
 unfold queue_Take.f
 rw [if_neg (by rw [List.length_cons]; omega), if_pos (by rw [List.length_cons]; omega), if_pos (by rw [List.length_cons]; omega), List.drop_succ_cons, List.drop_zero, Clone_eq h, Option.bind_some]
 rfl
theorem QClose_eq (c : Int) (l : List Int) (z : Bool) (h : l.length < 17592186044416) : queue_Close.f c l z = some (c, l, true) := by
 unfold queue_Close.f
 rw [Clone_eq h, Option.bind_some]
theorem QEnds_eq (c : Int) (l : List Int) (z : Bool) : queue_Ends.f c l z = some (z && decide (l = [])) := by
 unfold queue_Ends.f
 cases z <;> cases l <;> simp <;> omega
theorem QPut_closed (c : Int) (l : List Int) (x : Int) : queue_Put.f c l true x = some (c, l, true, 12) := by
 unfold queue_Put.f
 rw [if_pos rfl]
theorem QPut_full {c : Int} {l : List Int} (x : Int) (h : (l.length : Int) ≥ c) : queue_Put.f c l false x = some (c, l, false, 10) := by
 unfold queue_Put.f
 rw [if_neg (by simp), if_pos h]
theorem QPut_eq {c : Int} {l : List Int} (x : Int) (h : (l.length : Int) < c) (hl : l.length < 17592186044416) : queue_Put.f c l false x = some (c, l ++ [x], false, 0) := by
 unfold queue_Put.f
 rw [if_neg (by simp), if_neg (by omega), if_pos hl]

theorem ref03Same_eq (c : Int) (z : Bool) (a b : List Int) (ha : a.length ≤ 100000) {k : Nat} (hk : a.length < k) : lodgerref03_Same.f k c a z c b z = some (decide (a = b)) := by
 unfold lodgerref03_Same.f
 rw [if_pos rfl, if_pos (by simp), Ints_eq a b ha hk, Option.bind_some]

theorem awake_true : lodgerlaw03_awake.f = some true := by decide +kernel
theorem rMay_eq (c : Int) (l : List Int) (z : Bool) : lodgerref03_May.f c l z = queue_May.f c l z := rfl
theorem put_both {c : Int} {l : List Int} (z : Bool) (x : Int) (hl : l.length ≤ 1000) (hc : (l.length : Int) ≤ c) : ∃ r, queue_Put.f c l z x = some r ∧ lodgerref03_Put.f c l z x = some r ∧ r.2.1.length ≤ 2000 := by
 unfold lodgerref03_Put.f
 cases z with
 | true => exact ⟨_, QPut_closed c l x, by rw [if_pos rfl], by show l.length ≤ 2000; omega⟩
 | false =>
  by_cases h : (l.length : Int) = c
  ·exact ⟨_, QPut_full x (by omega), by rw [if_neg (by simp), if_pos h], by show l.length ≤ 2000; omega⟩
  ·refine ⟨_, QPut_eq x (by omega) (by omega), ?_, by show (l ++ [x]).length ≤ 2000; simp; omega⟩
   rw [if_neg (by simp), if_neg h, Option.bind_some, if_pos (by simp; omega), Option.bind_some, List.nil_append, if_pos (by omega)]
theorem take_both (c : Int) {l : List Int} (z : Bool) (hl : l.length ≤ 1000) : ∃ r, queue_Take.f c l z = some r ∧ lodgerref03_Take.f c l z = some r ∧ r.2.1.length ≤ 2000 := by
 unfold lodgerref03_Take.f
 cases l with
 | nil => exact ⟨_, QTake_none c z, by rw [if_pos (by rfl)], by simp⟩
 | cons x l =>
  simp only [List.length_cons] at hl
  refine ⟨_, QTake_eq c x l z (by omega), ?_, by show l.length ≤ 2000; omega⟩
  rw [if_neg (by simp; omega), Option.bind_some, if_pos (by simp; omega), Option.bind_some, if_pos (by simp; omega), if_pos (by simp)]
  rfl
theorem does_j2 {c : Int} {l : List Int} {z : Bool} (x : Int) (hl : l.length ≤ 200) {k : Nat} (hk : 3000 ≤ k) : lodgerlaw03_QueueDoes.j2 k x false c l z = some true := by
 obtain ⟨k, rfl⟩ : ∃ m, k = m + 1 := ⟨k - 1, by omega⟩
 simp only [lodgerlaw03_QueueDoes.j2]
 rw [if_neg (by simp), rMay_eq, QMay_eq, Option.bind_some]
 by_cases hm : 1 ≤ c ∧ c ≤ 64 ∧ (l.length : Int) ≤ c
 ·rw [decide_eq_true hm, if_pos rfl]
  obtain ⟨r, p1, p2, p3⟩ := put_both z x (show l.length ≤ 1000 by omega) hm.2.2
  obtain ⟨u, q1, q2, q3⟩ := take_both c z (show l.length ≤ 1000 by omega)
  rw [p1, p2, q1, q2, Option.bind_some, Option.bind_some, Option.bind_some, Option.bind_some, ref03Same_eq r.1 r.2.2.1 r.2.1 r.2.1 (by omega) (by omega), Option.bind_some, decide_eq_true rfl, if_pos rfl, if_pos rfl, ref03Same_eq u.1 u.2.2.1 u.2.1 u.2.1 (by omega) (by omega), Option.bind_some, decide_eq_true rfl, if_pos rfl, if_pos rfl, if_pos (by simp),
   QClose_eq _ _ _ (by omega), Option.bind_some, ref03Same_eq c true l l (by omega) (by omega), Option.bind_some, decide_eq_true rfl, if_pos rfl, QEnds_eq, Option.bind_some]
  cases z with
  | true =>
   cases l with
   | nil => simp
   | cons _ _ => simp; omega
  | false => simp
 ·rw [decide_eq_false hm, if_neg (by simp)]
theorem QueueDoes : lodgerlaw03_QueueDoes.Pure := by
 intro c l z x a w0 hl w1 w2 w3
 refine ⟨5000, ?_⟩
 unfold lodgerlaw03_QueueDoes.f
 rw [awake_true, Option.bind_some, if_pos rfl]
 by_cases h : (l.length : Int) > 200
 ·rw [if_pos h]
  simp only [lodgerlaw03_QueueDoes.j0, ↓reduceIte]
  rw [awake_true, Option.bind_some, if_pos rfl, decide_eq_true h]
 rw [if_neg h, rMay_eq, QMay_eq, Option.bind_some, Option.bind_some, bne_self_eq_false]
 show lodgerlaw03_QueueDoes.j0 (4999 + 1) x a false c l z = some true
 simp only [lodgerlaw03_QueueDoes.j0]
 rw [if_neg (by simp)]
 by_cases g1 : a ≥ 1
 ·by_cases g2 : a ≤ 64
  ·rw [QNew_eq g1 g2, Option.bind_some, if_pos g1, decide_eq_true g2]
   show lodgerlaw03_QueueDoes.j1 (4998 + 1) x a 0 true c l z a [] false = some true
   simp only [lodgerlaw03_QueueDoes.j1]
   rw [if_neg (by decide), if_pos trivial, ref03Same_eq _ _ _ _ (by simp) (by simp), Option.bind_some, if_pos (by simp)]
   exact does_j2 x (by omega) (by omega)
  ·rw [QNew_no (by omega), Option.bind_some, if_pos g1, decide_eq_false g2]
   show lodgerlaw03_QueueDoes.j1 (4998 + 1) x a 1 false c l z 0 [] false = some true
   simp only [lodgerlaw03_QueueDoes.j1]
   rw [if_neg (by decide), if_neg (by simp), if_pos trivial, ref03Same_eq _ _ _ _ (by simp) (by simp), Option.bind_some]
   exact does_j2 x (by omega) (by omega)
 ·rw [QNew_no (by omega), Option.bind_some, if_neg g1]
  show lodgerlaw03_QueueDoes.j1 (4998 + 1) x a 1 false c l z 0 [] false = some true
  simp only [lodgerlaw03_QueueDoes.j1]
  rw [if_neg (by decide), if_neg (by simp), if_pos trivial, ref03Same_eq _ _ _ _ (by simp) (by simp), Option.bind_some]
  exact does_j2 x (by omega) (by omega)

end Go.Proofs.Ytmchledhamhlgaa.Pure
