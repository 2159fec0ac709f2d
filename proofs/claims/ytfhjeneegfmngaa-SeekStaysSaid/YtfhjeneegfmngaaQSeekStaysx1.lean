/- The walk of SeekStays, part of it: what the Go functions answer; no condition. -/
import Derived.Test.YtfhjeneegfmngaaQSeekStaysx0
namespace Go.Proofs.Ytfhjeneegfmngaa.PSeekStays
open Go.RowKit Go.Proofs.YtfhjeneegfmngaaW.PrintWords Go.Proofs.YtfhjeneegfmngaaW.PrintLast Go.Proofs.YtfhjeneegfmngaaW.PrintMore
attribute [local go_sem] max2_int min2_int max_two min_two max_three min_three max_four min_four   -- for this text's walks alone
set_option linter.unusedVariables false
set_option linter.unusedSimpArgs false

theorem V_atq {α : Type} {d : Kd α} {e base m : Nat} {ok : Nat → Prop} {w w' : World} {v : Value} {xs : List α} (hq : w.drewN m = w') (h : Kd.V d e w base ok v xs) : Kd.V d e w' base ok v xs := by subst hq; exact Kd.V_drewN h m
section
variable {P : Program} {ops : Array Oper} {rest : List Oper} {o : Oper} {a : Act} {Q : Exit → Act → World → Prop}
theorem cut_full (t e : TypeId) {i : TypeInfo} (ht : P.underlying t = some (.slice e)) (hi : P.info? e = some i) (A : Option Addr) (n c : Nat) (hc : n ≤ c) :
  ∀ W : World, (Instr.slice t (.slice A n c) none (some (.int .i64 (n : Int))) (some (.int .i64 (n : Int)))).run P W = .ok (.slice A n n) W := by
 intro W
 have hel : P.elem t = e := by simp [Program.elem, ht]
 have hu : P.underlying t = some (.slice (P.elem t)) := by rw [hel]; exact ht
 have ha : (A.map fun x => x.add 0) = A := by cases A <;> simp [Addr.add]
 rw [run_slice_any W t A n c hu, hel]
 have h1 : (n : Int) ≤ (c : Int) := by omega
 simp [Instr.sliceBounds, run_sliceBound, sizeOf, typeInfo, hi, sliced, Result.andThen, ha, h1]
theorem cut_fullh (t e : TypeId) {i : TypeInfo} (ht : P.underlying t = some (.slice e)) (hi : P.info? e = some i) (A : Option Addr) (n c : Nat) (j : Int) (h0 : 0 ≤ j) (hj : j ≤ (n : Int)) (hc : n ≤ c) :
  ∀ W : World, (Instr.slice t (.slice A n c) none (some (.int .i64 j)) (some (.int .i64 j))).run P W = .ok (.slice A j.toNat j.toNat) W := by
 intro W
 have hel : P.elem t = e := by simp [Program.elem, ht]
 have hu : P.underlying t = some (.slice (P.elem t)) := by rw [hel]; exact ht
 have ha : (A.map fun x => x.add 0) = A := by cases A <;> simp [Addr.add]
 rw [run_slice_any W t A n c hu, hel]
 have h1 : j ≤ (c : Int) := by omega
 have h2 : (j.toNat : Int) = j := Int.toNat_of_nonneg h0
 simp [Instr.sliceBounds, run_sliceBound, sizeOf, typeInfo, hi, sliced, Result.andThen, ha, h0, h1, h2]
theorem C_take_full {kd : IntKind} {W : World} {A : Option Addr} {l y : List Int} {m : Nat} (hy : y = l.take m) (hm : m ≤ l.length) (h : Kd.C (Kd.int kd) W A l.length l) : Kd.C (Kd.int kd) W A y.length y := by
 subst hy
 exact Kd.C_take (m := m) h hm
theorem full_run (kd : IntKind) {w0 W : World} (base : Nat) (t ty e : TypeId) (z : Value) (bytes : Nat)
  (ht : P.underlying t = some (.slice e)) (hinfo : (P.info? e).map (fun i => (i.zero, i.size, i.bytes)) = some (some z, (Kd.int kd).sz, bytes)) (hz : z.cells.size = (Kd.int kd).sz) (hb0 : 0 < bytes)
  (A : Option Addr) (xs : List Int) (p : Int) (ok : Nat → Prop) (hfresh : ∀ k, W.heap.size ≤ k → ok k)
  (HO : Kd.C (Kd.int kd) W A xs.length xs) (HB : Below base w0 W) (hbase : base ≤ W.heap.size) (hl : (xs.length + 1) * bytes ≤ 140737488355328) :
  ∃ v1 w1, (Builtin.append_ #[t, t] ty #[.slice A xs.length xs.length, .slice (some ⟨W.heap.size, 0, none⟩) 1 1]).run P (W.alloc (.cells #[.int kd p] e)) = .ok v1 w1 ∧ (Kd.int kd).R e w1 base ok v1 (xs ++ [p]) ∧ Below base w0 w1 ∧ W.grownBy w1 (Value.slice none 0 0).ownBlock ∧ (v1.ownBlock = (Value.slice none 0 0).ownBlock ∨ ∃ b, v1.ownBlock = some b ∧ W.heap.size ≤ b) := by
 obtain ⟨i0, hi, hzz⟩ := Option.map_eq_some_iff.1 hinfo
 simp only [Prod.mk.injEq] at hzz
 obtain ⟨hz0, hz1, hz2⟩ := hzz
 have hlen : xs.length + 1 ≤ 140737488355328 := Nat.le_trans (Nat.le_mul_of_pos_right _ hb0) hl
 have hW : Below W.heap.size W (W.alloc (.cells #[.int kd p] e)) := below_alloc (Below.refl _ _) _
 have hnews : ∀ j u, [Value.int kd p][j]? = some u → (W.alloc (.cells #[.int kd p] e)).cell? ((⟨W.heap.size, 0, none⟩ : Addr).add j) = some u := by
  simpa using World.news_of_block (cs := #[.int kd p]) (t := e) (fr := (0, 0)) (heap_alloc_new W (.cells #[.int kd p] e))
 have hrun : ∃ v1 w1, (Builtin.append_ #[t, t] ty #[.slice A xs.length xs.length, .slice (some ⟨W.heap.size, 0, none⟩) 1 1]).run P (W.alloc (.cells #[.int kd p] e)) = .ok v1 w1 ∧ w1.ownsRow (W.alloc (.cells #[.int kd p] e)).heap.size e 1 v1 (xs.length + 1) (nums kd xs ++ [.int kd p]) ∧ (W.alloc (.cells #[.int kd p] e)).grownBy w1 none := by
  cases A with
  | some b =>
   exact run_append_arg_grows (P := P) (W.alloc (.cells #[.int kd p] e)) t ty e i0 z 1 bytes ht hi hz0 hz1 hz2 hz (by decide) b xs.length xs.length (nums kd xs) (by simp [nums]) (fun j u hj => by
    have hj' : j < xs.length := by have := (List.getElem?_eq_some_iff.1 hj).1; simpa [nums] using this
    obtain ⟨ad, e1, hc⟩ := Kd.at_int HO (j : Int) (by omega) (by omega)
    injection e1 with e1
    subst e1
    rw [Int.toNat_natCast] at hc
    rw [(hW.cell (World.block_lt_of_cell? W _ hc)).trans hc, ← hj]
    simp [nums, rd, List.getD_eq_getElem?_getD, hj']) ⟨W.heap.size, 0, none⟩ 1 1 [.int kd p] rfl hnews (by omega) (by simp only [maxLen]; omega) hl
  | none =>
   have h0 : xs.length = 0 := by
    rcases Nat.eq_zero_or_pos xs.length with h0 | h0
    ·exact h0
    ·obtain ⟨ad, e1, _⟩ := Kd.at_int HO 0 (by omega) (by omega)
     cases e1
   have hx0 : xs = [] := List.eq_nil_of_length_eq_zero h0
   subst hx0; obtain ⟨v', w', hr, r1, r2, _⟩ := run_append_own (P := P) (W.alloc (.cells #[.int kd p] e)) (W.alloc (.cells #[.int kd p] e)).heap.size t ty e i0 z 1 bytes ht hi hz0 hz1 hz2 hz (by decide) (.slice none 0 0) 0 [] (World.ownsRow_nil _ _ e 1) ⟨W.heap.size, 0, none⟩ 1 1 [.int kd p] rfl hnews (by simp [Value.oneCell']) (by simp only [maxLen]; omega) (by simpa using hl) (Nat.le_refl _)
   exact ⟨v', w', hr, by simpa [nums] using r1, r2⟩
 obtain ⟨v1, w1, hr, hown, hg⟩ := hrun
 have hown' : w1.ownsRow base e 1 v1 (xs.length + 1) (nums kd xs ++ [.int kd p]) := by
  obtain ⟨q1, q2⟩ := hown
  refine ⟨q1, ?_⟩
  rcases q2 with q | ⟨g, cap, cur, q1, q2, q3⟩
  ·exact .inl q
  ·exact .inr ⟨g, cap, cur, q1, by simp at q2; omega, q3⟩
 have hblk : ∀ k, v1.ownBlock = some k → W.heap.size ≤ k := by
  intro k hk
  rcases hown.2 with ⟨q, _⟩ | ⟨g, cap, cur, q1, q2, q3⟩
  ·subst q; simp [Value.ownBlock] at hk
  ·subst q1; simp [Value.ownBlock] at hk; simp at q2; omega
 refine ⟨v1, w1, hr, ?_, ?_, ?_, ?_⟩
 ·refine Kd.R_of_own (enc := Value.int kd) (h1 := fun _ => rfl) ?_ (fun k hk => hfresh k (hblk k hk))
  have e1 : nums kd xs ++ [.int kd p] = encs (Value.int kd) (xs ++ [p]) := by simp [nums, encs]
  rw [← e1, List.length_append]
  exact hown'
 ·exact pw_below_grown (HB.alloc hbase _) none (by simp; omega) hg (fun k e => by cases e)
 ·exact World.grownBy.trans (World.grownBy_alloc W _ _) hg
 ·rcases hown.2 with ⟨q, _⟩ | ⟨g, cap, cur, q1, q2, q3⟩
  ·subst q; exact .inl rfl
  ·subst q1; exact .inr ⟨g, by simp [Value.ownBlock], by simp at q2; omega⟩
end
section
variable {P : Program} {ops : Array Oper} {o : Oper} {a : Act} {Q : Exit → Act → World → Prop} {Kc : Act → World → Prop}
/-- R_append_full as a step of a region. -/
theorem R_append_full_step (kd : IntKind) {w0 W : World} (base : Nat) (hw : Region.wanted o (yielded ops a.tmps) = true) (s x : Operand) (t e : TypeId) (z : Value) (bytes : Nat)
  (ho : o.op = .call { callee := .builtin .append, args := #[s, x], argTypes := #[t, t] })
  (ht : P.underlying t = some (.slice e)) (hinfo : (P.info? e).map (fun i => (i.zero, i.size, i.bytes)) = some (some z, (Kd.int kd).sz, bytes)) (hz : z.cells.size = (Kd.int kd).sz) (hs0 : 0 < (Kd.int kd).sz) (hb0 : 0 < bytes)
  (A : Option Addr) (xs : List Int) (p : Int) (cs : List Value) (ok okp : Nat → Prop) (hs : a.eval s = .slice A xs.length xs.length) (hx : a.eval x = .slice (some ⟨W.heap.size, 0, none⟩) 1 1) (hp : (Kd.int kd).M W base okp p cs) (hokp : ∀ k, okp k → ok k ∧ some k ≠ (Value.slice none 0 0).ownBlock) (hfresh : ∀ k, W.heap.size ≤ k → ok k)
  (HO : Kd.C (Kd.int kd) W A xs.length xs) (HB : Below base w0 W) (hbase : base ≤ W.heap.size) (hl : (xs.length + 1) * bytes ≤ 140737488355328)
  (h : ∀ v1 w1, (Kd.int kd).R e w1 base ok v1 (xs ++ [p]) → Below base w0 w1 → W.grownBy w1 (Value.slice none 0 0).ownBlock → (v1.ownBlock = (Value.slice none 0 0).ownBlock ∨ ∃ b, v1.ownBlock = some b ∧ W.heap.size ≤ b) → Kc (a.put o.dst v1) w1) :
  if Region.wanted o (yielded ops a.tmps) = true then Oper.wp P o a (W.alloc (.cells cs.toArray e)) Kc Q else Kc (a.put o.dst undef) (W.alloc (.cells cs.toArray e)) := by
 have hcs : cs = [.int kd p] := hp
 subst hcs
 obtain ⟨v1, w1, hr, r1, r2, r3, r4⟩ := full_run (P := P) kd base t o.type e z bytes ht hinfo hz hb0 A xs p ok hfresh HO HB hbase hl
 rw [if_pos hw]
 unfold Oper.wp execOp
 simp only [ho, resolve, invoke, builtin, Sem.run_bind, Sem.run_pure, Result.andThen_ok, List.map_toArray, List.map_cons, List.map_nil, hs, hx, hr]
 exact h v1 w1 r1 r2 r3 r4
end
section
variable {P : Program} {ops : Array Oper} {rest : List Oper} {o : Oper} {a : Act} {Q : Exit → Act → World → Prop}
/-- append(x[:n:n], p): new memory, whatever x is: nothing of x's is written. -/
theorem R_append_full (kd : IntKind) {w0 W : World} (base : Nat) (hgd : o.guard = none) (s x : Operand) (t e : TypeId) (z : Value) (bytes : Nat)
  (ho : o.op = .call { callee := .builtin .append, args := #[s, x], argTypes := #[t, t] })
  (ht : P.underlying t = some (.slice e)) (hinfo : (P.info? e).map (fun i => (i.zero, i.size, i.bytes)) = some (some z, (Kd.int kd).sz, bytes)) (hz : z.cells.size = (Kd.int kd).sz) (hs0 : 0 < (Kd.int kd).sz) (hb0 : 0 < bytes)
  (A : Option Addr) (xs : List Int) (p : Int) (cs : List Value) (ok okp : Nat → Prop) (hs : a.eval s = .slice A xs.length xs.length) (hx : a.eval x = .slice (some ⟨W.heap.size, 0, none⟩) 1 1) (hp : (Kd.int kd).M W base okp p cs) (hokp : ∀ k, okp k → ok k ∧ some k ≠ (Value.slice none 0 0).ownBlock) (hfresh : ∀ k, W.heap.size ≤ k → ok k)
  (HO : Kd.C (Kd.int kd) W A xs.length xs) (HB : Below base w0 W) (hbase : base ≤ W.heap.size) (hl : (xs.length + 1) * bytes ≤ 140737488355328)
  (h : ∀ v1 w1, (Kd.int kd).R e w1 base ok v1 (xs ++ [p]) → Below base w0 w1 → W.grownBy w1 (Value.slice none 0 0).ownBlock → (v1.ownBlock = (Value.slice none 0 0).ownBlock ∨ ∃ b, v1.ownBlock = some b ∧ W.heap.size ≤ b) → wpList P ops Q rest (a.put o.dst v1) w1) :
  wpList P ops Q (o :: rest) a (W.alloc (.cells cs.toArray e)) := by
 have hcs : cs = [.int kd p] := hp
 subst hcs
 obtain ⟨i0, hi, hzz⟩ := Option.map_eq_some_iff.1 hinfo
 simp only [Prod.mk.injEq] at hzz
 obtain ⟨hz0, hz1, hz2⟩ := hzz
 have hlen : xs.length + 1 ≤ 140737488355328 := Nat.le_trans (Nat.le_mul_of_pos_right _ hb0) hl
 have hW : Below W.heap.size W (W.alloc (.cells #[.int kd p] e)) := below_alloc (Below.refl _ _) _
 refine wpList_append_grows (P := P) (W.alloc (.cells #[.int kd p] e)) hgd s x t ho e i0 z 1 bytes ht hi hz0 hz1 hz2 hz (by decide) A xs.length xs.length (nums kd xs) hs ?_ (by simp [nums]) ?_ ⟨W.heap.size, 0, none⟩ 1 1 [.int kd p] hx rfl ?_ (by simp [Value.oneCell']) (by omega) (by simp only [maxLen]; omega) hl ?_
 ·intro hA
  rcases Nat.eq_zero_or_pos xs.length with h0 | h0
  ·exact ⟨h0, h0⟩
  ·obtain ⟨ad, e1, _⟩ := Kd.at_int HO 0 (by omega) (by omega)
   rw [hA] at e1; cases e1
 ·intro b hb j u hj
  have hj' : j < xs.length := by have := (List.getElem?_eq_some_iff.1 hj).1; simpa [nums] using this
  obtain ⟨ad, e1, hc⟩ := Kd.at_int HO (j : Int) (by omega) (by omega)
  rw [hb] at e1
  injection e1 with e1
  subst e1
  rw [Int.toNat_natCast] at hc
  rw [(hW.cell (World.block_lt_of_cell? W _ hc)).trans hc, ← hj]
  simp [nums, rd, List.getD_eq_getElem?_getD, hj']
 ·simpa using World.news_of_block (cs := #[.int kd p]) (t := e) (fr := (0, 0)) (heap_alloc_new W (.cells #[.int kd p] e))
 ·intro v1 w1 hown hg
  have hb1 : Below W.heap.size W w1 := pw_below_grown hW none (by simp) hg (fun k e => by cases e)
  have hown' : w1.ownsRow base e 1 v1 (xs.length + 1) (nums kd xs ++ [.int kd p]) := by
   obtain ⟨q1, q2⟩ := hown
   refine ⟨q1, ?_⟩
   rcases q2 with q | ⟨g, cap, cur, q1, q2, q3⟩
   ·exact .inl q
   ·exact .inr ⟨g, cap, cur, q1, by simp at q2; omega, q3⟩
  have hblk : ∀ k, v1.ownBlock = some k → W.heap.size ≤ k := by
   intro k hk
   rcases hown.2 with ⟨q, _⟩ | ⟨g, cap, cur, q1, q2, q3⟩
   ·subst q; simp [Value.ownBlock] at hk
   ·subst q1; simp [Value.ownBlock] at hk; simp at q2; omega
  refine h v1 w1 ?_ ?_ ?_ ?_
  ·refine Kd.R_of_own (enc := Value.int kd) (h1 := fun _ => rfl) ?_ (fun k hk => hfresh k (hblk k hk))
   have e1 : nums kd xs ++ [.int kd p] = encs (Value.int kd) (xs ++ [p]) := by simp [nums, encs]
   rw [← e1, List.length_append]
   exact hown'
  ·exact pw_below_grown (HB.alloc hbase _) none (by simp; omega) hg (fun k e => by cases e)
  ·exact World.grownBy.trans (World.grownBy_alloc W _ _) hg
  ·rcases hown.2 with ⟨q, _⟩ | ⟨g, cap, cur, q1, q2, q3⟩
   ·subst q; exact .inl rfl
   ·subst q1; exact .inr ⟨g, by simp [Value.ownBlock], by simp at q2; omega⟩
end
section
variable {P : Program} {ops : Array Oper} {o : Oper} {a : Act} {Q : Exit → Act → World → Prop} {Kc : Act → World → Prop}
theorem run_append_nothing (w : World) (t ty e : TypeId) (i : TypeInfo) (ht : P.underlying t = some (.slice e)) (hi : P.info? e = some i) (A B : Option Addr) (n c c' : Nat) (hc : n ≤ c) :
  (Builtin.append_ #[t, t] ty #[.slice A n c, .slice B 0 c']).run P w = .ok (.slice A n c) w := by
 have h0 : ∀ a : Addr, Sem.run P (loadCells a 0) w = .ok #[] w := by intro a; simp [loadCells, loadCellsFrom]
 cases A <;> cases B <;> simp [h0, Result.andThen, Builtin.append_, run_underlying ht, sizeOf, typeInfo, hi, Builtin.lenOf, Builtin.firstCells, hc, storeCells]
/-- append(x[:n:n], y...) of whole numbers: with nothing to append the same slice, else new memory. -/
theorem V_append_rows_full_step (kd : IntKind) {w0 W : World} (base : Nat) (hw : Region.wanted o (yielded ops a.tmps) = true) (s x : Operand) (t e : TypeId) (z : Value) (bytes : Nat)
  (ho : o.op = .call { callee := .builtin .append, args := #[s, x], argTypes := #[t, t] })
  (ht : P.underlying t = some (.slice e)) (hinfo : (P.info? e).map (fun i => (i.zero, i.size, i.bytes)) = some (some z, 1, bytes)) (hz : z.cells.size = 1) (hb0 : 0 < bytes)
  (A : Option Addr) (xs : List Int) (B : Option Addr) (ys : List Int) (c : Nat) (ok : Nat → Prop) (hs : a.eval s = .slice A xs.length xs.length) (hx : a.eval x = .slice B ys.length c)
  (HO : Kd.V (Kd.int kd) e W base ok (.slice A xs.length xs.length) xs) (HY : Kd.C (Kd.int kd) W B ys.length ys) (hfresh : ∀ k, W.heap.size ≤ k → ok k) (HB : Below base w0 W) (hbase : base ≤ W.heap.size) (hl : (xs.length + ys.length) * bytes ≤ 140737488355328)
  (h : ∀ v1 w1, Kd.V (Kd.int kd) e w1 base ok v1 (xs ++ ys) → Below base w0 w1 → Kc (a.put o.dst v1) w1) :
  if Region.wanted o (yielded ops a.tmps) = true then Oper.wp P o a W Kc Q else Kc (a.put o.dst undef) W := by
 obtain ⟨i0, hi, hzz⟩ := Option.map_eq_some_iff.1 hinfo
 simp only [Prod.mk.injEq] at hzz
 obtain ⟨hz0, hz1, hz2⟩ := hzz
 have hlen : xs.length + ys.length ≤ 140737488355328 := Nat.le_trans (Nat.le_mul_of_pos_right _ hb0) hl
 have HX : Kd.C (Kd.int kd) W A xs.length xs := (Kd.V_reads' HO).2.2
 have hcell : ∀ {A : Option Addr} {xs : List Int}, Kd.C (Kd.int kd) W A xs.length xs → ∀ b, A = some b → ∀ j u, (nums kd xs)[j]? = some u → W.cell? (b.add j) = some u := by
  intro A xs hC b hb j u hj
  have hj' : j < xs.length := by have := (List.getElem?_eq_some_iff.1 hj).1; simpa [nums] using this
  obtain ⟨ad, e1, hc⟩ := Kd.at_int hC (j : Int) (by omega) (by omega)
  rw [hb] at e1
  injection e1 with e1
  subst e1
  rw [Int.toNat_natCast] at hc
  rw [hc, ← hj]
  simp [nums, rd, List.getD_eq_getElem?_getD, hj']
 rw [if_pos hw]
 rcases Nat.eq_zero_or_pos ys.length with y0 | y0
 ·have hy : ys = [] := List.eq_nil_of_length_eq_zero y0
  subst hy; have hr := run_append_nothing (P := P) W t o.type e i0 ht hi A B xs.length xs.length c (Nat.le_refl _)
  unfold Oper.wp execOp
  simp only [ho, resolve, invoke, builtin, Sem.run_bind, Sem.run_pure, Result.andThen_ok, List.map_toArray, List.map_cons, List.map_nil, hs, hx, List.length_nil, hr]
  exact h _ _ (by rw [List.append_nil]; exact HO) HB
 ·obtain ⟨ad, hB, _⟩ := Kd.at_int HY 0 (by omega) (by omega)
  subst hB
  have hrun : ∃ v1 w1, (Builtin.append_ #[t, t] o.type #[.slice A xs.length xs.length, .slice (some ad) ys.length c]).run P W = .ok v1 w1 ∧ w1.ownsRow W.heap.size e 1 v1 (xs.length + ys.length) (nums kd xs ++ nums kd ys) ∧ W.grownBy w1 none := by
   cases A with
   | some b => exact run_append_arg_grows (P := P) W t o.type e i0 z 1 bytes ht hi hz0 hz1 hz2 hz (by decide) b xs.length xs.length (nums kd xs) (by simp [nums]) (hcell HX b rfl) ad ys.length c (nums kd ys) (by simp [nums]) (hcell HY ad rfl) (by omega) (by simp only [maxLen]; omega) hl
   | none =>
    have h0 : xs.length = 0 := by
     rcases Nat.eq_zero_or_pos xs.length with h0 | h0
     ·exact h0
     ·obtain ⟨ad, e1, _⟩ := Kd.at_int HX 0 (by omega) (by omega)
      cases e1
    have hx0 : xs = [] := List.eq_nil_of_length_eq_zero h0
    subst hx0; obtain ⟨v', w', hr, r1, r2, _⟩ := run_append_own (P := P) W W.heap.size t o.type e i0 z 1 bytes ht hi hz0 hz1 hz2 hz (by decide) (.slice none 0 0) 0 [] (World.ownsRow_nil _ _ e 1) ad ys.length c (nums kd ys) (by simp [nums]) (hcell HY ad rfl) (by intro u hu; simp only [nums, List.mem_map] at hu; obtain ⟨y, _, rfl⟩ := hu; rfl) (by simp only [maxLen]; simp at hlen; omega) (by simpa using hl) (Nat.le_refl _)
    exact ⟨v', w', hr, by simpa [nums] using r1, r2⟩
  obtain ⟨v1, w1, hr, hown, hg⟩ := hrun
  have hown' : w1.ownsRow base e 1 v1 (xs.length + ys.length) (nums kd xs ++ nums kd ys) := by
   obtain ⟨q1, q2⟩ := hown
   refine ⟨q1, ?_⟩
   rcases q2 with q | ⟨g, cap, cur, q1, q2, q3⟩
   ·exact .inl q
   ·exact .inr ⟨g, cap, cur, q1, by omega, q3⟩
  have hblk : ∀ k, v1.ownBlock = some k → W.heap.size ≤ k := by
   intro k hk
   rcases hown.2 with ⟨q, _⟩ | ⟨g, cap, cur, q1, q2, q3⟩
   ·subst q; simp [Value.ownBlock] at hk
   ·subst q1; simp [Value.ownBlock] at hk; omega
  unfold Oper.wp execOp
  simp only [ho, resolve, invoke, builtin, Sem.run_bind, Sem.run_pure, Result.andThen_ok, List.map_toArray, List.map_cons, List.map_nil, hs, hx, hr]
  refine h v1 w1 (Kd.R_V (base := base) ?_) (pw_below_grown HB none hbase hg (fun k e => by cases e))
  refine Kd.R_of_own (enc := Value.int kd) (h1 := fun _ => rfl) ?_ (fun k hk => hfresh k (hblk k hk))
  have e1 : nums kd xs ++ nums kd ys = encs (Value.int kd) (xs ++ ys) := by simp [nums, encs]
  rw [← e1, List.length_append]
  exact hown'
end
/-- A row of numbers that is only read, and isn't empty: its block is none that its footprint bars. -/
theorem F_blk {q : IntKind} {W : World} {ok : Nat → Prop} {ad : Addr} {n : Nat} {xs : List Int} (h : Kd.F (Kd.int q) W ok (some ad) n xs) (hp : 0 < n) : ok ad.block := by
 refine Classical.byContradiction fun hno => ?_
 have h1 : (Kd.int q).C { W with heap := W.heap.setIfInBounds ad.block (.map #[] 0) } (some ad) n xs := h _ (fun k hk _ => by
  have hne : ad.block ≠ k := fun e => hno (e ▸ hk)
  simp [Array.getElem?_setIfInBounds, hne])
 obtain ⟨a, ha, hc⟩ := Kd.at_int h1 0 (Int.le_refl 0) (by omega)
 injection ha with ha
 subst ha
 have hb : (ad.add 0).block = ad.block := add_block ..
 by_cases hlt : ad.block < W.heap.size
 ·have e : (W.heap.setIfInBounds ad.block (.map #[] 0))[ad.block]? = some (.map #[] 0) := by simp [Array.getElem?_setIfInBounds, hlt]
  simp [World.cell?, hb, e] at hc
 ·have e : (W.heap.setIfInBounds ad.block (.map #[] 0))[ad.block]? = none := by simp [hlt]
  simp [World.cell?, hb, e] at hc
theorem Kd.V_away {q : IntKind} {e base g : Nat} {W : World} {ok : Nat → Prop} {v : Value} {xs : List Int} (h : (Kd.int q).V e W base ok v xs) (hok : ∀ k, ok k → k ≠ g) (hp : 0 < xs.length := by exact of_decide_eq_true (by assumption)) : some g ≠ v.ownBlock := by
 obtain ⟨A, c, rfl, _, hf⟩ := h
 cases A with
 | none => simp [Value.ownBlock]
 | some ad =>
  intro he
  simp only [Value.ownBlock, Option.some.injEq] at he
  exact hok _ (F_blk hf hp) he.symm

variable {tb_ : Int → Option Addr × Nat × Nat}

/-! ### block_Many: function 26 -/
def block_Many.f (a0_0 a0_1 : Int) : Option (Int) := if 0 ≤ (IntKind.u64.wrap (wrap64 (32 - a0_1))) then (some (shl .i64 1 (IntKind.u64.wrap (wrap64 (32 - a0_1))))) else (none)
set_option maxHeartbeats 8000000 in
set_option maxRecDepth 100000 in
theorem block_Many.calls (ab aa r : Int) (w : World) (h : block_Many.f ab aa = some r) :
  Calls Try.prog 26 #[.agg #[.int .u32 ab, .int .i64 aa]] w fun e w' => e = .returned (.int .i64 r) ∧ Below w.heap.size w w' := by
 have hu24 := Try.underlying24
 have HB := Aside0.mk (Below.refl w.heap.size w)
 have H : (if 0 ≤ (IntKind.u64.wrap (wrap64 (32 - aa))) then (some (shl .i64 1 (IntKind.u64.wrap (wrap64 (32 - aa))))) else (none)) = some r := h
 clear h
 obtain ⟨ji2, hji2⟩ : ∃ j_ : Int, (IntKind.u64.wrap (wrap64 (32 - aa))) = j_ := ⟨_, rfl⟩
 replace H : (if 0 ≤ (ji2) then (some (shl .i64 1 (ji2))) else (none)) = some r := by first | (rw [hji2] at H; exact H) | (simp only [hji2] at H ⊢; exact H)
 by_cases c3 : 0 ≤ (ji2)
 ·rw [if_pos c3] at H
  have ak := eq_true c3
  have al : decide (0 ≤ (ji2)) = true := decide_eq_true c3
  clear c3; obtain ⟨ji4, hji4⟩ : ∃ j_ : Int, (shl .i64 1 (ji2)) = j_ := ⟨_, rfl⟩
  replace H : (some ji4) = some r := by first | (rw [hji4] at H; exact H) | (simp only [hji4] at H ⊢; exact H)
  have hji4_ : (IntKind.i64.wrap (1 * 2 ^ min (ji2).toNat 64)) = ji4 := hji4
  have hji4z : (ji2) ≤ 64 → (IntKind.i64.wrap (1 * 2 ^ (ji2).toNat)) = ji4 := shl_small hji4
  have hji4u : (IntKind.i64.wrap (2 ^ min (ji2).toNat 64)) = ji4 := by have h_ := hji4_; rw [Int.one_mul] at h_; exact h_
  have hji4v : (ji2) ≤ 64 → (IntKind.i64.wrap (2 ^ (ji2).toNat)) = ji4 := fun hle_ => by have h_ := hji4z hle_; rw [Int.one_mul] at h_; exact h_
  have hji4y : (wrap64 (1 * 2 ^ min (ji2).toNat 64)) = ji4 := (i64_w _).symm.trans hji4_
  have hji4x : (ji2) ≤ 64 → (wrap64 (1 * 2 ^ (ji2).toNat)) = ji4 := fun h_ => (i64_w _).symm.trans (hji4z h_)
  obtain rfl := Option.some.inj H
  go_enter Try.func26, Try.ntmps26
  go_wp2_with (first | ((with_reducible refine gd_ 1 ?_); refine bx_ (N := 1) (cs := #[.int .u32 ab, .int .i64 aa]) (t := 24) ?_; intro aj hg w5 ac hb; have ai := gG_ hg HB; have ah := gG_ hg HB; replace HB := hS_ HB hb; clear hb hg; obtain ⟨ad, ae, af, ag⟩ := cz2_ (w := w5) ac))
  go_ret
  exact ⟨by first | rfl | (simp [errW_none, errW_some] <;> rfl) | (simp only [← hji2, ← hji4]; first | rfl | (simp [errW_none, errW_some] <;> rfl)) | (simp [*, errW_none, errW_some] <;> rfl), hB_ HB⟩
 ·rw [if_neg c3] at H
  exact absurd H (by simp)

/-! ### cells_is: function 37 -/
def cells_is.f (l0 : List Int) (a1 : Int) : Option (Bool) := if a1 ≥ 0 then (some (decide (a1 < (l0.length : Int)))) else (some false)
set_option maxHeartbeats 8000000 in
set_option maxRecDepth 100000 in
theorem cells_is.calls (A0 : Option Addr) (c0 : Nat) (l0 : List Int) (a1 : Int) (r : Bool) (w : World) (hr0 : Kd.C (Kd.int .u64) w A0 l0.length l0) (hc0 : l0.length ≤ c0) (h : cells_is.f l0 a1 = some r) :
  Calls Try.prog 37 #[.slice A0 l0.length c0, .int .i64 a1] w fun e w' => e = .returned (.bool r) ∧ Drawn0 w w' := by
 have ac := Aside0.mk hr0
 have ab := Aside0.mk hc0
 clear hr0 hc0
 have H : (if a1 ≥ 0 then (some (decide (a1 < (l0.length : Int)))) else (some false)) = some r := h
 clear h
 by_cases c3 : a1 ≥ 0
 ·rw [if_pos c3] at H
  have aa : decide (0 ≤ a1) = true := decide_eq_true c3
  clear c3
  obtain rfl := Option.some.inj H
  go_enter Try.func37, Try.ntmps37
  go_wp2
  go_ret
  exact ⟨rs_, dn_⟩
 ·rw [if_neg c3] at H
  have aa : decide (0 ≤ a1) = false := decide_eq_false c3
  clear c3
  obtain rfl := Option.some.inj H
  go_enter Try.func37, Try.ntmps37
  go_wp2
  go_ret
  exact ⟨rs_, dn_⟩

/-! ### cells_Load: function 27 -/
def cells_Load.f (l0 : List Int) (a1 : Int) : Option (Int) := (cells_is.f l0 a1).bind fun t102 => (if t102 = true then (if 0 ≤ a1 then (if a1 < (l0.length : Int) then (some (rd l0 a1)) else (none)) else (none)) else (some 0))
set_option maxHeartbeats 8000000 in
set_option maxRecDepth 100000 in
theorem cells_Load.calls (A0 : Option Addr) (c0 : Nat) (l0 : List Int) (a1 r : Int) (w : World) (hr0 : Kd.C (Kd.int .u64) w A0 l0.length l0) (hc0 : l0.length ≤ c0) (h : cells_Load.f l0 a1 = some r) :
  Calls Try.prog 27 #[.slice A0 l0.length c0, .int .i64 a1] w fun e w' => e = .returned (.int .u64 r) ∧ Drawn0 w w' := by
 have ab := Aside0.mk hr0
 have ac := Aside0.mk hc0
 clear hr0 hc0
 have H : ((cells_is.f l0 a1).bind fun aa => (if aa = true then (if 0 ≤ a1 then (if a1 < (l0.length : Int) then (some (rd l0 a1)) else (none)) else (none)) else (some 0))) = some r := h
 clear h
 replace H := bi_ H
 obtain ⟨aa, A30, H⟩ := H
 replace H : (if aa = true then (if 0 ≤ a1 then (if a1 < (l0.length : Int) then (some (rd l0 a1)) else (none)) else (none)) else (some 0)) = some r := H
 have A3 := Aside0.mk A30
 clear A30
 by_cases c4 : aa = true
 ·subst c4
  have H1 : (if 0 ≤ a1 then (if a1 < (l0.length : Int) then (some (rd l0 a1)) else (none)) else (none)) = some r := pf_ rfl H
  clear H; have H := H1; clear H1
  by_cases c5 : 0 ≤ a1
  ·rw [if_pos c5] at H
   have ad : decide (0 ≤ a1) = true := decide_eq_true c5
   clear c5
   by_cases c6 : a1 < (l0.length : Int)
   ·rw [if_pos c6] at H
    have ae : decide (a1 < (l0.length : Int)) = true := decide_eq_true c6
    clear c6
    obtain rfl := Option.some.inj H
    go_enter Try.func27, Try.ntmps27
    go_wp2_with (first | ((with_reducible refine gate_callee (f := 37) rfl ?_); refine goesL_ (some 7) rfl rfl Try.func37 (by kernel_rfl) rfl #[.slice A0 l0.length c0, .int .i64 a1] rfl am_ ?_; (with_reducible refine (cells_is.calls _ _ l0 a1 true _ ?side1 ?side2 A3.out).mono ?_); (case side1 => exact cD_ ab.out); (case side2 => exact ac.out); rintro e w' ⟨rfl, ⟨nd, rfl⟩⟩; refine ⟨_, rfl, ?_⟩; have p103 : 0 ≤ (a1 : Int) := od_; have q103 : a1 < (l0.length : Int) := od_; obtain ⟨ad103, e103, hx103_0⟩ := Kd.at_int ab.out a1 p103 q103; cases e103; replace p103 := eq_true p103; replace q103 := eq_true q103))
    go_ret
    exact ⟨rs_, dn_⟩
   ·rw [if_neg c6] at H
    exact absurd H (by simp)
  ·rw [if_neg c5] at H
   exact absurd H (by simp)
 ·replace c4 := Bool.eq_false_iff.mpr c4
  subst c4
  have H1 : (some 0) = some r := nf_ H
  clear H; have H := H1; clear H1
  obtain rfl := Option.some.inj H
  go_enter Try.func27, Try.ntmps27
  go_wp2_with (first | ((with_reducible refine gate_callee (f := 37) rfl ?_); refine goesL_ (some 7) rfl rfl Try.func37 (by kernel_rfl) rfl #[.slice A0 l0.length c0, .int .i64 a1] rfl am_ ?_; (with_reducible refine (cells_is.calls _ _ l0 a1 false _ ?side1 ?side2 A3.out).mono ?_); (case side1 => exact cD_ ab.out); (case side2 => exact ac.out); rintro e w' ⟨rfl, ⟨nd, rfl⟩⟩; refine ⟨_, rfl, ?_⟩))
  go_ret
  exact ⟨rs_, dn_⟩

/-! ### place_up_int: function 42 -/
def place_up_int.f (a0 a1 : Int) : Option (Int) := if a1 = 0 then (none) else (some (wrap64 (Int.tdiv (wrap64 ((wrap64 (a0 + a1)) - 1)) a1)))
set_option maxHeartbeats 8000000 in
set_option maxRecDepth 100000 in
theorem place_up_int.calls (a0 a1 r : Int) (w : World) (h : place_up_int.f a0 a1 = some r) :
  Calls Try.prog 42 #[.int .i64 a0, .int .i64 a1] w fun e w' => e = .returned (.int .i64 r) ∧ Drawn0 w w' := by
 have H : (if a1 = 0 then (none) else (some (wrap64 (Int.tdiv (wrap64 ((wrap64 (a0 + a1)) - 1)) a1)))) = some r := h
 clear h
 by_cases c3 : a1 = 0
 ·rw [if_pos c3] at H
  exact absurd H (by simp)
 ·rw [if_neg c3] at H
  have aa : (a1 == 0) = false := beq_eq_false_iff_ne.mpr c3
  have ab : (a1 != 0) = true := bne_iff_ne.mpr c3
  obtain rfl := Option.some.inj H
  go_enter Try.func42, Try.ntmps42
  go_wp2
  go_ret
  exact ⟨rs_, dn_⟩

/-! ### place_Leaves: function 31 -/
def place_Leaves.f (a0 : Int) : Option (Int) := (place_up_int.f a0 32).bind fun t104 => (some t104)
set_option maxHeartbeats 8000000 in
set_option maxRecDepth 100000 in
theorem place_Leaves.calls (a0 r : Int) (w : World) (h : place_Leaves.f a0 = some r) :
  Calls Try.prog 31 #[.int .i64 a0] w fun e w' => e = .returned (.int .i64 r) ∧ Drawn0 w w' := by
 have H : ((place_up_int.f a0 32).bind fun aa => (some aa)) = some r := h
 clear h
 replace H := bi_ H
 obtain ⟨aa, A20, H⟩ := H
 replace H : (some aa) = some r := H
 have A2 := Aside0.mk A20
 clear A20
 obtain rfl := Option.some.inj H
 go_enter Try.func31, Try.ntmps31
 go_wp2_with (first | ((with_reducible refine gate_callee (f := 42) rfl ?_); refine goesL_ (some 4) rfl rfl Try.func42 (by kernel_rfl) rfl #[.int .i64 a0, .int .i64 32] rfl am_ ?_; (with_reducible refine (place_up_int.calls a0 32 aa _ A2.out).mono ?_); rintro e w' ⟨rfl, ⟨nd, rfl⟩⟩; refine ⟨_, rfl, ?_⟩) | (go_at_call 42; (with_reducible refine (place_up_int.calls a0 32 aa _ A2.out).mono ?_); rintro e w' ⟨rfl, ⟨nd, rfl⟩⟩))
 go_ret
 exact ⟨rs_, dn_⟩

/-! ### place_Tops: function 38 -/
def place_Tops.f (a0 : Int) : Option (Int) := (place_Leaves.f a0).bind fun t105 => ((place_up_int.f t105 64).bind fun t106 => (some t106))
set_option maxHeartbeats 8000000 in
set_option maxRecDepth 100000 in
theorem place_Tops.calls (a0 r : Int) (w : World) (h : place_Tops.f a0 = some r) :
  Calls Try.prog 38 #[.int .i64 a0] w fun e w' => e = .returned (.int .i64 r) ∧ Drawn0 w w' := by
 have H : ((place_Leaves.f a0).bind fun aa => ((place_up_int.f aa 64).bind fun ab => (some ab))) = some r := h
 clear h
 replace H := bi_ H
 obtain ⟨aa, A20, H⟩ := H
 replace H : ((place_up_int.f aa 64).bind fun ab => (some ab)) = some r := H
 have A2 := Aside0.mk A20
 clear A20
 replace H := bi_ H
 obtain ⟨ab, A30, H⟩ := H
 replace H : (some ab) = some r := H
 have A3 := Aside0.mk A30
 clear A30
 obtain rfl := Option.some.inj H
 go_enter Try.func38, Try.ntmps38
 go_wp2_with (first | ((with_reducible refine gate_callee (f := 31) rfl ?_); refine goesL_ (some 4) rfl rfl Try.func31 (by kernel_rfl) rfl #[.int .i64 a0] rfl am_ ?_; (with_reducible refine (place_Leaves.calls a0 aa _ A2.out).mono ?_); rintro e w' ⟨rfl, ⟨nd, rfl⟩⟩; refine ⟨_, rfl, ?_⟩) | ((with_reducible refine gate_callee (f := 42) rfl ?_); refine goesL_ (some 5) rfl rfl Try.func42 (by kernel_rfl) rfl #[.int .i64 aa, .int .i64 64] rfl am_ ?_; (with_reducible refine (place_up_int.calls aa 64 ab _ A3.out).mono ?_); rintro e w' ⟨rfl, ⟨nd, rfl⟩⟩; refine ⟨_, rfl, ?_⟩) | (go_at_call 31; (with_reducible refine (place_Leaves.calls a0 aa _ A2.out).mono ?_); rintro e w' ⟨rfl, ⟨nd, rfl⟩⟩) | (go_at_call 42; (with_reducible refine (place_up_int.calls aa 64 ab _ A3.out).mono ?_); rintro e w' ⟨rfl, ⟨nd, rfl⟩⟩))
 go_ret
 exact ⟨rs_, dn_⟩

/-! ### place_Cells: function 28 -/
def place_Cells.f (a0 : Int) : Option (Int) := (place_Leaves.f a0).bind fun t107 => ((place_Tops.f a0).bind fun t108 => (some (wrap64 ((wrap64 (t107 + t108)) + 1))))
set_option maxHeartbeats 8000000 in
set_option maxRecDepth 100000 in
theorem place_Cells.calls (a0 r : Int) (w : World) (h : place_Cells.f a0 = some r) :
  Calls Try.prog 28 #[.int .i64 a0] w fun e w' => e = .returned (.int .i64 r) ∧ Drawn0 w w' := by
 have H : ((place_Leaves.f a0).bind fun ab => ((place_Tops.f a0).bind fun aa => (some (wrap64 ((wrap64 (ab + aa)) + 1))))) = some r := h
 clear h
 replace H := bi_ H
 obtain ⟨ab, A20, H⟩ := H
 replace H : ((place_Tops.f a0).bind fun aa => (some (wrap64 ((wrap64 (ab + aa)) + 1)))) = some r := H
 have A2 := Aside0.mk A20
 clear A20
 replace H := bi_ H
 obtain ⟨aa, A30, H⟩ := H
 replace H : (some (wrap64 ((wrap64 (ab + aa)) + 1))) = some r := H
 have A3 := Aside0.mk A30
 clear A30
 obtain rfl := Option.some.inj H
 go_enter Try.func28, Try.ntmps28
 go_wp2_with (first | ((with_reducible refine gate_callee (f := 31) rfl ?_); refine goesL_ (some 4) rfl rfl Try.func31 (by kernel_rfl) rfl #[.int .i64 a0] rfl am_ ?_; (with_reducible refine (place_Leaves.calls a0 ab _ A2.out).mono ?_); rintro e w' ⟨rfl, ⟨nd, rfl⟩⟩; refine ⟨_, rfl, ?_⟩) | ((with_reducible refine gate_callee (f := 38) rfl ?_); refine goesL_ (some 6) rfl rfl Try.func38 (by kernel_rfl) rfl #[.int .i64 a0] rfl am_ ?_; (with_reducible refine (place_Tops.calls a0 aa _ A3.out).mono ?_); rintro e w' ⟨rfl, ⟨nd, rfl⟩⟩; refine ⟨_, rfl, ?_⟩) | (go_at_call 31; (with_reducible refine (place_Leaves.calls a0 ab _ A2.out).mono ?_); rintro e w' ⟨rfl, ⟨nd, rfl⟩⟩) | (go_at_call 38; (with_reducible refine (place_Tops.calls a0 aa _ A3.out).mono ?_); rintro e w' ⟨rfl, ⟨nd, rfl⟩⟩))
 go_ret
 exact ⟨rs_, dn_⟩

/-! ### shard_Range: function 40 -/
def shard_Range.f (a0 a1 a2 : Int) : Option (Int × Int) := (place_Leaves.f a0).bind fun t109 => (if a1 = 0 then (none) else (some (wrap64 (Int.tdiv (wrap64 (a2 * t109)) a1), wrap64 (Int.tdiv (wrap64 ((wrap64 (a2 + 1)) * t109)) a1))))
set_option maxHeartbeats 8000000 in
set_option maxRecDepth 100000 in
theorem shard_Range.calls (a0 a1 : Int) (a2 r1 r2 : Int) (w : World) (h : shard_Range.f a0 a1 a2 = some (r1, r2)) :
  Calls Try.prog 40 #[.int .i64 a0, .int .i64 a1, .int .i64 a2] w fun e w' => e = .returned (.tuple #[.int .i64 r1, .int .i64 r2]) ∧ Drawn0 w w' := by
 have H : ((place_Leaves.f a0).bind fun aa => (if a1 = 0 then (none) else (some (wrap64 (Int.tdiv (wrap64 (a2 * aa)) a1), wrap64 (Int.tdiv (wrap64 ((wrap64 (a2 + 1)) * aa)) a1))))) = some (r1, r2) := h
 clear h
 replace H := bi_ H
 obtain ⟨aa, A40, H⟩ := H
 replace H : (if a1 = 0 then (none) else (some (wrap64 (Int.tdiv (wrap64 (a2 * aa)) a1), wrap64 (Int.tdiv (wrap64 ((wrap64 (a2 + 1)) * aa)) a1)))) = some (r1, r2) := H
 have A4 := Aside0.mk A40
 clear A40
 by_cases c5 : a1 = 0
 ·rw [if_pos c5] at H
  exact absurd H (by simp)
 ·rw [if_neg c5] at H
  have ab : (a1 == 0) = false := beq_eq_false_iff_ne.mpr c5
  have ac : (a1 != 0) = true := bne_iff_ne.mpr c5
  simp only [Option.some.injEq, Prod.mk.injEq] at H; obtain ⟨rfl, rfl⟩ := H
  go_enter Try.func40, Try.ntmps40
  go_wp2_with (first | (go_at_call 31; (with_reducible refine (place_Leaves.calls a0 aa _ A4.out).mono ?_); rintro e w' ⟨rfl, ⟨nd, rfl⟩⟩; (try first | exact ⟨rfl, _, World.drewN_drewN _ _ _⟩ | exact ⟨rfl, _, Eq.trans (World.drewN_drewN _ _ _) (congrArg (World.drewN _) (Nat.add_assoc _ _ _))⟩)))
  repeat (go_quiet (first | (go_at_call 31; (with_reducible refine (place_Leaves.calls a0 aa _ A4.out).mono ?_); rintro e w' ⟨rfl, ⟨nd, rfl⟩⟩; (try first | exact ⟨rfl, _, World.drewN_drewN _ _ _⟩ | exact ⟨rfl, _, Eq.trans (World.drewN_drewN _ _ _) (congrArg (World.drewN _) (Nat.add_assoc _ _ _))⟩))); try go_wp2_with (first | (go_at_call 31; (with_reducible refine (place_Leaves.calls a0 aa _ A4.out).mono ?_); rintro e w' ⟨rfl, ⟨nd, rfl⟩⟩; (try first | exact ⟨rfl, _, World.drewN_drewN _ _ _⟩ | exact ⟨rfl, _, Eq.trans (World.drewN_drewN _ _ _) (congrArg (World.drewN _) (Nat.add_assoc _ _ _))⟩))))
  go_ret2
  exact ⟨rs_, dn_⟩

/-! ### shard_From: function 41 -/
def shard_From.f (a0 a1 a2 : Int) : Option (Int) := if a0 = 0 then (none) else (some (Int.tmod (wrap64 (a1 + a2)) a0))
set_option maxHeartbeats 8000000 in
set_option maxRecDepth 100000 in
theorem shard_From.calls (a0 a1 : Int) (a2 r : Int) (w : World) (h : shard_From.f a0 a1 a2 = some r) :
  Calls Try.prog 41 #[.int .i64 a0, .int .i64 a1, .int .i64 a2] w fun e w' => e = .returned (.int .i64 r) ∧ Drawn0 w w' := by
 have H : (if a0 = 0 then (none) else (some (Int.tmod (wrap64 (a1 + a2)) a0))) = some r := h
 clear h
 by_cases c4 : a0 = 0
 ·rw [if_pos c4] at H
  exact absurd H (by simp)
 ·rw [if_neg c4] at H
  have aa : (a0 == 0) = false := beq_eq_false_iff_ne.mpr c4
  have ab : (a0 != 0) = true := bne_iff_ne.mpr c4
  obtain rfl := Option.some.inj H
  go_enter Try.func41, Try.ntmps41
  go_wp2
  go_ret
  exact ⟨rs_, dn_⟩

/-! ### seek_leaves: function 30 -/
def seek_leaves.f (a0_0 a0_1 : Int) (l0_2 : List Int) (a0_3 a0_4 : Int) (a0_5 a0_6 : Int) (a1_0 a1_1 : Int) (a1_2 a1_3 a1_4 : Int) (a1_5 : Bool) (a1_6 a1_7 : Int) (a1_8 a1_9 : Int) (a1_10 a1_11 : Int) (a1_12 a1_13 : Int) (a1_14 : Bool) (a1_15 a1_16 : Int) (a1_17 a1_18 a1_19 : Int) : Option (Int × Int) := (block_Many.f a0_0 a0_1).bind fun t112 => ((shard_From.f a0_3 a1_9 a1_10).bind fun t113 => ((shard_Range.f t112 a0_3 t113).bind fun bt114 => (some (bt114.1, bt114.2))))
def seek_leaves.T1 : Bool × List (List Nat × List Nat) := (true, [([], []), ([0], [0]), ([1], [1]), ([], []), ([3], [3]), ([], []), ([5], [5]), ([], []), ([7], [7]), ([], []), ([9], [9]), ([6, 8, 10, 2], [6, 8, 10]), ([2, 4, 11, 11], [2, 4, 11]), ([12], [12]), ([12], [12]), ([13, 12, 0, 1, 2, 3, 4, 5, 6, 7, 8, 9, 10, 11, 12, 13, 14], [13]), ([14, 15, 0, 1, 2, 3, 4, 5, 6, 7, 8, 9, 10, 11, 12, 13, 14, 15], [14])])
def seek_leaves.B1 : List Nat := [0, 1, 3, 0, 8, 0, 32, 0, 128, 0, 512, 2023, 4095, 8191, 8191, 32767, 65535]
theorem seek_leaves.tab1 : rtab .any (opsOf Try.f30 1) = seek_leaves.T1 := by kernel_rfl
theorem seek_leaves.bits1 : waitsOk seek_leaves.T1.2 seek_leaves.B1 = true := by kernel_rfl
set_option maxHeartbeats 8000000 in
set_option maxRecDepth 100000 in
theorem seek_leaves.calls (ah ai : Int) (aw : Option Addr) (aA : Nat) (aj : List Int) (ad ax : Int) (ay az : Int) (al am : Int) (an ao ap : Int) (aq : Bool) (ar au : Int) (av ae : Int) (a1_10 a1_11 : Int) (a1_12 a1_13 : Int) (a1_14 : Bool) (a1_15 a1_16 : Int) (a1_17 a1_18 : Int) (a1_19 r1 r2 : Int) (w : World) (hr0_2 : Kd.C (Kd.int .i64) w aw aj.length aj) (hc0_2 : aj.length ≤ aA) (h : seek_leaves.f ah ai aj ad ax ay az al am an ao ap aq ar au av ae a1_10 a1_11 a1_12 a1_13 a1_14 a1_15 a1_16 a1_17 a1_18 a1_19 = some (r1, r2)) :
  Calls Try.prog 30 #[.agg #[.int .u32 ah, .int .i64 ai, .slice aw aj.length aA, .int .i64 ad, .int .i64 ax, .int .i64 ay, .int .i64 az], .agg #[.int .i64 al, .int .u32 am, rho_ tb_ an, .int .i64 ao, .int .u32 ap, .bool aq, rho_ tb_ ar, rho_ tb_ au, .int .i64 av, .int .i64 ae, .int .i64 a1_10, .int .i64 a1_11, .int .i64 a1_12, .int .u64 a1_13, .bool a1_14, rho_ tb_ a1_15, .int .i64 a1_16, .int .i64 a1_17, .int .i64 a1_18, .int .i64 a1_19]] w fun e w' => e = .returned (.tuple #[.int .i64 r1, .int .i64 r2]) ∧ Below w.heap.size w w' := by
 have hu27 := Try.underlying27
 have hu41 := Try.underlying41
 have hu24 := Try.underlying24
 have aK := Aside0.mk hr0_2
 have aJ := Aside0.mk hc0_2
 clear hr0_2 hc0_2
 have HB := Aside0.mk (Below.refl w.heap.size w)
 have H : ((block_Many.f ah ai).bind fun ak => ((shard_From.f ad ae a1_10).bind fun ag => ((shard_Range.f ak ad ag).bind fun bt114 => (some (bt114.1, bt114.2))))) = some (r1, r2) := h
 clear h
 replace H := bi_ H
 obtain ⟨ak, A30, H⟩ := H
 replace H : ((shard_From.f ad ae a1_10).bind fun ag => ((shard_Range.f ak ad ag).bind fun bt114 => (some (bt114.1, bt114.2)))) = some (r1, r2) := H
 have A3 := Aside0.mk A30
 clear A30
 replace H := bi_ H
 obtain ⟨ag, A40, H⟩ := H
 replace H : ((shard_Range.f ak ad ag).bind fun bt114 => (some (bt114.1, bt114.2))) = some (r1, r2) := H
 have A4 := Aside0.mk A40
 clear A40
 replace H := bi_ H
 obtain ⟨⟨aB, aC⟩, A50, H⟩ := H
 replace H : (some (aB, aC)) = some (r1, r2) := H
 have A5 := Aside0.mk A50
 clear A50
 simp only [Option.some.injEq, Prod.mk.injEq] at H
 obtain ⟨rfl, rfl⟩ := H
 go_enter Try.func30, Try.ntmps30
 try go_wp2_with (first | ((with_reducible refine gd_ 2 ?_); refine bx_ (N := 2) (cs := #[.int .u32 ah, .int .i64 ai, .slice aw aj.length aA, .int .i64 ad, .int .i64 ax, .int .i64 ay, .int .i64 az]) (t := 27) ?_; intro af hg w6 ab hb; have aH := gG_ hg HB; have aF := gG_ hg HB; replace HB := hS_ HB hb; clear hb hg) | ((with_reducible refine gd_ 3 ?_); refine bx_ (N := 3) (cs := #[.int .i64 al, .int .u32 am, rho_ tb_ an, .int .i64 ao, .int .u32 ap, .bool aq, rho_ tb_ ar, rho_ tb_ au, .int .i64 av, .int .i64 ae, .int .i64 a1_10, .int .i64 a1_11, .int .i64 a1_12, .int .u64 a1_13, .bool a1_14, rho_ tb_ a1_15, .int .i64 a1_16, .int .i64 a1_17, .int .i64 a1_18, .int .i64 a1_19]) (t := 41) ?_; intro ac hg w7 aa hb; have aI := gG_ hg HB; have aG := gG_ hg HB; replace HB := hS_ HB hb; have aD := nL_ hg ab; have aE := nG_ hg ab; replace ab := bB_ ab hb; clear hb hg))
 have n0_ := Aside0.mk (blk_drew ab.out)
 have n1_ := Aside0.mk (blk_drew aa.out)
 have n2_ := Aside0.mk (below_drew1 HB.out)
 clear ab
 clear aa
 clear HB
 have ab := n0_
 have aa := n1_
 have HB := n2_
 clear n0_ n1_ n2_
 refine start_ (n := 17) (S := fun w' => w'.cell? ⟨af, 0, none⟩ = some (.int .u32 ah) ∧ w'.cell? ⟨af, 1, none⟩ = some (.int .i64 ai) ∧ w'.cell? ⟨af, 2, none⟩ = some (.slice aw aj.length aA) ∧ w'.cell? ⟨af, 3, none⟩ = some (.int .i64 ad) ∧ w'.cell? ⟨af, 4, none⟩ = some (.int .i64 ax) ∧ w'.cell? ⟨af, 5, none⟩ = some (.int .i64 ay) ∧ w'.cell? ⟨af, 6, none⟩ = some (.int .i64 az) ∧ w'.cell? ⟨ac, 0, none⟩ = some (.int .i64 al) ∧ w'.cell? ⟨ac, 1, none⟩ = some (.int .u32 am) ∧ w'.cell? ⟨ac, 2, none⟩ = some (rho_ tb_ an) ∧ w'.cell? ⟨ac, 3, none⟩ = some (.int .i64 ao) ∧ w'.cell? ⟨ac, 4, none⟩ = some (.int .u32 ap) ∧ w'.cell? ⟨ac, 5, none⟩ = some (.bool aq) ∧ w'.cell? ⟨ac, 6, none⟩ = some (rho_ tb_ ar) ∧ w'.cell? ⟨ac, 7, none⟩ = some (rho_ tb_ au) ∧ w'.cell? ⟨ac, 8, none⟩ = some (.int .i64 av) ∧ w'.cell? ⟨ac, 9, none⟩ = some (.int .i64 ae) ∧ w'.cell? ⟨ac, 10, none⟩ = some (.int .i64 a1_10) ∧ w'.cell? ⟨ac, 11, none⟩ = some (.int .i64 a1_11) ∧ w'.cell? ⟨ac, 12, none⟩ = some (.int .i64 a1_12) ∧ w'.cell? ⟨ac, 13, none⟩ = some (.int .u64 a1_13) ∧ w'.cell? ⟨ac, 14, none⟩ = some (.bool a1_14) ∧ w'.cell? ⟨ac, 15, none⟩ = some (rho_ tb_ a1_15) ∧ w'.cell? ⟨ac, 16, none⟩ = some (.int .i64 a1_16) ∧ w'.cell? ⟨ac, 17, none⟩ = some (.int .i64 a1_17) ∧ w'.cell? ⟨ac, 18, none⟩ = some (.int .i64 a1_18) ∧ w'.cell? ⟨ac, 19, none⟩ = some (.int .i64 a1_19)) (ds := []) (tf 17 0) (by kernel_rfl) rfl rfl ⟨(blk_cell ab.out 0).trans rfl, (blk_cell ab.out 1).trans rfl, (blk_cell ab.out 2).trans rfl, (blk_cell ab.out 3).trans rfl, (blk_cell ab.out 4).trans rfl, (blk_cell ab.out 5).trans rfl, (blk_cell ab.out 6).trans rfl, (blk_cell aa.out 0).trans rfl, (blk_cell aa.out 1).trans rfl, (blk_cell aa.out 2).trans rfl, (blk_cell aa.out 3).trans rfl, (blk_cell aa.out 4).trans rfl, (blk_cell aa.out 5).trans rfl, (blk_cell aa.out 6).trans rfl, (blk_cell aa.out 7).trans rfl, (blk_cell aa.out 8).trans rfl, (blk_cell aa.out 9).trans rfl, (blk_cell aa.out 10).trans rfl, (blk_cell aa.out 11).trans rfl, (blk_cell aa.out 12).trans rfl, (blk_cell aa.out 13).trans rfl, (blk_cell aa.out 14).trans rfl, (blk_cell aa.out 15).trans rfl, (blk_cell aa.out 16).trans rfl, (blk_cell aa.out 17).trans rfl, (blk_cell aa.out 18).trans rfl, (blk_cell aa.out 19).trans rfl⟩ (fun hHeld => ?_); refine with_tabW seek_leaves.tab1 seek_leaves.bits1 (fun HT_ HW_ => ?_)
 generalize w7.drew = w8 at ab aa HB hHeld ⊢
 refine puU_ 0 6 (tf 17 1) HT_ ?_
 refine puU_ 3 9 (tf 17 9) HT_ ?_
 refine puU_ 5 11 (tf 17 41) HT_ ?_
 refine puU_ 7 13 (tf 17 169) HT_ ?_
 refine puU_ 9 15 (tf 17 681) HT_ ?_
 refine tkU_ 1 7 (tf 17 683) rfl rfl HT_ HW_ hHeld (by rintro w' ⟨s0, s1, s2, s3, s4, s5, s6, s7, s8, s9, s10, s11, s12, s13, s14, s15, s16, s17, s18, s19, s20, s21, s22, s23, s24, s25, s26⟩; go_simp; with_reducible rfl) ?_
 refine tkU_ 4 10 (tf 17 699) rfl rfl HT_ HW_ hHeld (by rintro w' ⟨s0, s1, s2, s3, s4, s5, s6, s7, s8, s9, s10, s11, s12, s13, s14, s15, s16, s17, s18, s19, s20, s21, s22, s23, s24, s25, s26⟩; go_simp; with_reducible rfl) ?_
 refine tkU_ 6 12 (tf 17 763) rfl rfl HT_ HW_ hHeld (by rintro w' ⟨s0, s1, s2, s3, s4, s5, s6, s7, s8, s9, s10, s11, s12, s13, s14, s15, s16, s17, s18, s19, s20, s21, s22, s23, s24, s25, s26⟩; go_simp; with_reducible rfl) ?_
 refine tkU_ 8 14 (tf 17 1019) rfl rfl HT_ HW_ hHeld (by rintro w' ⟨s0, s1, s2, s3, s4, s5, s6, s7, s8, s9, s10, s11, s12, s13, s14, s15, s16, s17, s18, s19, s20, s21, s22, s23, s24, s25, s26⟩; go_simp; with_reducible rfl) ?_
 refine tkU_ 10 16 (tf 17 2043) rfl rfl HT_ HW_ hHeld (by rintro w' ⟨s0, s1, s2, s3, s4, s5, s6, s7, s8, s9, s10, s11, s12, s13, s14, s15, s16, s17, s18, s19, s20, s21, s22, s23, s24, s25, s26⟩; go_simp; with_reducible rfl) ?_
 refine on_ (i := 2) (N := some 8) (tf 17 2047) HT_ (fun K hK => ?_)
 refine goes_ Try.func26 (by kernel_rfl) rfl #[.agg #[.int .u32 ah, .int .i64 ai]] (by rfl) rfl rfl am_ ?_
 with_reducible refine (block_Many.calls ah ai ak _ A3.out).mono ?_
 rintro e w9 ⟨rfl, hb⟩
 refine ⟨_, rfl, ?_⟩
 have n0_ := bB_ ab hb
 have n1_ := Aside0.mk (blk_below (g := ac) (o := .cells #[.int .i64 al, .int .u32 am, rho_ tb_ an, .int .i64 ao, .int .u32 ap, .bool aq, rho_ tb_ ar, rho_ tb_ au, .int .i64 av, .int .i64 ae, .int .i64 a1_10, .int .i64 a1_11, .int .i64 a1_12, .int .u64 a1_13, .bool a1_14, rho_ tb_ a1_15, .int .i64 a1_16, .int .i64 a1_17, .int .i64 a1_18, .int .i64 a1_19] 41 (0, 0)) (bk_ aa) hb)
 have n2_ := Aside0.mk (below_step (hB_ HB) hb)
 clear ab
 clear aa
 clear HB
 have ab := n0_
 have aa := n1_
 have HB := n2_
 clear n0_ n1_ n2_
 (try clear hb)
 (try clear hb2)
 (try clear hk)
 (try clear hi)
 refine hK.out _ _ (ck7_ ab (cl20_ aa)) (fun hHeld => ?_)
 clear hK K
 refine norm_ (a' := ?_) ?_ ?_
 rotate_left
 ·show Act.put _ (some 8) _ = _
  simp only [Act.put, List.setIfInBounds_toArray, List.set_cons_zero, List.set_cons_succ, i64_w, i32_w]
  rfl
 refine on_ (i := 11) (N := some 17) (tf 17 4095) HT_ (fun K hK => ?_)
 refine goes_ Try.func41 (by kernel_rfl) rfl #[.int .i64 ad, .int .i64 ae, .int .i64 a1_10] (by rfl) rfl rfl am_ ?_
 with_reducible refine (shard_From.calls ad ae a1_10 ag _ A4.out).mono ?_
 rintro e w' ⟨rfl, ⟨nd, rfl⟩⟩
 refine ⟨_, rfl, ?_⟩
 refine hK.out _ _ (ck7_ ab (cl20_ aa)) (fun hHeld => ?_)
 clear hK K
 refine norm_ (a' := ?_) ?_ ?_
 rotate_left
 ·show Act.put _ (some 17) _ = _
  simp only [Act.put, List.setIfInBounds_toArray, List.set_cons_zero, List.set_cons_succ, i64_w, i32_w]
  rfl
 refine on_ (i := 12) (N := some 18) (tf 17 8191) HT_ (fun K hK => ?_)
 refine goes_ Try.func40 (by kernel_rfl) rfl #[.int .i64 ak, .int .i64 ad, .int .i64 ag] (by rfl) rfl rfl am_ ?_
 with_reducible refine (shard_Range.calls ak ad ag aB aC _ A5.out).mono ?_
 rintro e w' ⟨rfl, ⟨nd, rfl⟩⟩
 refine ⟨_, rfl, ?_⟩
 refine hK.out _ _ (ck7_ ab (cl20_ aa)) (fun hHeld => ?_)
 clear hK K
 refine norm_ (a' := ?_) ?_ ?_
 rotate_left
 ·show Act.put _ (some 18) _ = _
  simp only [Act.put, List.setIfInBounds_toArray, List.set_cons_zero, List.set_cons_succ, i64_w, i32_w]
  rfl
 refine puU_ 13 19 (tf 17 16383) HT_ ?_
 refine puU_ 14 20 (tf 17 32767) HT_ ?_
 refine puU_ 15 4 (tf 17 65535) HT_ ?_
 refine puU_ 16 5 (tf 17 131071) HT_ ?_
 refine done_ (done_of HT_.out (by kernel_rfl)) ?_
 try go_wp2
 go_ret2
 exact ⟨er_, hB_ HB⟩

/-! ### bits_Has: function 43 -/
def bits_Has.f (a0 a1 : Int) : Option (Bool) := if 0 ≤ (IntKind.u64.wrap (a1)) then (some ((Go.bits .and .u64 (shr .u64 a0 (IntKind.u64.wrap (a1))) 1) == 1)) else (none)
set_option maxHeartbeats 8000000 in
set_option maxRecDepth 100000 in
theorem bits_Has.calls (a0 a1 : Int) (r : Bool) (w : World) (h : bits_Has.f a0 a1 = some r) :
  Calls Try.prog 43 #[.int .u64 a0, .int .i64 a1] w fun e w' => e = .returned (.bool r) ∧ Drawn0 w w' := by
 have H : (if 0 ≤ (IntKind.u64.wrap (a1)) then (some ((Go.bits .and .u64 (shr .u64 a0 (IntKind.u64.wrap (a1))) 1) == 1)) else (none)) = some r := h
 clear h
 obtain ⟨ji3, hji3⟩ : ∃ j_ : Int, (IntKind.u64.wrap (a1)) = j_ := ⟨_, rfl⟩
 replace H : (if 0 ≤ (ji3) then (some ((Go.bits .and .u64 (shr .u64 a0 (ji3)) 1) == 1)) else (none)) = some r := by first | (rw [hji3] at H; exact H) | (simp only [hji3] at H ⊢; exact H)
 by_cases c4 : 0 ≤ (ji3)
 ·rw [if_pos c4] at H
  have aa := eq_true c4
  have ab : decide (0 ≤ (ji3)) = true := decide_eq_true c4
  clear c4; obtain ⟨ji5, hji5⟩ : ∃ j_ : Int, (shr .u64 a0 (ji3)) = j_ := ⟨_, rfl⟩
  replace H : (some ((Go.bits .and .u64 (ji5) 1) == 1)) = some r := by first | (rw [hji5] at H; exact H) | (simp only [hji5] at H ⊢; exact H)
  have hji5_ : (a0 / 2 ^ min (ji3).toNat 64) = ji5 := hji5
  have hji5z : (ji3) ≤ 64 → (a0 / 2 ^ (ji3).toNat) = ji5 := shr_small hji5
  obtain rfl := Option.some.inj H
  go_enter Try.func43, Try.ntmps43
  go_wp2
  go_ret
  exact ⟨by first | rfl | (simp; done) | (simp only [← hji3, ← hji5] <;> (first | rfl | simp)) | (simp [*]; done), dn_⟩
 ·rw [if_neg c4] at H
  exact absurd H (by simp)

/-! ### seek_tops: function 39, by hand -/

abbrev confV (a0_0 a0_1 : Int) (A0_2 : Option Addr) (l0_2 : List Int) (c0_2 : Nat) (a0_3 a0_4 a0_5 a0_6 : Int) : Array Value := #[.int .u32 a0_0, .int .i64 a0_1, .slice A0_2 l0_2.length c0_2, .int .i64 a0_3, .int .i64 a0_4, .int .i64 a0_5, .int .i64 a0_6]
theorem ne_far {w w' : World} {g h : Nat} {o : Obj} (hg : g = w.heap.size) (hB : w'.heap[h]? = some o) (hb : Below w'.heap.size w' w) : h ≠ g := by
  have := blk_lt hB
  have := hb.size
  omega
set_option maxHeartbeats 8000000 in
set_option maxRecDepth 100000 in
/-- seek.tops hands back the closure that hands out tops: it holds from, low, high and the operation. -/
theorem seek_tops.calls (a0_0 a0_1 : Int) (A0_2 : Option Addr) (c0_2 : Nat) (l0_2 : List Int) (a0_3 a0_4 a0_5 a0_6 : Int) (a1_0 a1_1 a1_2 a1_3 a1_4 : Int) (a1_5 : Bool) (a1_6 a1_7 a1_8 a1_9 a1_10 a1_11 a1_12 a1_13 : Int) (a1_14 : Bool) (a1_15 a1_16 a1_17 a1_18 a1_19 a2 : Int) (t1 t2 : Int) (w : World) (hr0_2 : Kd.C (Kd.int .i64) w A0_2 l0_2.length l0_2) (hc0_2 : l0_2.length ≤ c0_2)
    (h : seek_leaves.f a0_0 a0_1 l0_2 a0_3 a0_4 a0_5 a0_6 a1_0 a1_1 a1_2 a1_3 a1_4 a1_5 a1_6 a1_7 a1_8 a1_9 a1_10 a1_11 a1_12 a1_13 a1_14 a1_15 a1_16 a1_17 a1_18 a1_19 = some (t1, t2)) :
    Calls Try.prog 39 #[.agg #[.int .u32 a0_0, .int .i64 a0_1, .slice A0_2 l0_2.length c0_2, .int .i64 a0_3, .int .i64 a0_4, .int .i64 a0_5, .int .i64 a0_6], .agg #[.int .i64 a1_0, .int .u32 a1_1, rho_ tb_ a1_2, .int .i64 a1_3, .int .u32 a1_4, .bool a1_5, rho_ tb_ a1_6, rho_ tb_ a1_7, .int .i64 a1_8, .int .i64 a1_9, .int .i64 a1_10, .int .i64 a1_11, .int .i64 a1_12, .int .u64 a1_13, .bool a1_14, rho_ tb_ a1_15, .int .i64 a1_16, .int .i64 a1_17, .int .i64 a1_18, .int .i64 a1_19], .int .i64 a2] w fun e w' =>
      ∃ bf bl bh bo, e = .returned (.func (.func 46) #[] #[.pointer (some ⟨bf, 0, none⟩), .pointer (some ⟨bl, 0, none⟩), .pointer (some ⟨bh, 0, none⟩), .pointer (some ⟨bo, 0, none⟩)]) ∧ w'.cell? ⟨bf, 0, none⟩ = some (.int .i64 a2) ∧ w'.cell? ⟨bl, 0, none⟩ = some (.int .i64 t1) ∧ w'.cell? ⟨bh, 0, none⟩ = some (.int .i64 t2) ∧ w'.cell? ⟨bo, 13, none⟩ = some (.int .u64 a1_13) ∧ Below w.heap.size w w' := by
  have hu27 := Try.underlying27
  have hu41 := Try.underlying41
  have HR0_2 := Aside0.mk hr0_2
  have HC0_2 := Aside0.mk hc0_2
  have A4 := Aside0.mk h
  clear hr0_2 hc0_2 h
  have HB := Aside0.mk (Below.refl w.heap.size w)
  go_enter Try.func39, Try.ntmps39
  go_wp2_with (first
    | ((with_reducible refine gd_ 3 ?_); refine bx_ (N := 3) (cs := #[.int .u32 a0_0, .int .i64 a0_1, .slice A0_2 l0_2.length c0_2, .int .i64 a0_3, .int .i64 a0_4, .int .i64 a0_5, .int .i64 a0_6]) (t := 27) ?_; intro g3 hg w3 B3 hb; have G3 := gG_ hg HB; replace HB := hS_ HB hb; clear hb hg)
    | ((with_reducible refine gd_ 4 ?_); refine bx_ (N := 4) (cs := #[.int .i64 a1_0, .int .u32 a1_1, rho_ tb_ a1_2, .int .i64 a1_3, .int .u32 a1_4, .bool a1_5, rho_ tb_ a1_6, rho_ tb_ a1_7, .int .i64 a1_8, .int .i64 a1_9, .int .i64 a1_10, .int .i64 a1_11, .int .i64 a1_12, .int .u64 a1_13, .bool a1_14, rho_ tb_ a1_15, .int .i64 a1_16, .int .i64 a1_17, .int .i64 a1_18, .int .i64 a1_19]) (t := 41) ?_; intro g4 hg w4 B4 hb; have G4 := gG_ hg HB; replace B3 := bB_ B3 hb; replace HB := hS_ HB hb; clear hb hg)
    | ((with_reducible refine gd_ 5 ?_); refine bx_ (N := 5) (cs := #[.int .i64 a2]) (t := 3) ?_; intro g5 hg w5 B5 hb; have G5 := gG_ hg HB; replace B3 := bB_ B3 hb; replace B4 := bB_ B4 hb; replace HB := hS_ HB hb; clear hb hg)
    | ((with_reducible refine gd_ 10 ?_); refine wpList_load_row rfl 27 _ rfl g3 rfl 27 _ (0, 0) _ B3.out hu27 rfl (by kernel_rfl) ?_)
    | ((with_reducible refine gd_ 11 ?_); refine wpList_load_row rfl 41 _ rfl g4 rfl 41 _ (0, 0) _ B4.out hu41 rfl (by kernel_rfl) ?_)
    | ((with_reducible refine gate_callee (f := 30) rfl ?_); refine gM_ (some 12) Try.func30 (seek_leaves.calls (tb_ := tb_) a0_0 a0_1 _ _ l0_2 a0_3 a0_4 a0_5 a0_6 a1_0 a1_1 a1_2 a1_3 a1_4 a1_5 a1_6 a1_7 a1_8 a1_9 a1_10 a1_11 a1_12 a1_13 a1_14 a1_15 a1_16 a1_17 a1_18 a1_19 t1 t2 _ (cC_ HR0_2 HB) HC0_2.out A4.out) ?_; rintro e w6 ⟨rfl, hb⟩; refine ⟨_, rfl, ?_⟩; replace B4 := bB_ B4 hb; replace B5 := bB_ B5 hb; replace HB := hS_ HB hb; clear hb)
    | ((with_reducible refine gd_ 7 ?_); refine bx_ (N := 7) (cs := #[.int .i64 0]) (t := 3) ?_; intro g7 hg w7 B7 hb; have G7 := gG_ hg HB; have N47 := nL_ hg B4; have N57 := nL_ hg B5; replace B4 := bB_ B4 hb; replace B5 := bB_ B5 hb; replace HB := hS_ HB hb; clear hb hg)
    | ((with_reducible refine gd_ 8 ?_); refine bx_ (N := 8) (cs := #[.int .i64 0]) (t := 3) ?_; intro g8 hg w8 B8 hb; have G8 := gG_ hg HB; have N48 := nL_ hg B4; have N58 := nL_ hg B5; have N78 := nL_ hg B7; replace B4 := bB_ B4 hb; replace B5 := bB_ B5 hb; replace B7 := bB_ B7 hb; replace HB := hS_ HB hb; clear hb hg; have c7 : w8.cell? ⟨g7, 0, none⟩ = some (.int .i64 0) := (blk_cell B7.out 0).trans rfl; have c8 : w8.cell? ⟨g8, 0, none⟩ = some (.int .i64 0) := (blk_cell B8.out 0).trans rfl; have f7 := blk_frozen B7.out 0; have f8 := blk_frozen B8.out 0; have n78 := N78.out; have n87 := N78.out.symm))
  go_ret
  refine ⟨g5, g7, g8, g4, rfl, ?_, ?_, ?_, ?_, ?_⟩
  · exact (blk_cell (blk_far (blk_far B5.out N57.out _) N58.out _) 0).trans rfl
  · exact (blk_cell (blk_far (blk_put (cs := #[.int .i64 0]) (cs' := #[.int .i64 t1]) B7.out 0 _ rfl) N78.out _) 0).trans rfl
  · exact (blk_cell (blk_put (cs := #[.int .i64 0]) (cs' := #[.int .i64 t2]) (blk_far B8.out N78.out.symm _) 0 _ rfl) 0).trans rfl
  · exact (blk_cell (blk_far (blk_far B4.out N47.out _) N48.out _) 13).trans rfl
  · exact below_set (below_set HB.out G7.out) G8.out

end Go.Proofs.Ytfhjeneegfmngaa.PSeekStays
