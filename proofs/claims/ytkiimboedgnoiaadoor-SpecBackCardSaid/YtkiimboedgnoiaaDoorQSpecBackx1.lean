/- The walk of SpecBack, part of it: what the Go functions answer; no condition. -/
import Derived.Test.YtkiimboedgnoiaaDoorQSpecBackx0
namespace Go.Proofs.YtkiimboedgnoiaaDoor.PSpecBack
open Go.RowKit Go.Proofs.YtkiimboedgnoiaaDoorW.PrintWords Go.Proofs.YtkiimboedgnoiaaDoorW.PrintLast Go.Proofs.YtkiimboedgnoiaaDoorW.PrintMore
attribute [local go_sem] max2_int min2_int max_two min_two max_three min_three max_four min_four   -- for this text's walks alone
set_option linter.unusedVariables false
set_option linter.unusedSimpArgs false

theorem V_atq {α : Type} {d : Kd α} {e base m : Nat} {ok : Nat → Prop} {w w' : World} {v : Value} {xs : List α} (hq : w.drewN m = w') (h : Kd.V d e w base ok v xs) : Kd.V d e w' base ok v xs := by subst hq; exact Kd.V_drewN h m
section
variable {P : Program} {ops : Array Oper} {rest : List Oper} {o : Oper} {a : Act} {Q : Exit → Act → World → Prop}
theorem cut_full (t e : TypeId) {i : TypeInfo} (ht : P.underlying t = some (.slice e)) (hi : P.info? e = some i) (A : Option Addr) (n c : Nat) (hc : n ≤ c) :
  ∀ W : World, (Instr.slice t (.slice A n c) none (some (.int .i64 (n : Int))) (some (.int .i64 (n : Int)))).run P W = .ok (.slice A n n) W := by
 intro W
 have hel : P.elem t = e := by simp [Program.elem, ht]
 have hu : P.underlying t = some (.slice (P.elem t)) := by rw [hel]; exact ht
 have ha : (A.map fun x => x.add 0) = A := by cases A <;> simp [Addr.add]
 rw [run_slice_any W t A n c hu, hel]
 have h1 : (n : Int) ≤ (c : Int) := by omega
 simp [Instr.sliceBounds, run_sliceBound, sizeOf, typeInfo, hi, sliced, Result.andThen, ha, h1]
theorem cut_fullh (t e : TypeId) {i : TypeInfo} (ht : P.underlying t = some (.slice e)) (hi : P.info? e = some i) (A : Option Addr) (n c : Nat) (j : Int) (h0 : 0 ≤ j) (hj : j ≤ (n : Int)) (hc : n ≤ c) :
  ∀ W : World, (Instr.slice t (.slice A n c) none (some (.int .i64 j)) (some (.int .i64 j))).run P W = .ok (.slice A j.toNat j.toNat) W := by
 intro W
 have hel : P.elem t = e := by simp [Program.elem, ht]
 have hu : P.underlying t = some (.slice (P.elem t)) := by rw [hel]; exact ht
 have ha : (A.map fun x => x.add 0) = A := by cases A <;> simp [Addr.add]
 rw [run_slice_any W t A n c hu, hel]
 have h1 : j ≤ (c : Int) := by omega
 have h2 : (j.toNat : Int) = j := Int.toNat_of_nonneg h0
 simp [Instr.sliceBounds, run_sliceBound, sizeOf, typeInfo, hi, sliced, Result.andThen, ha, h0, h1, h2]
theorem C_take_full {kd : IntKind} {W : World} {A : Option Addr} {l y : List Int} {m : Nat} (hy : y = l.take m) (hm : m ≤ l.length) (h : Kd.C (Kd.int kd) W A l.length l) : Kd.C (Kd.int kd) W A y.length y := by
 subst hy
 exact Kd.C_take (m := m) h hm
theorem full_run (kd : IntKind) {w0 W : World} (base : Nat) (t ty e : TypeId) (z : Value) (bytes : Nat)
  (ht : P.underlying t = some (.slice e)) (hinfo : (P.info? e).map (fun i => (i.zero, i.size, i.bytes)) = some (some z, (Kd.int kd).sz, bytes)) (hz : z.cells.size = (Kd.int kd).sz) (hb0 : 0 < bytes)
  (A : Option Addr) (xs : List Int) (p : Int) (ok : Nat → Prop) (hfresh : ∀ k, W.heap.size ≤ k → ok k)
  (HO : Kd.C (Kd.int kd) W A xs.length xs) (HB : Below base w0 W) (hbase : base ≤ W.heap.size) (hl : (xs.length + 1) * bytes ≤ 140737488355328) :
  ∃ v1 w1, (Builtin.append_ #[t, t] ty #[.slice A xs.length xs.length, .slice (some ⟨W.heap.size, 0, none⟩) 1 1]).run P (W.alloc (.cells #[.int kd p] e)) = .ok v1 w1 ∧ (Kd.int kd).R e w1 base ok v1 (xs ++ [p]) ∧ Below base w0 w1 ∧ W.grownBy w1 (Value.slice none 0 0).ownBlock ∧ (v1.ownBlock = (Value.slice none 0 0).ownBlock ∨ ∃ b, v1.ownBlock = some b ∧ W.heap.size ≤ b) := by
 obtain ⟨i0, hi, hzz⟩ := Option.map_eq_some_iff.1 hinfo
 simp only [Prod.mk.injEq] at hzz
 obtain ⟨hz0, hz1, hz2⟩ := hzz
 have hlen : xs.length + 1 ≤ 140737488355328 := Nat.le_trans (Nat.le_mul_of_pos_right _ hb0) hl
 have hW : Below W.heap.size W (W.alloc (.cells #[.int kd p] e)) := below_alloc (Below.refl _ _) _
 have hnews : ∀ j u, [Value.int kd p][j]? = some u → (W.alloc (.cells #[.int kd p] e)).cell? ((⟨W.heap.size, 0, none⟩ : Addr).add j) = some u := by
  simpa using World.news_of_block (cs := #[.int kd p]) (t := e) (fr := (0, 0)) (heap_alloc_new W (.cells #[.int kd p] e))
 have hrun : ∃ v1 w1, (Builtin.append_ #[t, t] ty #[.slice A xs.length xs.length, .slice (some ⟨W.heap.size, 0, none⟩) 1 1]).run P (W.alloc (.cells #[.int kd p] e)) = .ok v1 w1 ∧ w1.ownsRow (W.alloc (.cells #[.int kd p] e)).heap.size e 1 v1 (xs.length + 1) (nums kd xs ++ [.int kd p]) ∧ (W.alloc (.cells #[.int kd p] e)).grownBy w1 none := by
  cases A with
  | some b =>
   exact run_append_arg_grows (P := P) (W.alloc (.cells #[.int kd p] e)) t ty e i0 z 1 bytes ht hi hz0 hz1 hz2 hz (by decide) b xs.length xs.length (nums kd xs) (by simp [nums]) (fun j u hj => by
    have hj' : j < xs.length := by have := (List.getElem?_eq_some_iff.1 hj).1; simpa [nums] using this
    obtain ⟨ad, e1, hc⟩ := Kd.at_int HO (j : Int) (by omega) (by omega)
    injection e1 with e1
    subst e1
    rw [Int.toNat_natCast] at hc
    rw [(hW.cell (World.block_lt_of_cell? W _ hc)).trans hc, ← hj]
    simp [nums, rd, List.getD_eq_getElem?_getD, hj']) ⟨W.heap.size, 0, none⟩ 1 1 [.int kd p] rfl hnews (by omega) (by simp only [maxLen]; omega) hl
  | none =>
   have h0 : xs.length = 0 := by
    rcases Nat.eq_zero_or_pos xs.length with h0 | h0
    ·exact h0
    ·obtain ⟨ad, e1, _⟩ := Kd.at_int HO 0 (by omega) (by omega)
     cases e1
   have hx0 : xs = [] := List.eq_nil_of_length_eq_zero h0
   subst hx0; obtain ⟨v', w', hr, r1, r2, _⟩ := run_append_own (P := P) (W.alloc (.cells #[.int kd p] e)) (W.alloc (.cells #[.int kd p] e)).heap.size t ty e i0 z 1 bytes ht hi hz0 hz1 hz2 hz (by decide) (.slice none 0 0) 0 [] (World.ownsRow_nil _ _ e 1) ⟨W.heap.size, 0, none⟩ 1 1 [.int kd p] rfl hnews (by simp [Value.oneCell']) (by simp only [maxLen]; omega) (by simpa using hl) (Nat.le_refl _)
   exact ⟨v', w', hr, by simpa [nums] using r1, r2⟩
 obtain ⟨v1, w1, hr, hown, hg⟩ := hrun
 have hown' : w1.ownsRow base e 1 v1 (xs.length + 1) (nums kd xs ++ [.int kd p]) := by
  obtain ⟨q1, q2⟩ := hown
  refine ⟨q1, ?_⟩
  rcases q2 with q | ⟨g, cap, cur, q1, q2, q3⟩
  ·exact .inl q
  ·exact .inr ⟨g, cap, cur, q1, by simp at q2; omega, q3⟩
 have hblk : ∀ k, v1.ownBlock = some k → W.heap.size ≤ k := by
  intro k hk
  rcases hown.2 with ⟨q, _⟩ | ⟨g, cap, cur, q1, q2, q3⟩
  ·subst q; simp [Value.ownBlock] at hk
  ·subst q1; simp [Value.ownBlock] at hk; simp at q2; omega
 refine ⟨v1, w1, hr, ?_, ?_, ?_, ?_⟩
 ·refine Kd.R_of_own (enc := Value.int kd) (h1 := fun _ => rfl) ?_ (fun k hk => hfresh k (hblk k hk))
  have e1 : nums kd xs ++ [.int kd p] = encs (Value.int kd) (xs ++ [p]) := by simp [nums, encs]
  rw [← e1, List.length_append]
  exact hown'
 ·exact pw_below_grown (HB.alloc hbase _) none (by simp; omega) hg (fun k e => by cases e)
 ·exact World.grownBy.trans (World.grownBy_alloc W _ _) hg
 ·rcases hown.2 with ⟨q, _⟩ | ⟨g, cap, cur, q1, q2, q3⟩
  ·subst q; exact .inl rfl
  ·subst q1; exact .inr ⟨g, by simp [Value.ownBlock], by simp at q2; omega⟩
end
section
variable {P : Program} {ops : Array Oper} {o : Oper} {a : Act} {Q : Exit → Act → World → Prop} {Kc : Act → World → Prop}
/-- R_append_full as a step of a region. -/
theorem R_append_full_step (kd : IntKind) {w0 W : World} (base : Nat) (hw : Region.wanted o (yielded ops a.tmps) = true) (s x : Operand) (t e : TypeId) (z : Value) (bytes : Nat)
  (ho : o.op = .call { callee := .builtin .append, args := #[s, x], argTypes := #[t, t] })
  (ht : P.underlying t = some (.slice e)) (hinfo : (P.info? e).map (fun i => (i.zero, i.size, i.bytes)) = some (some z, (Kd.int kd).sz, bytes)) (hz : z.cells.size = (Kd.int kd).sz) (hs0 : 0 < (Kd.int kd).sz) (hb0 : 0 < bytes)
  (A : Option Addr) (xs : List Int) (p : Int) (cs : List Value) (ok okp : Nat → Prop) (hs : a.eval s = .slice A xs.length xs.length) (hx : a.eval x = .slice (some ⟨W.heap.size, 0, none⟩) 1 1) (hp : (Kd.int kd).M W base okp p cs) (hokp : ∀ k, okp k → ok k ∧ some k ≠ (Value.slice none 0 0).ownBlock) (hfresh : ∀ k, W.heap.size ≤ k → ok k)
  (HO : Kd.C (Kd.int kd) W A xs.length xs) (HB : Below base w0 W) (hbase : base ≤ W.heap.size) (hl : (xs.length + 1) * bytes ≤ 140737488355328)
  (h : ∀ v1 w1, (Kd.int kd).R e w1 base ok v1 (xs ++ [p]) → Below base w0 w1 → W.grownBy w1 (Value.slice none 0 0).ownBlock → (v1.ownBlock = (Value.slice none 0 0).ownBlock ∨ ∃ b, v1.ownBlock = some b ∧ W.heap.size ≤ b) → Kc (a.put o.dst v1) w1) :
  if Region.wanted o (yielded ops a.tmps) = true then Oper.wp P o a (W.alloc (.cells cs.toArray e)) Kc Q else Kc (a.put o.dst undef) (W.alloc (.cells cs.toArray e)) := by
 have hcs : cs = [.int kd p] := hp
 subst hcs
 obtain ⟨v1, w1, hr, r1, r2, r3, r4⟩ := full_run (P := P) kd base t o.type e z bytes ht hinfo hz hb0 A xs p ok hfresh HO HB hbase hl
 rw [if_pos hw]
 unfold Oper.wp execOp
 simp only [ho, resolve, invoke, builtin, Sem.run_bind, Sem.run_pure, Result.andThen_ok, List.map_toArray, List.map_cons, List.map_nil, hs, hx, hr]
 exact h v1 w1 r1 r2 r3 r4
end
section
variable {P : Program} {ops : Array Oper} {rest : List Oper} {o : Oper} {a : Act} {Q : Exit → Act → World → Prop}
/-- append(x[:n:n], p): new memory, whatever x is: nothing of x's is written. -/
theorem R_append_full (kd : IntKind) {w0 W : World} (base : Nat) (hgd : o.guard = none) (s x : Operand) (t e : TypeId) (z : Value) (bytes : Nat)
  (ho : o.op = .call { callee := .builtin .append, args := #[s, x], argTypes := #[t, t] })
  (ht : P.underlying t = some (.slice e)) (hinfo : (P.info? e).map (fun i => (i.zero, i.size, i.bytes)) = some (some z, (Kd.int kd).sz, bytes)) (hz : z.cells.size = (Kd.int kd).sz) (hs0 : 0 < (Kd.int kd).sz) (hb0 : 0 < bytes)
  (A : Option Addr) (xs : List Int) (p : Int) (cs : List Value) (ok okp : Nat → Prop) (hs : a.eval s = .slice A xs.length xs.length) (hx : a.eval x = .slice (some ⟨W.heap.size, 0, none⟩) 1 1) (hp : (Kd.int kd).M W base okp p cs) (hokp : ∀ k, okp k → ok k ∧ some k ≠ (Value.slice none 0 0).ownBlock) (hfresh : ∀ k, W.heap.size ≤ k → ok k)
  (HO : Kd.C (Kd.int kd) W A xs.length xs) (HB : Below base w0 W) (hbase : base ≤ W.heap.size) (hl : (xs.length + 1) * bytes ≤ 140737488355328)
  (h : ∀ v1 w1, (Kd.int kd).R e w1 base ok v1 (xs ++ [p]) → Below base w0 w1 → W.grownBy w1 (Value.slice none 0 0).ownBlock → (v1.ownBlock = (Value.slice none 0 0).ownBlock ∨ ∃ b, v1.ownBlock = some b ∧ W.heap.size ≤ b) → wpList P ops Q rest (a.put o.dst v1) w1) :
  wpList P ops Q (o :: rest) a (W.alloc (.cells cs.toArray e)) := by
 have hcs : cs = [.int kd p] := hp
 subst hcs
 obtain ⟨i0, hi, hzz⟩ := Option.map_eq_some_iff.1 hinfo
 simp only [Prod.mk.injEq] at hzz
 obtain ⟨hz0, hz1, hz2⟩ := hzz
 have hlen : xs.length + 1 ≤ 140737488355328 := Nat.le_trans (Nat.le_mul_of_pos_right _ hb0) hl
 have hW : Below W.heap.size W (W.alloc (.cells #[.int kd p] e)) := below_alloc (Below.refl _ _) _
 refine wpList_append_grows (P := P) (W.alloc (.cells #[.int kd p] e)) hgd s x t ho e i0 z 1 bytes ht hi hz0 hz1 hz2 hz (by decide) A xs.length xs.length (nums kd xs) hs ?_ (by simp [nums]) ?_ ⟨W.heap.size, 0, none⟩ 1 1 [.int kd p] hx rfl ?_ (by simp [Value.oneCell']) (by omega) (by simp only [maxLen]; omega) hl ?_
 ·intro hA
  rcases Nat.eq_zero_or_pos xs.length with h0 | h0
  ·exact ⟨h0, h0⟩
  ·obtain ⟨ad, e1, _⟩ := Kd.at_int HO 0 (by omega) (by omega)
   rw [hA] at e1; cases e1
 ·intro b hb j u hj
  have hj' : j < xs.length := by have := (List.getElem?_eq_some_iff.1 hj).1; simpa [nums] using this
  obtain ⟨ad, e1, hc⟩ := Kd.at_int HO (j : Int) (by omega) (by omega)
  rw [hb] at e1
  injection e1 with e1
  subst e1
  rw [Int.toNat_natCast] at hc
  rw [(hW.cell (World.block_lt_of_cell? W _ hc)).trans hc, ← hj]
  simp [nums, rd, List.getD_eq_getElem?_getD, hj']
 ·simpa using World.news_of_block (cs := #[.int kd p]) (t := e) (fr := (0, 0)) (heap_alloc_new W (.cells #[.int kd p] e))
 ·intro v1 w1 hown hg
  have hb1 : Below W.heap.size W w1 := pw_below_grown hW none (by simp) hg (fun k e => by cases e)
  have hown' : w1.ownsRow base e 1 v1 (xs.length + 1) (nums kd xs ++ [.int kd p]) := by
   obtain ⟨q1, q2⟩ := hown
   refine ⟨q1, ?_⟩
   rcases q2 with q | ⟨g, cap, cur, q1, q2, q3⟩
   ·exact .inl q
   ·exact .inr ⟨g, cap, cur, q1, by simp at q2; omega, q3⟩
  have hblk : ∀ k, v1.ownBlock = some k → W.heap.size ≤ k := by
   intro k hk
   rcases hown.2 with ⟨q, _⟩ | ⟨g, cap, cur, q1, q2, q3⟩
   ·subst q; simp [Value.ownBlock] at hk
   ·subst q1; simp [Value.ownBlock] at hk; simp at q2; omega
  refine h v1 w1 ?_ ?_ ?_ ?_
  ·refine Kd.R_of_own (enc := Value.int kd) (h1 := fun _ => rfl) ?_ (fun k hk => hfresh k (hblk k hk))
   have e1 : nums kd xs ++ [.int kd p] = encs (Value.int kd) (xs ++ [p]) := by simp [nums, encs]
   rw [← e1, List.length_append]
   exact hown'
  ·exact pw_below_grown (HB.alloc hbase _) none (by simp; omega) hg (fun k e => by cases e)
  ·exact World.grownBy.trans (World.grownBy_alloc W _ _) hg
  ·rcases hown.2 with ⟨q, _⟩ | ⟨g, cap, cur, q1, q2, q3⟩
   ·subst q; exact .inl rfl
   ·subst q1; exact .inr ⟨g, by simp [Value.ownBlock], by simp at q2; omega⟩
end
section
variable {P : Program} {ops : Array Oper} {o : Oper} {a : Act} {Q : Exit → Act → World → Prop} {Kc : Act → World → Prop}
theorem run_append_nothing (w : World) (t ty e : TypeId) (i : TypeInfo) (ht : P.underlying t = some (.slice e)) (hi : P.info? e = some i) (A B : Option Addr) (n c c' : Nat) (hc : n ≤ c) :
  (Builtin.append_ #[t, t] ty #[.slice A n c, .slice B 0 c']).run P w = .ok (.slice A n c) w := by
 have h0 : ∀ a : Addr, Sem.run P (loadCells a 0) w = .ok #[] w := by intro a; simp [loadCells, loadCellsFrom]
 cases A <;> cases B <;> simp [h0, Result.andThen, Builtin.append_, run_underlying ht, sizeOf, typeInfo, hi, Builtin.lenOf, Builtin.firstCells, hc, storeCells]
/-- append(x[:n:n], y...) of whole numbers: with nothing to append the same slice, else new memory. -/
theorem V_append_rows_full_step (kd : IntKind) {w0 W : World} (base : Nat) (hw : Region.wanted o (yielded ops a.tmps) = true) (s x : Operand) (t e : TypeId) (z : Value) (bytes : Nat)
  (ho : o.op = .call { callee := .builtin .append, args := #[s, x], argTypes := #[t, t] })
  (ht : P.underlying t = some (.slice e)) (hinfo : (P.info? e).map (fun i => (i.zero, i.size, i.bytes)) = some (some z, 1, bytes)) (hz : z.cells.size = 1) (hb0 : 0 < bytes)
  (A : Option Addr) (xs : List Int) (B : Option Addr) (ys : List Int) (c : Nat) (ok : Nat → Prop) (hs : a.eval s = .slice A xs.length xs.length) (hx : a.eval x = .slice B ys.length c)
  (HO : Kd.V (Kd.int kd) e W base ok (.slice A xs.length xs.length) xs) (HY : Kd.C (Kd.int kd) W B ys.length ys) (hfresh : ∀ k, W.heap.size ≤ k → ok k) (HB : Below base w0 W) (hbase : base ≤ W.heap.size) (hl : (xs.length + ys.length) * bytes ≤ 140737488355328)
  (h : ∀ v1 w1, Kd.V (Kd.int kd) e w1 base ok v1 (xs ++ ys) → Below base w0 w1 → Kc (a.put o.dst v1) w1) :
  if Region.wanted o (yielded ops a.tmps) = true then Oper.wp P o a W Kc Q else Kc (a.put o.dst undef) W := by
 obtain ⟨i0, hi, hzz⟩ := Option.map_eq_some_iff.1 hinfo
 simp only [Prod.mk.injEq] at hzz
 obtain ⟨hz0, hz1, hz2⟩ := hzz
 have hlen : xs.length + ys.length ≤ 140737488355328 := Nat.le_trans (Nat.le_mul_of_pos_right _ hb0) hl
 have HX : Kd.C (Kd.int kd) W A xs.length xs := (Kd.V_reads' HO).2.2
 have hcell : ∀ {A : Option Addr} {xs : List Int}, Kd.C (Kd.int kd) W A xs.length xs → ∀ b, A = some b → ∀ j u, (nums kd xs)[j]? = some u → W.cell? (b.add j) = some u := by
  intro A xs hC b hb j u hj
  have hj' : j < xs.length := by have := (List.getElem?_eq_some_iff.1 hj).1; simpa [nums] using this
  obtain ⟨ad, e1, hc⟩ := Kd.at_int hC (j : Int) (by omega) (by omega)
  rw [hb] at e1
  injection e1 with e1
  subst e1
  rw [Int.toNat_natCast] at hc
  rw [hc, ← hj]
  simp [nums, rd, List.getD_eq_getElem?_getD, hj']
 rw [if_pos hw]
 rcases Nat.eq_zero_or_pos ys.length with y0 | y0
 ·have hy : ys = [] := List.eq_nil_of_length_eq_zero y0
  subst hy; have hr := run_append_nothing (P := P) W t o.type e i0 ht hi A B xs.length xs.length c (Nat.le_refl _)
  unfold Oper.wp execOp
  simp only [ho, resolve, invoke, builtin, Sem.run_bind, Sem.run_pure, Result.andThen_ok, List.map_toArray, List.map_cons, List.map_nil, hs, hx, List.length_nil, hr]
  exact h _ _ (by rw [List.append_nil]; exact HO) HB
 ·obtain ⟨ad, hB, _⟩ := Kd.at_int HY 0 (by omega) (by omega)
  subst hB
  have hrun : ∃ v1 w1, (Builtin.append_ #[t, t] o.type #[.slice A xs.length xs.length, .slice (some ad) ys.length c]).run P W = .ok v1 w1 ∧ w1.ownsRow W.heap.size e 1 v1 (xs.length + ys.length) (nums kd xs ++ nums kd ys) ∧ W.grownBy w1 none := by
   cases A with
   | some b => exact run_append_arg_grows (P := P) W t o.type e i0 z 1 bytes ht hi hz0 hz1 hz2 hz (by decide) b xs.length xs.length (nums kd xs) (by simp [nums]) (hcell HX b rfl) ad ys.length c (nums kd ys) (by simp [nums]) (hcell HY ad rfl) (by omega) (by simp only [maxLen]; omega) hl
   | none =>
    have h0 : xs.length = 0 := by
     rcases Nat.eq_zero_or_pos xs.length with h0 | h0
     ·exact h0
     ·obtain ⟨ad, e1, _⟩ := Kd.at_int HX 0 (by omega) (by omega)
      cases e1
    have hx0 : xs = [] := List.eq_nil_of_length_eq_zero h0
    subst hx0; obtain ⟨v', w', hr, r1, r2, _⟩ := run_append_own (P := P) W W.heap.size t o.type e i0 z 1 bytes ht hi hz0 hz1 hz2 hz (by decide) (.slice none 0 0) 0 [] (World.ownsRow_nil _ _ e 1) ad ys.length c (nums kd ys) (by simp [nums]) (hcell HY ad rfl) (by intro u hu; simp only [nums, List.mem_map] at hu; obtain ⟨y, _, rfl⟩ := hu; rfl) (by simp only [maxLen]; simp at hlen; omega) (by simpa using hl) (Nat.le_refl _)
    exact ⟨v', w', hr, by simpa [nums] using r1, r2⟩
  obtain ⟨v1, w1, hr, hown, hg⟩ := hrun
  have hown' : w1.ownsRow base e 1 v1 (xs.length + ys.length) (nums kd xs ++ nums kd ys) := by
   obtain ⟨q1, q2⟩ := hown
   refine ⟨q1, ?_⟩
   rcases q2 with q | ⟨g, cap, cur, q1, q2, q3⟩
   ·exact .inl q
   ·exact .inr ⟨g, cap, cur, q1, by omega, q3⟩
  have hblk : ∀ k, v1.ownBlock = some k → W.heap.size ≤ k := by
   intro k hk
   rcases hown.2 with ⟨q, _⟩ | ⟨g, cap, cur, q1, q2, q3⟩
   ·subst q; simp [Value.ownBlock] at hk
   ·subst q1; simp [Value.ownBlock] at hk; omega
  unfold Oper.wp execOp
  simp only [ho, resolve, invoke, builtin, Sem.run_bind, Sem.run_pure, Result.andThen_ok, List.map_toArray, List.map_cons, List.map_nil, hs, hx, hr]
  refine h v1 w1 (Kd.R_V (base := base) ?_) (pw_below_grown HB none hbase hg (fun k e => by cases e))
  refine Kd.R_of_own (enc := Value.int kd) (h1 := fun _ => rfl) ?_ (fun k hk => hfresh k (hblk k hk))
  have e1 : nums kd xs ++ nums kd ys = encs (Value.int kd) (xs ++ ys) := by simp [nums, encs]
  rw [← e1, List.length_append]
  exact hown'
end
/-- A row of numbers that is only read, and isn't empty: its block is none that its footprint bars. -/
theorem F_blk {q : IntKind} {W : World} {ok : Nat → Prop} {ad : Addr} {n : Nat} {xs : List Int} (h : Kd.F (Kd.int q) W ok (some ad) n xs) (hp : 0 < n) : ok ad.block := by
 refine Classical.byContradiction fun hno => ?_
 have h1 : (Kd.int q).C { W with heap := W.heap.setIfInBounds ad.block (.map #[] 0) } (some ad) n xs := h _ (fun k hk _ => by
  have hne : ad.block ≠ k := fun e => hno (e ▸ hk)
  simp [Array.getElem?_setIfInBounds, hne])
 obtain ⟨a, ha, hc⟩ := Kd.at_int h1 0 (Int.le_refl 0) (by omega)
 injection ha with ha
 subst ha
 have hb : (ad.add 0).block = ad.block := add_block ..
 by_cases hlt : ad.block < W.heap.size
 ·have e : (W.heap.setIfInBounds ad.block (.map #[] 0))[ad.block]? = some (.map #[] 0) := by simp [Array.getElem?_setIfInBounds, hlt]
  simp [World.cell?, hb, e] at hc
 ·have e : (W.heap.setIfInBounds ad.block (.map #[] 0))[ad.block]? = none := by simp [hlt]
  simp [World.cell?, hb, e] at hc
theorem Kd.V_away {q : IntKind} {e base g : Nat} {W : World} {ok : Nat → Prop} {v : Value} {xs : List Int} (h : (Kd.int q).V e W base ok v xs) (hok : ∀ k, ok k → k ≠ g) (hp : 0 < xs.length := by exact of_decide_eq_true (by assumption)) : some g ≠ v.ownBlock := by
 obtain ⟨A, c, rfl, _, hf⟩ := h
 cases A with
 | none => simp [Value.ownBlock]
 | some ad =>
  intro he
  simp only [Value.ownBlock, Option.some.injEq] at he
  exact hok _ (F_blk hf hp) he.symm
/-- What the table ask.single tells of a kind. -/
def sgl (j : Int) : Bool := decide (j = 2 ∨ j = 3 ∨ j = 5)
/-- The table ask.single lies in this world as the program's text lays it. -/
def Ls (w : World) : Prop := ∀ i, i < 6 → w.cell? ⟨1, i, none⟩ = some (.bool (sgl (i : Int)))
theorem Ls_below {w w1 : World} (h : Ls w) (hb : Below w.heap.size w w1) : Ls w1 := fun i hi => pw_cell_below hb (h i hi)
theorem Ls_at {w : World} (h : Ls w) {j : Int} (h0 : 0 ≤ j) (h1 : j < 6) : w.cell? ⟨1, j.toNat, none⟩ = some (.bool (sgl j)) := by
 have := h j.toNat (by omega)
 rwa [Int.toNat_of_nonneg h0] at this
/-- Which function the table spec.deeds tells of a kind. -/
def deeds : List (Int × Nat) := [(1, 74), (2, 75), (3, 76), (4, 77), (5, 78), (6, 79), (7, 80)]
/-- The table spec.deeds lies in this world as the program's text lays it: a look-up there tells the kind's function. -/
def Ld (w : World) : Prop := ∃ bm es clock, w.cell? ⟨0, 0, none⟩ = some (.map (some bm)) ∧ w.heap[bm]? = some (.map es clock) ∧ ∀ (W : World) (j : Int) (f : Nat), W.heap[bm]? = some (.map es clock) → (j, f) ∈ deeds → (Instr.lookup 65 (.map (some bm)) (.int .i64 j) false).run Tryd.prog W = .ok (.func (.func f) #[] #[]) W
theorem Ld_below {w w1 : World} (h : Ld w) (hb : Below w.heap.size w w1) : Ld w1 := by
 obtain ⟨bm, es, clock, h1, h2, h3⟩ := h
 exact ⟨bm, es, clock, pw_cell_below hb h1, (hb.block bm (blk_lt h2)).trans h2, h3⟩
theorem Ld_at {w : World} (h : Ld w) {j : Int} {f : Nat} (hm : (j, f) ∈ deeds) : ∃ bm, w.cell? ⟨0, 0, none⟩ = some (.map (some bm)) ∧ (Instr.lookup 65 (.map (some bm)) (.int .i64 j) false).run Tryd.prog w = .ok (.func (.func f) #[] #[]) w := by
 obtain ⟨bm, es, clock, h1, h2, h3⟩ := h
 exact ⟨bm, h1, h3 w j f h2 hm⟩
def Lg (w : World) : Prop := Ls w ∧ Ld w
theorem Lg_below {w w1 : World} (h : Lg w) (hb : Below w.heap.size w w1) : Lg w1 := ⟨Ls_below h.1 hb, Ld_below h.2 hb⟩
theorem Lg_at {w : World} (h : Lg w) {j : Int} (h0 : 0 ≤ j) (h1 : j < 6) : w.cell? ⟨1, j.toNat, none⟩ = some (.bool (sgl j)) := Ls_at h.1 h0 h1
theorem goesV_ {P : Program} {ops : Array Oper} {Q : Exit → Act → World → Prop} {rest : List Oper} {oi : Oper} {a : Act} {w : World} (N : Option Tmp) (hd : oi.dst = N) (hg : oi.guard = none) {f : FuncId} {fn : Func} {x : Operand} {os_ : Array Operand} {ts : Array TypeId} (hf : P.funcs[f]? = some fn) (hname : (fn.name == "runtime.NumGoroutine") = false) (hb : fn.body.isSome = true) (args : Array Value)
  (hop : oi.op = .call { callee := .value x, args := os_, argTypes := ts }) (hx : a.eval x = .func (.func f) #[] #[]) (hargs : os_.map a.eval = args)
  (h : Calls P f args w fun e w' => ∃ v, e = .returned v ∧ wpList P ops Q rest (a.put N v) w') : wpList P ops Q (oi :: rest) a w := by
 refine wpList_plain hg fun K hK => ?_
 have he := enters_ hf hname hb args w
 have hrun : (execOp a.eval oi).run P w = .ok (.enter f args) w := by
  unfold execOp
  simp [hop, resolve, Deferred.ofValue, invoke, hx, hargs, he]
 unfold Oper.wp
 rw [hrun, Oper.upon_enter]
 refine h.mono fun e w'' hh => ?_
 obtain ⟨v, rfl, hk⟩ := hh
 subst hd
 exact hK _ _ hk
/-! ### a map from u32 to bool that the call itself made: the keys it has met -/
def MH (P : Program) (k e : TypeId) (w : World) (b : Nat) (l : List Int) : Prop :=
 ∃ (D : DataW Unit) (n : Nat), w.ownsMap P k (plainElem P e) b n D ∧ n ≤ l.length ∧ Maps.IsMap D ∧ ∀ x : Int, D.atKey (.int .u32 x) (.lit (.bool false)) = .lit (.bool (decide (x ∈ l)))
theorem MH_below {P : Program} {k e b : Nat} {l : List Int} {w w1 : World} (h : MH P k e w b l) (hb : Below w.heap.size w w1) : MH P k e w1 b l := by
 obtain ⟨D, n, h1, h2, h3, h4⟩ := h
 exact ⟨D, n, h1.kept (grown_of_below hb none) (by simp), h2, h3, h4⟩
theorem MH_made (P : Program) (k e : TypeId) (w : World) : MH P k e (w.alloc (.map #[] 0)) w.heap.size [] := by
 refine ⟨.map [], 0, World.ownsMap_made w P k _, Nat.le_refl _, Maps.isMap_empty, fun x => ?_⟩
 simp [DataW.atKey]
theorem map_event {P : Program} {ops : Array Oper} {rest : List Oper} {o : Oper} {a : Act} {Q : Exit → Act → World → Prop} {W : World} (k e : TypeId) (hgd : o.guard = none) {N : Tmp} (_hd : o.dst = some N)
  (hrun : (execOp a.eval o).run P W = .ok (.value (.map (some W.heap.size))) (W.alloc (.map #[] 0)))
  (h : ∀ g, g = W.heap.size → ∀ w1, MH P k e w1 g [] → Below W.heap.size W w1 → wpList P ops Q rest (a.put o.dst (.map (some g))) w1) : wpList P ops Q (o :: rest) a W :=
 Kd.event_run hgd hrun (h _ rfl _ (MH_made P k e W) (below_alloc (Below.refl _ _) _))
theorem plainElem_bool_inv {P : Program} {e : TypeId} (he : P.underlying e = some .bool) {v : Value} {z : Bool} {ps : List MemPlace} (h : plainElem (H := Unit) P e v = some (.lit (.bool z), ps)) : v = .bool z := by
 unfold plainElem at h
 rw [he] at h
 cases v <;> simp at h
 rw [h.1]
theorem MH_look {P : Program} {k e b : Nat} {l : List Int} {w : World} (h : MH P k e w b l) (t : TypeId) (ht : P.underlying t = some (.map k e)) (hk : P.underlying k = some (.int .u32)) (he : P.underlying e = some .bool) (x : Int) (hw : (Lit.int .u32 x).wf = true)
  (hz : (zeroValue e).run P w = .ok (.bool false) w) : (Instr.lookup t (.map (some b)) (.int .u32 x) false).run P w = .ok (.bool (decide (x ∈ l))) w := by
 obtain ⟨D, n, h1, h2, h3, h4⟩ := h
 obtain ⟨v, ps, hrun, hv⟩ := h1.lookup (Maps.int_keyed hk) ht hz (plainElem_bool he false) (Maps.keyOf_int_mk hk hw)
 rw [h4 x] at hv
 rw [hrun, plainElem_bool_inv he hv]
theorem MH_look_yes {P : Program} {k e b : Nat} {l : List Int} {w : World} (h : MH P k e w b l) (t : TypeId) (ht : P.underlying t = some (.map k e)) (hk : P.underlying k = some (.int .u32)) (he : P.underlying e = some .bool) (x : Int) (hw : (Lit.int .u32 x).wf = true)
  (hm : x ∈ l) (hz : ∀ w, (zeroValue e).run P w = .ok (.bool false) w) : (Instr.lookup t (.map (some b)) (.int .u32 x) false).run P w = .ok (.bool true) w := by
 rw [MH_look h t ht hk he x hw (hz w), decide_eq_true hm]
theorem MH_look_no {P : Program} {k e b : Nat} {l : List Int} {w : World} (h : MH P k e w b l) (t : TypeId) (ht : P.underlying t = some (.map k e)) (hk : P.underlying k = some (.int .u32)) (he : P.underlying e = some .bool) (x : Int) (hw : (Lit.int .u32 x).wf = true)
  (hm : ¬ x ∈ l) (hz : ∀ w, (zeroValue e).run P w = .ok (.bool false) w) : (Instr.lookup t (.map (some b)) (.int .u32 x) false).run P w = .ok (.bool false) w := by
 rw [MH_look h t ht hk he x hw (hz w), decide_eq_false hm]
theorem MH_put {P : Program} {w : World} {ops : Array Oper} {rest : List Oper} {o : Oper} {a : Act} {Q : Exit → Act → World → Prop} (t : TypeId) {k e : TypeId} {b : Nat} {l : List Int} (hgd : o.guard = none) (m x v : Operand) (hop : o.op = Op.mapUpdate t m x v)
  (ht : P.underlying t = some (.map k e)) (hk : P.underlying k = some (.int .u32)) (he : P.underlying e = some .bool) (hm : a.eval m = .map (some b)) (h : MH P k e w b l) (hl : l.length < 17592186044416) (y : Int) (hw : (Lit.int .u32 y).wf = true)
  (hx : a.eval x = .int .u32 y) (hv : a.eval v = .bool true) (hK : ∀ w', MH P k e w' b (l ++ [y]) → w.grownBy w' (some b) → wpList P ops Q rest (a.put o.dst undef) w') : wpList P ops Q (o :: rest) a w := by
 obtain ⟨D, n, h1, h2, h3, h4⟩ := h
 have hn : n < maxLen := by unfold maxLen; omega
 refine wpList_mapUpdate_own w hgd m x v t hop k e (Maps.int_keyed hk) ht _ b n D hm h1 hn _ _ _ hx hv (Maps.keyOf_int_mk hk hw) _ [] (plainElem_bool he true) ?_
 intro w' ho hg
 refine hK w' ⟨_, _, ho, by simp; omega, h3.put _ _, fun z => ?_⟩ hg
 by_cases hz : z = y
 ·subst hz
  rw [Maps.atKey_put_same h3 (show WideAt.IsKeyLit (.int .u32 z) from trivial)]
  simp
 ·rw [Maps.atKey_put_other (by intro e1; injection e1 with _ e1; exact hz e1), h4 z]
  simp [hz]
theorem MH_ne_row {α : Type} {d : Kd α} {P : Program} {k e b e0 base : Nat} {ok : Nat → Prop} {l : List Int} {w : World} {v : Value} {xs : List α} (h : MH P k e w b l) (hR : d.R e0 w base ok v xs) : some b ≠ v.ownBlock := by
 obtain ⟨D, n, ⟨es, clock, hb, _⟩, _⟩ := h
 intro he
 obtain ⟨cells, hc⟩ := Kd.R_typed hR b he.symm
 rw [hb] at hc
 injection hc with hc
 cases hc
theorem MH_ne_blk {P : Program} {k e b g : Nat} {l : List Int} {w : World} {cs : Array Value} {t : TypeId} {pr : Nat × Nat} (h : MH P k e w b l) (hB : w.heap[g]? = some (.cells cs t pr)) : some g ≠ some b := by
 obtain ⟨D, n, ⟨es, clock, hb, _⟩, _⟩ := h
 intro he
 injection he with he
 subst he
 rw [hb] at hB
 injection hB with hB
 cases hB

/-! ### spec_fail: function 31 -/
def spec_fail.f (a0 : Int) : Option (Int × Int × Bool × List Int × List Int) := some (a0, 0, false, ([] : List Int), ([] : List Int))
set_option maxHeartbeats 8000000 in
set_option maxRecDepth 100000 in
theorem spec_fail.calls (a0 r1 r2 : Int) (r3 : Bool) (r4 r5 : List Int) (w : World) (h : spec_fail.f a0 = some (r1, r2, r3, r4, r5)) :
  Calls Tryd.prog 31 #[.int .i64 a0] w fun e w' => ∃ v3_ v4_ : Value, e = .returned (.agg #[.int .i64 r1, .int .u32 r2, .bool r3, v3_, v4_]) ∧ Kd.R (Kd.int .u32) 22 w' w.heap.size (fun _ => True) v3_ r4 ∧ Kd.R (Kd.int .i64) 31 w' w.heap.size (fun _ => True) v4_ r5 ∧ Below w.heap.size w w' := by
 have hu34 := Tryd.underlying34
 have HB := Aside0.mk (Below.refl w.heap.size w)
 have H : (some (a0, 0, false, ([] : List Int), ([] : List Int))) = some (r1, r2, r3, r4, r5) := h
 clear h
 simp only [Option.some.injEq, Prod.mk.injEq] at H
 obtain ⟨rfl, rfl, rfl, rfl, rfl⟩ := H
 go_enter Tryd.func31, Tryd.ntmps31
 go_wp2_with (first | ((with_reducible refine gate_dst (N := 2) rfl ?_); refine bx_ (N := 2) (cs := #[.int .i64 0, .int .u32 0, .bool false, .slice none 0 0, .slice none 0 0]) (t := 34) ?_; intro ab hg w2 aa hb; have an := gG_ hg HB; have am := gG_ hg HB; replace HB := hS_ HB hb; clear hb hg; obtain ⟨ac, ad, ae, af, ag, ah, ai, aj, ak, al⟩ := cz5_ (w := w2) aa))
 refine bodyPost_ret (results_cell_row rfl _ _ ab 34 #[.int .i64 a0, .int .u32 0, .bool false, .slice none 0 0, .slice none 0 0] (0, 0) _ rfl (by (with_reducible repeat (first | refine blk_drewN ?_ _ | refine blk_drew ?_ | refine blk_alloc ?_ _)); refine blk_put (cs := #[.int .i64 a0, .int .u32 0, .bool false, .slice none 0 0, .slice none 0 0]) ?_ 4 _ rfl; refine blk_put (cs := #[.int .i64 a0, .int .u32 0, .bool false, .slice none 0 0, .slice none 0 0]) ?_ 3 _ rfl; refine blk_put (cs := #[.int .i64 a0, .int .u32 0, .bool false, .slice none 0 0, .slice none 0 0]) ?_ 2 _ rfl; refine blk_put (cs := #[.int .i64 a0, .int .u32 0, .bool false, .slice none 0 0, .slice none 0 0]) ?_ 1 _ rfl; refine blk_put (cs := #[.int .i64 0, .int .u32 0, .bool false, .slice none 0 0, .slice none 0 0]) ?_ 0 _ rfl; (with_reducible repeat (first | refine blk_drewN ?_ _ | refine blk_drew ?_ | refine blk_alloc ?_ _)); exact aa.out) Tryd.underlying34 rfl (by kernel_rfl)) rfl ?_
 exact ⟨_, _, er_, by first | exact Kd.R_nil _ _ _ _ _ | exact Kd.N_nil _ _ _ _ _ | exact Kd.V_nil _ _ _ _ _ | exact Kd.Q_nil _ _ _ _ _ | exact Kd.S_nil _ _ _ _ _, by first | exact Kd.R_nil _ _ _ _ _ | exact Kd.N_nil _ _ _ _ _ | exact Kd.V_nil _ _ _ _ _ | exact Kd.Q_nil _ _ _ _ _ | exact Kd.S_nil _ _ _ _ _, hB_ HB⟩

/-! ### block_Many: function 52 -/
def block_Many.f (a0_0 a0_1 : Int) : Option (Int) := if 0 ≤ (IntKind.u64.wrap (wrap64 (32 - a0_1))) then (some (shl .i64 1 (IntKind.u64.wrap (wrap64 (32 - a0_1))))) else (none)
set_option maxHeartbeats 8000000 in
set_option maxRecDepth 100000 in
theorem block_Many.calls (ab aa r : Int) (w : World) (h : block_Many.f ab aa = some r) :
  Calls Tryd.prog 52 #[.agg #[.int .u32 ab, .int .i64 aa]] w fun e w' => e = .returned (.int .i64 r) ∧ Below w.heap.size w w' := by
 have hu24 := Tryd.underlying24
 have HB := Aside0.mk (Below.refl w.heap.size w)
 have H : (if 0 ≤ (IntKind.u64.wrap (wrap64 (32 - aa))) then (some (shl .i64 1 (IntKind.u64.wrap (wrap64 (32 - aa))))) else (none)) = some r := h
 clear h
 obtain ⟨ji2, hji2⟩ : ∃ j_ : Int, (IntKind.u64.wrap (wrap64 (32 - aa))) = j_ := ⟨_, rfl⟩
 replace H : (if 0 ≤ (ji2) then (some (shl .i64 1 (ji2))) else (none)) = some r := by first | (rw [hji2] at H; exact H) | (simp only [hji2] at H ⊢; exact H)
 by_cases c3 : 0 ≤ (ji2)
 ·rw [if_pos c3] at H
  have ak := eq_true c3
  have al : decide (0 ≤ (ji2)) = true := decide_eq_true c3
  clear c3; obtain ⟨ji4, hji4⟩ : ∃ j_ : Int, (shl .i64 1 (ji2)) = j_ := ⟨_, rfl⟩
  replace H : (some ji4) = some r := by first | (rw [hji4] at H; exact H) | (simp only [hji4] at H ⊢; exact H)
  have hji4_ : (IntKind.i64.wrap (1 * 2 ^ min (ji2).toNat 64)) = ji4 := hji4
  have hji4z : (ji2) ≤ 64 → (IntKind.i64.wrap (1 * 2 ^ (ji2).toNat)) = ji4 := shl_small hji4
  have hji4u : (IntKind.i64.wrap (2 ^ min (ji2).toNat 64)) = ji4 := by have h_ := hji4_; rw [Int.one_mul] at h_; exact h_
  have hji4v : (ji2) ≤ 64 → (IntKind.i64.wrap (2 ^ (ji2).toNat)) = ji4 := fun hle_ => by have h_ := hji4z hle_; rw [Int.one_mul] at h_; exact h_
  have hji4y : (wrap64 (1 * 2 ^ min (ji2).toNat 64)) = ji4 := (i64_w _).symm.trans hji4_
  have hji4x : (ji2) ≤ 64 → (wrap64 (1 * 2 ^ (ji2).toNat)) = ji4 := fun h_ => (i64_w _).symm.trans (hji4z h_)
  obtain rfl := Option.some.inj H
  go_enter Tryd.func52, Tryd.ntmps52
  go_wp2_with (first | ((with_reducible refine gate_dst (N := 1) rfl ?_); refine bx_ (N := 1) (cs := #[.int .u32 ab, .int .i64 aa]) (t := 24) ?_; intro aj hg w5 ac hb; have ai := gG_ hg HB; have ah := gG_ hg HB; replace HB := hS_ HB hb; clear hb hg; obtain ⟨ad, ae, af, ag⟩ := cz2_ (w := w5) ac))
  go_ret
  exact ⟨by first | rfl | (simp [errW_none, errW_some] <;> rfl) | (simp only [← hji2, ← hji4]; first | rfl | (simp [errW_none, errW_some] <;> rfl)) | (simp [*, errW_none, errW_some] <;> rfl), hB_ HB⟩
 ·rw [if_neg c3] at H
  exact absurd H (by simp)

/-! ### block_Offset: function 48 -/
def block_Offset.f (a0_0 a0_1 a1 : Int) : Option (Int × Int) := if (wrap64 ((wrap64 (a1)) - (wrap64 (a0_0)))) ≥ 0 then ((block_Many.f a0_0 a0_1).bind fun t104 => (if (wrap64 ((wrap64 (a1)) - (wrap64 (a0_0)))) < t104 then (some (wrap64 ((wrap64 (a1)) - (wrap64 (a0_0))), 0)) else (some (0, 3)))) else (some (0, 3))
set_option maxHeartbeats 8000000 in
set_option maxRecDepth 100000 in
theorem block_Offset.calls (aa ac : Int) (a1 r1 r2 : Int) (w : World) (h : block_Offset.f aa ac a1 = some (r1, r2)) :
  Calls Tryd.prog 48 #[.agg #[.int .u32 aa, .int .i64 ac], .int .u32 a1] w fun e w' => e = .returned (.tuple #[.int .i64 r1, .int .i64 r2]) ∧ Below w.heap.size w w' := by
 have hu24 := Tryd.underlying24
 have HB := Aside0.mk (Below.refl w.heap.size w)
 have H : (if (wrap64 ((wrap64 (a1)) - (wrap64 (aa)))) ≥ 0 then ((block_Many.f aa ac).bind fun ad => (if (wrap64 ((wrap64 (a1)) - (wrap64 (aa)))) < ad then (some (wrap64 ((wrap64 (a1)) - (wrap64 (aa))), 0)) else (some (0, 3)))) else (some (0, 3))) = some (r1, r2) := h
 clear h
 by_cases c3 : (wrap64 ((wrap64 (a1)) - (wrap64 (aa)))) ≥ 0
 ·rw [if_pos c3] at H
  have ah : decide (0 ≤ (wrap64 ((wrap64 (a1)) - (wrap64 (aa))))) = true := decide_eq_true c3
  clear c3; replace H := bi_ H; obtain ⟨ad, A40, H⟩ := H
  replace H : (if (wrap64 ((wrap64 (a1)) - (wrap64 (aa)))) < ad then (some (wrap64 ((wrap64 (a1)) - (wrap64 (aa))), 0)) else (some (0, 3))) = some (r1, r2) := H
  have A4 := Aside0.mk A40; clear A40
  by_cases c5 : (wrap64 ((wrap64 (a1)) - (wrap64 (aa)))) < ad
  ·rw [if_pos c5] at H
   have ai : decide ((wrap64 ((wrap64 (a1)) - (wrap64 (aa)))) < ad) = true := decide_eq_true c5
   clear c5; simp only [Option.some.injEq, Prod.mk.injEq] at H; obtain ⟨rfl, rfl⟩ := H
   go_enter Tryd.func48, Tryd.ntmps48
   go_wp2_with (first | ((with_reducible refine gate_dst (N := 2) rfl ?_); refine bx_ (N := 2) (cs := #[.int .u32 aa, .int .i64 ac]) (t := 24) ?_; intro ag hg w6 ab hb; have af := gG_ hg HB; have ae := gG_ hg HB; replace HB := hS_ HB hb; clear hb hg; obtain ⟨ar, au, av, aw⟩ := cz2_ (w := w6) ab) | (go_at_call 52; (with_reducible refine (block_Many.calls aa ac ad _ A4.out).mono ?_); rintro e w8 ⟨rfl, hb⟩; replace HB := hS_ HB hb; replace ab := bB_ ab hb; (try clear hb)))
   go_ret2
   exact ⟨er_, hB_ HB⟩
  ·rw [if_neg c5] at H
   have ai : decide ((wrap64 ((wrap64 (a1)) - (wrap64 (aa)))) < ad) = false := decide_eq_false c5
   clear c5; simp only [Option.some.injEq, Prod.mk.injEq] at H; obtain ⟨rfl, rfl⟩ := H
   go_enter Tryd.func48, Tryd.ntmps48
   go_wp2_with (first | ((with_reducible refine gate_dst (N := 2) rfl ?_); refine bx_ (N := 2) (cs := #[.int .u32 aa, .int .i64 ac]) (t := 24) ?_; intro ag hg w9 ab hb; have af := gG_ hg HB; have ae := gG_ hg HB; replace HB := hS_ HB hb; clear hb hg; obtain ⟨aj, ak, an, ao⟩ := cz2_ (w := w9) ab) | (go_at_call 52; (with_reducible refine (block_Many.calls aa ac ad _ A4.out).mono ?_); rintro e w11 ⟨rfl, hb⟩; replace HB := hS_ HB hb; replace ab := bB_ ab hb; (try clear hb)))
   go_ret2
   exact ⟨er_, hB_ HB⟩
 ·rw [if_neg c3] at H
  have ah : decide (0 ≤ (wrap64 ((wrap64 (a1)) - (wrap64 (aa))))) = false := decide_eq_false c3
  clear c3; simp only [Option.some.injEq, Prod.mk.injEq] at H; obtain ⟨rfl, rfl⟩ := H
  go_enter Tryd.func48, Tryd.ntmps48
  go_wp2_with (first | ((with_reducible refine gate_dst (N := 2) rfl ?_); refine bx_ (N := 2) (cs := #[.int .u32 aa, .int .i64 ac]) (t := 24) ?_; intro ag hg w12 ab hb; have af := gG_ hg HB; have ae := gG_ hg HB; replace HB := hS_ HB hb; clear hb hg; obtain ⟨al, am, ap, aq⟩ := cz2_ (w := w12) ab))
  go_ret2
  exact ⟨er_, hB_ HB⟩

/-! ### slices_Index_int_int: function 56 -/
def slices_Index_int_int.l0 : Nat → List Int → Int → Int → Int → Option (Int)
 | 0, _, _, _, _ => none
 | k + 1, x0, x1, x7, x8 => if x8 < x7 then (if 0 ≤ x8 then (if x8 < (x0.length : Int) then (if x1 = (rd x0 x8) then (some x8) else (slices_Index_int_int.l0 k x0 x1 x7 (wrap64 (x8 + 1)))) else (none)) else (none)) else (some (-1))
def slices_Index_int_int.f (k : Nat) (l0 : List Int) (a1 : Int) : Option (Int) := slices_Index_int_int.l0 k l0 a1 (l0.length : Int) 0
theorem slices_Index_int_int.mono_l : ∀ k, (∀ y0 y1 y2 y3, LeO (slices_Index_int_int.l0 k y0 y1 y2 y3) (slices_Index_int_int.l0 (k + 1) y0 y1 y2 y3))
 | 0 => fun _ _ _ _ r h => by simp [slices_Index_int_int.l0] at h
 | k + 1 => by
  have ih0 := slices_Index_int_int.mono_l k
  ·intro y0 y1 y2 y3
   unfold slices_Index_int_int.l0
   repeat' (with_reducible first | apply ih0 | exact LeO.refl _ | exact LeO.none _ | refine LeO.ite ?_ ?_ | refine LeO.bind ?_ (fun _ => ?_))
theorem slices_Index_int_int.mono : ∀ a0 a1 k, LeO (slices_Index_int_int.f k a0 a1) (slices_Index_int_int.f (k + 1) a0 a1) := by
 intro a0 a1 k
 have ih0 := slices_Index_int_int.mono_l k
 unfold slices_Index_int_int.f
 repeat' (with_reducible first | apply ih0 | exact LeO.refl _ | exact LeO.none _ | refine LeO.ite ?_ ?_ | refine LeO.bind ?_ (fun _ => ?_))
set_option maxHeartbeats 8000000 in
set_option maxRecDepth 100000 in
theorem slices_Index_int_int.calls (k : Nat) (A0 : Option Addr) (c0 : Nat) (l0 : List Int) (a1 r : Int) (w : World) (hr0 : Kd.C (Kd.int .i64) w A0 l0.length l0) (hc0 : l0.length ≤ c0) (h : slices_Index_int_int.f k l0 a1 = some r) :
  Calls Tryd.prog 56 #[.slice A0 l0.length c0, .int .i64 a1] w fun e w' => e = .returned (.int .i64 r) ∧ Drawn0 w w' := by
 have ab := Aside0.mk hr0
 have ah := Aside0.mk hc0
 clear hr0 hc0
 have H : (slices_Index_int_int.l0 k l0 a1 (l0.length : Int) 0) = some r := h
 clear h
 have H' := Aside0.mk H
 clear H
 go_enter Tryd.func56, Tryd.ntmps56
 go_wp2
 go_loopg [8] k (fun kq v8 w' => ∃ (aa : Int), v8 = .int .i64 aa ∧ Aside0 (slices_Index_int_int.l0 kq l0 a1 (l0.length : Int) aa = some r) ∧ Aside0 (kq ≤ k) ∧ Drawn0 w w')
 case atStart => exact ⟨(0), rs_, H', ⟨Nat.le_refl _⟩, dn_⟩
 case round =>
  clear H'
  try clear p2
  obtain ⟨aa, rfl, HA, HK1, ⟨m1, rfl⟩⟩ := hrel
  cases gk with
  | zero => exact absurd HA.out (by simp [slices_Index_int_int.l0])
  | succ k1 =>
   have H := HA.out; clear HA; simp only [slices_Index_int_int.l0] at H
   by_cases c3 : aa < (l0.length : Int)
   ·rw [if_pos c3] at H
    have ac : decide (aa < (l0.length : Int)) = true := decide_eq_true c3
    clear c3
    by_cases c4 : 0 ≤ aa
    ·rw [if_pos c4] at H
     have af : decide (0 ≤ aa) = true := decide_eq_true c4
     clear c4
     by_cases c5 : aa < (l0.length : Int)
     ·rw [if_pos c5] at H
      have ag : decide (aa < (l0.length : Int)) = true := decide_eq_true c5
      clear c5
      by_cases c6 : a1 = (rd l0 aa)
      ·rw [if_pos c6] at H
       have ad : (a1 == (rd l0 aa)) = true := beq_iff_eq.mpr c6
       have ae : (a1 != (rd l0 aa)) = false := bne_eq_false_iff_eq.mpr c6
       clear c6
       obtain rfl := Option.some.inj H
       have p105 : 0 ≤ (aa : Int) := od_
       have q105 : aa < (l0.length : Int) := od_
       obtain ⟨ad105, e105, hx105_0⟩ := Kd.at_int ab.out aa p105 q105
       cases e105
       replace p105 := eq_true p105; replace q105 := eq_true q105
       go_wp2
       go_ret
       exact ⟨rs_, dn_⟩
      ·rw [if_neg c6] at H
       have ad : (a1 == (rd l0 aa)) = false := beq_eq_false_iff_ne.mpr c6
       have ae : (a1 != (rd l0 aa)) = true := bne_iff_ne.mpr c6
       have H' := Aside0.mk H
       clear H
       have p105 : 0 ≤ (aa : Int) := od_
       have q105 : aa < (l0.length : Int) := od_
       obtain ⟨ad105, e105, hx105_0⟩ := Kd.at_int ab.out aa p105 q105
       cases e105
       replace p105 := eq_true p105; replace q105 := eq_true q105
       go_wp2
       go_roundg k1
       case measure => have := HK1.out; omega
       case rel => exact ⟨(wrap64 (aa + 1)), rs_, H', ⟨om_ HK1⟩, dn_⟩
     ·rw [if_neg c5] at H
      exact absurd H (by simp)
    ·rw [if_neg c4] at H
     exact absurd H (by simp)
   ·rw [if_neg c3] at H
    have ac : decide (aa < (l0.length : Int)) = false := decide_eq_false c3
    clear c3
    obtain rfl := Option.some.inj H
    go_wp2
    go_ret
    exact ⟨rs_, dn_⟩

/-! ### slices_Contains_int_int: function 53 -/
def slices_Contains_int_int.f (k : Nat) (l0 : List Int) (a1 : Int) : Option (Bool) := (slices_Index_int_int.f k l0 a1).bind fun t106 => (some (decide (t106 ≥ 0)))
theorem slices_Contains_int_int.mono : ∀ a0 a1 k, LeO (slices_Contains_int_int.f k a0 a1) (slices_Contains_int_int.f (k + 1) a0 a1) := by
 intro a0 a1 k
 unfold slices_Contains_int_int.f
 repeat' (with_reducible first | apply slices_Index_int_int.mono | exact LeO.refl _ | exact LeO.none _ | refine LeO.ite ?_ ?_ | refine LeO.bind ?_ (fun _ => ?_))
set_option maxHeartbeats 8000000 in
set_option maxRecDepth 100000 in
theorem slices_Contains_int_int.calls (k : Nat) (A0 : Option Addr) (c0 : Nat) (l0 : List Int) (a1 : Int) (r : Bool) (w : World) (hr0 : Kd.C (Kd.int .i64) w A0 l0.length l0) (hc0 : l0.length ≤ c0) (h : slices_Contains_int_int.f k l0 a1 = some r) :
  Calls Tryd.prog 53 #[.slice A0 l0.length c0, .int .i64 a1] w fun e w' => e = .returned (.bool r) ∧ Drawn0 w w' := by
 have ac := Aside0.mk hr0
 have ab := Aside0.mk hc0
 clear hr0 hc0
 have H : ((slices_Index_int_int.f k l0 a1).bind fun aa => (some (decide (aa ≥ 0)))) = some r := h
 clear h
 replace H := bi_ H
 obtain ⟨aa, A30, H⟩ := H
 replace H : (some (decide (aa ≥ 0))) = some r := H
 have A3 := Aside0.mk A30
 clear A30
 obtain rfl := Option.some.inj H
 go_enter Tryd.func53, Tryd.ntmps53
 go_wp2_with (first | ((with_reducible refine gate_callee (f := 56) rfl ?_); refine gL_ (some 7) Tryd.func56 #[.slice A0 l0.length c0, .int .i64 a1] ?_; (with_reducible refine (slices_Index_int_int.calls k _ _ l0 a1 aa _ ?side1 ?side2 A3.out).mono ?_); (case side1 => exact cD_ ac.out); (case side2 => exact ab.out); rintro e w' ⟨rfl, ⟨nd, rfl⟩⟩; refine ⟨_, rfl, ?_⟩))
 go_ret
 exact ⟨rs_, dn_⟩

/-! ### block_Held: function 49 -/
def block_Held.f (k : Nat) (a0_0 a0_1 : Int) (l0_2 : List Int) (a0_3 a0_4 : Int) (a0_5 a0_6 a1 : Int) : Option (Bool) := (slices_Contains_int_int.f k l0_2 a1).bind fun t108 => (some t108)
theorem block_Held.mono : ∀ a0 a1 a2 a3 a4 a5 a6 a7 k, LeO (block_Held.f k a0 a1 a2 a3 a4 a5 a6 a7) (block_Held.f (k + 1) a0 a1 a2 a3 a4 a5 a6 a7) := by
 intro a0 a1 a2 a3 a4 a5 a6 a7 k
 unfold block_Held.f
 repeat' (with_reducible first | apply slices_Contains_int_int.mono | exact LeO.refl _ | exact LeO.none _ | refine LeO.ite ?_ ?_ | refine LeO.bind ?_ (fun _ => ?_))
set_option maxHeartbeats 8000000 in
set_option maxRecDepth 100000 in
theorem block_Held.calls (k : Nat) (ae af : Int) (ab : Option Addr) (ac : Nat) (aa : List Int) (ag ah : Int) (ai aj a1 : Int) (r : Bool) (w : World) (hr0_2 : Kd.C (Kd.int .i64) w ab aa.length aa) (hc0_2 : aa.length ≤ ac) (h : block_Held.f k ae af aa ag ah ai aj a1 = some r) :
  Calls Tryd.prog 49 #[.agg #[.int .u32 ae, .int .i64 af, .slice ab aa.length ac, .int .i64 ag, .int .i64 ah, .int .i64 ai, .int .i64 aj], .int .i64 a1] w fun e w' => e = .returned (.bool r) ∧ Below w.heap.size w w' := by
 have hu27 := Tryd.underlying27
 have am := Aside0.mk hr0_2
 have al := Aside0.mk hc0_2
 clear hr0_2 hc0_2
 have HB := Aside0.mk (Below.refl w.heap.size w)
 have H : ((slices_Contains_int_int.f k aa a1).bind fun ad => (some ad)) = some r := h
 clear h
 replace H := bi_ H
 obtain ⟨ad, A30, H⟩ := H
 replace H : (some ad) = some r := H
 have A3 := Aside0.mk A30
 clear A30
 obtain rfl := Option.some.inj H
 go_enter Tryd.func49, Tryd.ntmps49
 go_wp2_with (first | ((with_reducible refine gate_dst (N := 2) rfl ?_); refine bx_ (N := 2) (cs := #[.int .u32 ae, .int .i64 af, .slice ab aa.length ac, .int .i64 ag, .int .i64 ah, .int .i64 ai, .int .i64 aj]) (t := 27) ?_; intro aF hg w4 ak hb; have aE := gG_ hg HB; have aD := gG_ hg HB; replace HB := hS_ HB hb; clear hb hg; obtain ⟨an, ao, ap, aq, ar, au, av, aw, ax, ay, az, aA, aB, aC⟩ := cz7_ (w := w4) ak) | ((with_reducible refine gate_callee (f := 53) rfl ?_); refine gL_ (some 8) Tryd.func53 #[.slice ab aa.length ac, .int .i64 a1] ?_; (with_reducible refine (slices_Contains_int_int.calls k _ _ aa a1 ad _ ?side1 ?side2 A3.out).mono ?_); (case side1 => exact cC_ am HB); (case side2 => exact al.out); rintro e w' ⟨rfl, ⟨nd, rfl⟩⟩; refine ⟨_, rfl, ?_⟩))
 go_ret
 exact ⟨er_, hB_ HB⟩

/-! ### block_Find: function 33 -/
def block_Find.f (k : Nat) (a0_0 a0_1 : Int) (l0_2 : List Int) (a0_3 a0_4 : Int) (a0_5 a0_6 a1 : Int) : Option (Int × Int) := (block_Offset.f a0_0 a0_1 a1).bind fun bt110 => (if bt110.2 = 0 then ((block_Held.f k a0_0 a0_1 l0_2 a0_3 a0_4 a0_5 a0_6 bt110.1).bind fun t112 => (if t112 = true then (some (0, 4)) else (some (bt110.1, 0)))) else (some (0, bt110.2)))
theorem block_Find.mono : ∀ a0 a1 a2 a3 a4 a5 a6 a7 k, LeO (block_Find.f k a0 a1 a2 a3 a4 a5 a6 a7) (block_Find.f (k + 1) a0 a1 a2 a3 a4 a5 a6 a7) := by
 intro a0 a1 a2 a3 a4 a5 a6 a7 k
 unfold block_Find.f
 repeat' (with_reducible first | apply block_Held.mono | exact LeO.refl _ | exact LeO.none _ | refine LeO.ite ?_ ?_ | refine LeO.bind ?_ (fun _ => ?_))
set_option maxHeartbeats 8000000 in
set_option maxRecDepth 100000 in
theorem block_Find.calls (k : Nat) (ab ac : Int) (ak : Option Addr) (al : Nat) (ad : List Int) (ae af : Int) (ag ah : Int) (a1 r1 r2 : Int) (w : World) (hr0_2 : Kd.C (Kd.int .i64) w ak ad.length ad) (hc0_2 : ad.length ≤ al) (h : block_Find.f k ab ac ad ae af ag ah a1 = some (r1, r2)) :
  Calls Tryd.prog 33 #[.agg #[.int .u32 ab, .int .i64 ac, .slice ak ad.length al, .int .i64 ae, .int .i64 af, .int .i64 ag, .int .i64 ah], .int .u32 a1] w fun e w' => e = .returned (.tuple #[.int .i64 r1, .int .i64 r2]) ∧ Below w.heap.size w w' := by
 have hu27 := Tryd.underlying27
 have hu24 := Tryd.underlying24
 have aq := Aside0.mk hr0_2
 have ap := Aside0.mk hc0_2
 clear hr0_2 hc0_2
 have HB := Aside0.mk (Below.refl w.heap.size w)
 have H : ((block_Offset.f ab ac a1).bind fun bt110 => (if bt110.2 = 0 then ((block_Held.f k ab ac ad ae af ag ah bt110.1).bind fun am => (if am = true then (some (0, 4)) else (some (bt110.1, 0)))) else (some (0, bt110.2)))) = some (r1, r2) := h
 clear h
 replace H := bi_ H
 obtain ⟨⟨ai, aj⟩, A30, H⟩ := H
 replace H : (if aj = 0 then ((block_Held.f k ab ac ad ae af ag ah ai).bind fun am => (if am = true then (some (0, 4)) else (some (ai, 0)))) else (some (0, aj))) = some (r1, r2) := H
 have A3 := Aside0.mk A30
 clear A30
 by_cases c4 : aj = 0
 ·rw [if_pos c4] at H
  have au : (aj == 0) = true := beq_iff_eq.mpr c4
  have av : (aj != 0) = false := bne_eq_false_iff_eq.mpr c4
  clear c4; replace H := bi_ H; obtain ⟨am, A50, H⟩ := H
  replace H : (if am = true then (some (0, 4)) else (some (ai, 0))) = some (r1, r2) := H
  have A5 := Aside0.mk A50; clear A50
  by_cases c6 : am = true
  ·subst c6
   have H1 : (some (0, 4)) = some (r1, r2) := by rw [if_pos rfl] at H; exact H
   clear H; have H := H1; clear H1; simp only [Option.some.injEq, Prod.mk.injEq] at H; obtain ⟨rfl, rfl⟩ := H
   go_enter Tryd.func33, Tryd.ntmps33
   go_wp2_with (first | ((with_reducible refine gate_dst (N := 2) rfl ?_); refine bx_ (N := 2) (cs := #[.int .u32 ab, .int .i64 ac, .slice ak ad.length al, .int .i64 ae, .int .i64 af, .int .i64 ag, .int .i64 ah]) (t := 27) ?_; intro ar hg w7 aa hb; have ao := gG_ hg HB; have an := gG_ hg HB; replace HB := hS_ HB hb; clear hb hg; obtain ⟨br, bs, bt, bu, bv, bw, bx, bz, bA, bB, bC, bD, bE, bF⟩ := cz7_ (w := w7) aa) | ((with_reducible refine gate_callee (f := 48) rfl ?_); refine gL_ (some 12) Tryd.func48 #[.agg #[.int .u32 ab, .int .i64 ac], .int .u32 a1] ?_; (with_reducible refine (block_Offset.calls ab ac a1 ai aj _ A3.out).mono ?_); rintro e w9 ⟨rfl, hb⟩; refine ⟨_, rfl, ?_⟩; replace HB := hS_ HB hb; replace aa := bB_ aa hb; (try clear hb); obtain ⟨aw, ax, ay, az, aA, aB, aC, aY, aZ, a0, a2, a3, a4, a5⟩ := cz7_ (w := w9) aa) | ((with_reducible refine gate_callee (f := 49) rfl ?_); refine gL_ (some 22) Tryd.func49 #[.agg #[.int .u32 ab, .int .i64 ac, .slice ak ad.length al, .int .i64 ae, .int .i64 af, .int .i64 ag, .int .i64 ah], .int .i64 ai] ?_; (with_reducible refine (block_Held.calls k ab ac _ _ ad ae af ag ah ai true _ ?side1 ?side2 A5.out).mono ?_); (case side1 => exact cC_ aq HB); (case side2 => exact ap.out); rintro e w11 ⟨rfl, hb⟩; refine ⟨_, rfl, ?_⟩; replace HB := hS_ HB hb; replace aa := bB_ aa hb; (try clear hb)))
   go_ret2
   exact ⟨er_, hB_ HB⟩
  ·replace c6 := Bool.eq_false_iff.mpr c6
   subst c6
   have H1 : (some (ai, 0)) = some (r1, r2) := by rw [if_neg (show ¬ (false = true) by decide)] at H; exact H
   clear H; have H := H1; clear H1; simp only [Option.some.injEq, Prod.mk.injEq] at H; obtain ⟨rfl, rfl⟩ := H
   go_enter Tryd.func33, Tryd.ntmps33
   go_wp2_with (first | ((with_reducible refine gate_dst (N := 2) rfl ?_); refine bx_ (N := 2) (cs := #[.int .u32 ab, .int .i64 ac, .slice ak ad.length al, .int .i64 ae, .int .i64 af, .int .i64 ag, .int .i64 ah]) (t := 27) ?_; intro ar hg w12 aa hb; have ao := gG_ hg HB; have an := gG_ hg HB; replace HB := hS_ HB hb; clear hb hg; obtain ⟨aD, aE, aF, aG, aH, aI, aJ, a6, a7, a8, a9, ba, bb, bc⟩ := cz7_ (w := w12) aa) | ((with_reducible refine gate_callee (f := 48) rfl ?_); refine gL_ (some 12) Tryd.func48 #[.agg #[.int .u32 ab, .int .i64 ac], .int .u32 a1] ?_; (with_reducible refine (block_Offset.calls ab ac a1 ai aj _ A3.out).mono ?_); rintro e w14 ⟨rfl, hb⟩; refine ⟨_, rfl, ?_⟩; replace HB := hS_ HB hb; replace aa := bB_ aa hb; (try clear hb); obtain ⟨aK, aL, aM, aN, aO, aP, aQ, bd, be, bf, bg, bh, bi, bj⟩ := cz7_ (w := w14) aa) | ((with_reducible refine gate_callee (f := 49) rfl ?_); refine gL_ (some 22) Tryd.func49 #[.agg #[.int .u32 ab, .int .i64 ac, .slice ak ad.length al, .int .i64 ae, .int .i64 af, .int .i64 ag, .int .i64 ah], .int .i64 ai] ?_; (with_reducible refine (block_Held.calls k ab ac _ _ ad ae af ag ah ai false _ ?side1 ?side2 A5.out).mono ?_); (case side1 => exact cC_ aq HB); (case side2 => exact ap.out); rintro e w16 ⟨rfl, hb⟩; refine ⟨_, rfl, ?_⟩; replace HB := hS_ HB hb; replace aa := bB_ aa hb; (try clear hb)))
   go_ret2
   exact ⟨er_, hB_ HB⟩
 ·rw [if_neg c4] at H
  have au : (aj == 0) = false := beq_eq_false_iff_ne.mpr c4
  have av : (aj != 0) = true := bne_iff_ne.mpr c4
  simp only [Option.some.injEq, Prod.mk.injEq] at H; obtain ⟨rfl, rfl⟩ := H
  go_enter Tryd.func33, Tryd.ntmps33
  go_wp2_with (first | ((with_reducible refine gate_dst (N := 2) rfl ?_); refine bx_ (N := 2) (cs := #[.int .u32 ab, .int .i64 ac, .slice ak ad.length al, .int .i64 ae, .int .i64 af, .int .i64 ag, .int .i64 ah]) (t := 27) ?_; intro ar hg w17 aa hb; have ao := gG_ hg HB; have an := gG_ hg HB; replace HB := hS_ HB hb; clear hb hg; obtain ⟨aR, aS, aT, aU, aV, aW, aX, bk, bl, bm, bn, bo, bp, bq⟩ := cz7_ (w := w17) aa) | ((with_reducible refine gate_callee (f := 48) rfl ?_); refine gL_ (some 12) Tryd.func48 #[.agg #[.int .u32 ab, .int .i64 ac], .int .u32 a1] ?_; (with_reducible refine (block_Offset.calls ab ac a1 ai aj _ A3.out).mono ?_); rintro e w19 ⟨rfl, hb⟩; refine ⟨_, rfl, ?_⟩; replace HB := hS_ HB hb; (try clear hb)))
  go_ret2
  exact ⟨er_, hB_ HB⟩

/-! ### ask_size: function 46 -/
def ask_size.f (a0_0 a0_1 : Int) (l0_2 : List Int) : Option (Int) := if a0_0 = 4 then (if (l0_2.length : Int) = 0 then (some 7) else (if (l0_2.length : Int) > 64 then (some 1) else (some 0))) else (some 0)
set_option maxHeartbeats 8000000 in
set_option maxRecDepth 100000 in
theorem ask_size.calls (ab ae : Int) (ad : Option Addr) (af : Nat) (aa : List Int) (r : Int) (w : World) (hr0_2 : Kd.C (Kd.int .u32) w ad aa.length aa) (hc0_2 : aa.length ≤ af) (h : ask_size.f ab ae aa = some r) :
  Calls Tryd.prog 46 #[.agg #[.int .i64 ab, .int .u32 ae, .slice ad aa.length af]] w fun e w' => e = .returned (.int .i64 r) ∧ Below w.heap.size w w' := by
 have hu30 := Tryd.underlying30
 have aQ := Aside0.mk hr0_2
 have aP := Aside0.mk hc0_2
 clear hr0_2 hc0_2
 have HB := Aside0.mk (Below.refl w.heap.size w)
 have H : (if ab = 4 then (if (aa.length : Int) = 0 then (some 7) else (if (aa.length : Int) > 64 then (some 1) else (some 0))) else (some 0)) = some r := h
 clear h
 by_cases c2 : ab = 4
 ·rw [if_pos c2] at H
  have aj : (ab == 4) = true := beq_iff_eq.mpr c2
  have ak : (ab != 4) = false := bne_eq_false_iff_eq.mpr c2
  clear c2
  by_cases c3 : (aa.length : Int) = 0
  ·rw [if_pos c3] at H
   have al : ((aa.length : Int) == 0) = true := beq_iff_eq.mpr c3
   have am : ((aa.length : Int) != 0) = false := bne_eq_false_iff_eq.mpr c3
   clear c3
   obtain rfl := Option.some.inj H
   go_enter Tryd.func46, Tryd.ntmps46
   go_wp2_with (first | ((with_reducible refine gate_dst (N := 1) rfl ?_); refine bx_ (N := 1) (cs := #[.int .i64 ab, .int .u32 ae, .slice ad aa.length af]) (t := 30) ?_; intro ai hg w4 ac hb; have ah := gG_ hg HB; have ag := gG_ hg HB; replace HB := hS_ HB hb; clear hb hg; obtain ⟨aD, aE, aF, aJ, aK, aL⟩ := cz3_ (w := w4) ac))
   go_ret
   exact ⟨er_, hB_ HB⟩
  ·rw [if_neg c3] at H
   have al : ((aa.length : Int) == 0) = false := beq_eq_false_iff_ne.mpr c3
   have am : ((aa.length : Int) != 0) = true := bne_iff_ne.mpr c3
   have aR : ¬ (aa = []) := fun h_ => c3 (by rw [h_]; rfl)
   by_cases c6 : (aa.length : Int) > 64
   ·rw [if_pos c6] at H
    have an : decide (64 < (aa.length : Int)) = true := decide_eq_true c6
    have ao : decide (64 < aa.length) = true := decide_eq_true (by omega)
    clear c6
    obtain rfl := Option.some.inj H
    go_enter Tryd.func46, Tryd.ntmps46
    go_wp2_with (first | ((with_reducible refine gate_dst (N := 1) rfl ?_); refine bx_ (N := 1) (cs := #[.int .i64 ab, .int .u32 ae, .slice ad aa.length af]) (t := 30) ?_; intro ai hg w7 ac hb; have ah := gG_ hg HB; have ag := gG_ hg HB; replace HB := hS_ HB hb; clear hb hg; obtain ⟨aG, aH, aI, aM, aN, aO⟩ := cz3_ (w := w7) ac))
    go_ret
    exact ⟨er_, hB_ HB⟩
   ·rw [if_neg c6] at H
    have an : decide (64 < (aa.length : Int)) = false := decide_eq_false c6
    have ao : decide (64 < aa.length) = false := decide_eq_false (by omega)
    clear c6
    obtain rfl := Option.some.inj H
    go_enter Tryd.func46, Tryd.ntmps46
    go_wp2_with (first | ((with_reducible refine gate_dst (N := 1) rfl ?_); refine bx_ (N := 1) (cs := #[.int .i64 ab, .int .u32 ae, .slice ad aa.length af]) (t := 30) ?_; intro ai hg w9 ac hb; have ah := gG_ hg HB; have ag := gG_ hg HB; replace HB := hS_ HB hb; clear hb hg; obtain ⟨ap, aq, ar, ax, ay, az⟩ := cz3_ (w := w9) ac))
    go_ret
    exact ⟨er_, hB_ HB⟩
 ·rw [if_neg c2] at H
  have aj : (ab == 4) = false := beq_eq_false_iff_ne.mpr c2
  have ak : (ab != 4) = true := bne_iff_ne.mpr c2
  obtain rfl := Option.some.inj H
  go_enter Tryd.func46, Tryd.ntmps46
  go_wp2_with (first | ((with_reducible refine gate_dst (N := 1) rfl ?_); refine bx_ (N := 1) (cs := #[.int .i64 ab, .int .u32 ae, .slice ad aa.length af]) (t := 30) ?_; intro ai hg w11 ac hb; have ah := gG_ hg HB; have ag := gG_ hg HB; replace HB := hS_ HB hb; clear hb hg; obtain ⟨au, av, aw, aA, aB, aC⟩ := cz3_ (w := w11) ac))
  go_ret
  exact ⟨er_, hB_ HB⟩

/-! ### slices_Clone_uint32_uint32: function 51 -/
def slices_Clone_uint32_uint32.f (l0 : List Int) : Option (List Int) := (some (([] : List Int) : List Int)).bind fun y110 => (if y110.length + l0.length < 17592186044416 then (some (y110 ++ l0)) else (none))
set_option maxHeartbeats 8000000 in
set_option maxRecDepth 100000 in
theorem slices_Clone_uint32_uint32.calls (A0 : Option Addr) (c0 : Nat) (l0 r : List Int) (w : World) (hr0 : Kd.C (Kd.int .u32) w A0 l0.length l0) (hc0 : l0.length ≤ c0) (h : slices_Clone_uint32_uint32.f l0 = some r) :
  Calls Tryd.prog 51 #[.slice A0 l0.length c0] w fun e w' => ∃ v0_ : Value, e = .returned (v0_) ∧ Kd.R (Kd.int .u32) 22 w' w.heap.size (fun _ => True) v0_ r ∧ Below w.heap.size w w' := by
 have af := Aside0.mk hr0
 have ag := Aside0.mk hc0
 clear hr0 hc0
 have HB := Aside0.mk (Below.refl w.heap.size w)
 have H : ((some (([] : List Int) : List Int)).bind fun aa => (if aa.length + l0.length < 17592186044416 then (some (aa ++ l0)) else (none))) = some r := h
 clear h
 obtain ⟨aa, hy110⟩ : ∃ y_ : List Int, y_ = (([] : List Int)) := ⟨_, rfl⟩
 replace H : (if aa.length + l0.length < 17592186044416 then (some (aa ++ l0)) else (none)) = some r := by first | (rw [hy110]; with_reducible exact H) | (have H2_ := (Option.bind_some _ _).symm.trans H; rw [hy110]; with_reducible exact H2_) | (have H2_ := (Option.bind_some _ _).symm.trans H; with_reducible exact H2_) | with_reducible exact H | (rw [hy110]; exact H) | exact H
 have Ny110 := Aside0.mk hy110
 clear hy110
 by_cases c2 : aa.length + l0.length < 17592186044416
 ·rw [if_pos c2] at H
  have LMc2 := Aside0.mk c2; clear c2; obtain ⟨ac, hy113⟩ : ∃ y_ : List Int, y_ = (aa ++ l0) := ⟨_, rfl⟩
  replace H : (some ac) = some r := by first | (rw [hy113]; with_reducible exact H) | (have H2_ := (Option.bind_some _ _).symm.trans H; rw [hy113]; with_reducible exact H2_) | (have H2_ := (Option.bind_some _ _).symm.trans H; with_reducible exact H2_) | with_reducible exact H | (rw [hy113]; exact H) | exact H
  have Ny113 := Aside0.mk hy113; clear hy113
  obtain rfl := Option.some.inj H
  have qeq : ∀ (w : World) (a : Option Addr) (n c n' c' : Nat), (binOp .eql 28 (.slice a n c) (.slice none n' c')).run Tryd.prog w = .ok (.bool a.isNone) w := fun w a n c n' c' => Lib.run_eql_slice_nil w _ _ a n c n' c' Tryd.underlying28
  rcases A0 with _ | ad
  ·have hz : l0.length = 0 := by
    rcases Nat.eq_zero_or_pos l0.length with h0 | h0
    ·exact h0
    ·obtain ⟨ad, e1, _⟩ := Kd.at_int af.out 0 (by omega) (by omega)
     cases e1
   have hl : l0 = [] := List.eq_nil_of_length_eq_zero hz
   subst hl
   have hy : ac = [] := by rw [Ny113.out, Ny110.out]; rfl
   clear Ny113 Ny110 LMc2; subst hy
   go_enter Tryd.func51, Tryd.ntmps51
   go_wp2_with (first | go_in)
   go_ret
   exact ⟨_, rfl, Kd.R_nil _ _ _ _ _, hB_ HB⟩
  ·go_enter Tryd.func51, Tryd.ntmps51
   go_wp2_with (first | ((with_reducible refine gate_dst (N := 5) rfl ?_); refine Kd.R_lit (Kd.int .u32) _ 22 ?hg (N := 5) ?hd (xs := ([] : List Int)) (inner := []) (ok := fun _ => True) (okp := fun _ => True) ?hr ?hp (fun _ hk => hk) trivial (Below.refl _ _) (Nat.le_refl _) (by simp) ?_; (case hd => rfl); (case hg => rfl); (case hr => first | (go_simp; done) | (go_simp; rfl)); (case hp => exact (Reps.none _ _)); intro v111 w3 ho4 hb hg_ hnew_; clear hg_ hnew_; (first | rw [← Ny110.out] at ho4 | (simp only [Int.reduceToNat] at ho4; rw [← Ny110.out] at ho4)); have ab := Aside0.mk (Kd.R_lower ho4 (below_size (hB_ HB))); replace HB := hS_ HB hb; clear hb ho4) | ((with_reducible refine gate_builtin (b := .append) (xs := #[.tmp 5, .tmp 6]) rfl ?_); at_builtin; refine Kd.R_append_rows (Kd.int .u32) (w0 := w) w.heap.size rfl (.tmp 5) (.tmp 6) 28 22 (.int .u32 0) 4 rfl Tryd.underlying28 (by kernel_rfl) rfl (by decide) (by omega) v111 aa l0 _ _ _ (fun _ => True) (fun _ => False) rfl rfl ?aO ?aR (fun _ _ h => h) (fun _ h => h.elim) ?aF ?aB ?aS ?aL ?_; (case aR => exact cC_ af HB); (case aB => exact (hB_ HB)); (case aF => exact (fun _ _ => trivial)); (case aO => exact (rR_ ab)); (case aS => exact (below_size (hB_ HB))); (case aL => have := LMc2.out; omega); intro v114 w5 ho hb hg hat; rw [← Ny113.out] at ho; replace HB := Aside0.mk (hb); have ae := Aside0.mk (ho); clear ab ho hb hg hat))
   go_ret
   exact ⟨_, er_, rR_ ae, hB_ HB⟩
 ·rw [if_neg c2] at H
  exact absurd H (by simp)

/-! ### ask_Names: function 47 -/
def ask_Names.f (a0_0 a0_1 : Int) (l0_2 : List Int) : Option (List Int) := if a0_0 = 4 then ((slices_Clone_uint32_uint32.f l0_2).bind fun t115 => (some t115)) else (if a0_0 ≥ 0 then (if a0_0 < 6 then (if 0 ≤ a0_0 then (if (sgl a0_0) = true then (some (([a0_1] : List Int))) else (some ([] : List Int))) else (none)) else (some ([] : List Int))) else (some ([] : List Int)))
set_option maxHeartbeats 8000000 in
set_option maxRecDepth 100000 in
theorem ask_Names.calls (aa ac : Int) (ae : Option Addr) (af : Nat) (ad r : List Int) (w : World) (hr0_2 : Kd.C (Kd.int .u32) w ae ad.length ad) (hc0_2 : ad.length ≤ af) (hG : Lg w) (h : ask_Names.f aa ac ad = some r) :
  Calls Tryd.prog 47 #[.agg #[.int .i64 aa, .int .u32 ac, .slice ae ad.length af]] w fun e w' => ∃ v0_ : Value, e = .returned (v0_) ∧ Kd.R (Kd.int .u32) 22 w' w.heap.size (fun _ => True) v0_ r ∧ Below w.heap.size w w' := by
 have hu30 := Tryd.underlying30
 have av := Aside0.mk hr0_2
 have aq := Aside0.mk hc0_2
 clear hr0_2 hc0_2
 have HB := Aside0.mk (Below.refl w.heap.size w)
 have HG := Aside0.mk hG
 clear hG
 have H : (if aa = 4 then ((slices_Clone_uint32_uint32.f ad).bind fun al => (some al)) else (if aa ≥ 0 then (if aa < 6 then (if 0 ≤ aa then (if (sgl aa) = true then (some (([ac] : List Int))) else (some ([] : List Int))) else (none)) else (some ([] : List Int))) else (some ([] : List Int)))) = some r := h
 clear h
 by_cases c2 : aa = 4
 ·rw [if_pos c2] at H
  have ax : (aa == 4) = true := beq_iff_eq.mpr c2
  have ay : (aa != 4) = false := bne_eq_false_iff_eq.mpr c2
  clear c2; replace H := bi_ H; obtain ⟨al, A30, H⟩ := H
  replace H : (some al) = some r := H
  have A3 := Aside0.mk A30; clear A30
  obtain rfl := Option.some.inj H
  go_enter Tryd.func47, Tryd.ntmps47
  go_wp2_with (first | ((with_reducible refine gate_dst (N := 1) rfl ?_); refine bx_ (N := 1) (cs := #[.int .i64 aa, .int .u32 ac, .slice ae ad.length af]) (t := 30) ?_; intro ai hg w4 ab hb; have ah := gG_ hg HB; have ag := gG_ hg HB; replace HB := hS_ HB hb; clear hb hg; obtain ⟨a0, a1, a2, a3, a4, a5⟩ := cz3_ (w := w4) ab) | ((with_reducible refine gate_callee (f := 51) rfl ?_); refine gL_ (some 9) Tryd.func51 #[.slice ae ad.length af] ?_; (with_reducible refine (slices_Clone_uint32_uint32.calls _ _ ad al _ ?side1 ?side2 A3.out).mono ?_); (case side1 => exact cC_ av HB); (case side2 => exact aq.out); rintro e w6 ⟨v116, rfl, ho0, hb⟩; refine ⟨_, rfl, ?_⟩; have ar := Aside0.mk (Kd.R_lower ho0 (below_size (hB_ HB))); replace HB := hS_ HB hb; replace ab := bB_ ab hb; (try clear hb); (try clear ho0)))
  go_ret
  exact ⟨_, er_, rR_ ar, hB_ HB⟩
 ·rw [if_neg c2] at H
  have ax : (aa == 4) = false := beq_eq_false_iff_ne.mpr c2
  have ay : (aa != 4) = true := bne_iff_ne.mpr c2
  by_cases c7 : aa ≥ 0
  ·rw [if_pos c7] at H
   have az : decide (0 ≤ aa) = true := decide_eq_true c7
   clear c7
   by_cases c8 : aa < 6
   ·rw [if_pos c8] at H
    have aA : decide (aa < 6) = true := decide_eq_true c8
    clear c8
    by_cases c9 : 0 ≤ aa
    ·rw [if_pos c9] at H
     have a6 : decide (0 ≤ aa) = true := decide_eq_true c9
     clear c9
     by_cases c10 : (sgl aa) = true
     ·rw [if_pos c10] at H
      have aw : (sgl aa) = true := c10
      clear c10; obtain ⟨aB, hy118⟩ : ∃ y_ : List Int, y_ = (([ac] : List Int)) := ⟨_, rfl⟩
      replace H : (some aB) = some r := by first | (rw [hy118]; with_reducible exact H) | (have H2_ := (Option.bind_some _ _).symm.trans H; rw [hy118]; with_reducible exact H2_) | (have H2_ := (Option.bind_some _ _).symm.trans H; with_reducible exact H2_) | with_reducible exact H | (rw [hy118]; exact H) | exact H
      have Ny118 := Aside0.mk hy118; clear hy118
      obtain rfl := Option.some.inj H
      go_enter Tryd.func47, Tryd.ntmps47
      go_wp2_with (first | ((with_reducible refine gate_dst (N := 1) rfl ?_); refine bx_ (N := 1) (cs := #[.int .i64 aa, .int .u32 ac, .slice ae ad.length af]) (t := 30) ?_; intro ai hg w11 ab hb; have ah := gG_ hg HB; have ag := gG_ hg HB; replace HB := hS_ HB hb; clear hb hg; obtain ⟨aC, aD, aE, aO, aP, aQ⟩ := cz3_ (w := w11) ab; have am : 0 ≤ (aa : Int) := od_; have ao : (aa : Int) < 6 := od_; have aj := Lg_at HG.out am ao; replace aj := (HB.out.cell (World.block_lt_of_cell? w _ aj)).trans aj; replace am := eq_true am; replace ao := eq_true ao) | ((with_reducible refine gate_dst (N := 27) rfl ?_); refine Kd.R_lit (Kd.int .u32) _ 22 ?hg (N := 27) ?hd (xs := ([ac] : List Int)) (inner := [.int .u32 ac]) (ok := fun _ => True) (okp := fun _ => True) ?hr ?hp (fun _ hk => hk) trivial (Below.refl _ _) (Nat.le_refl _) (by simp) ?_; (case hd => rfl); (case hg => rfl); (case hr => first | (go_simp; done) | (go_simp; rfl)); (case hp => exact (Reps.one (show Kd.M (Kd.int .u32) _ _ _ ac [.int .u32 ac] from rfl) (Reps.none _ _))); intro v119 w14 ho15 hb hg_ hnew_; clear hg_ hnew_; (first | rw [← Ny118.out] at ho15 | (simp only [Int.reduceToNat] at ho15; rw [← Ny118.out] at ho15)); have au := Aside0.mk (Kd.R_lower ho15 (below_size (hB_ HB))); replace HB := hS_ HB hb; replace ab := bB_ ab hb; clear hb ho15))
      go_ret
      exact ⟨_, er_, rR_ au, hB_ HB⟩
     ·rw [if_neg c10] at H
      have aw : (sgl aa) = false := by simpa using c10
      clear c10
      obtain rfl := Option.some.inj H
      go_enter Tryd.func47, Tryd.ntmps47
      go_wp2_with (first | ((with_reducible refine gate_dst (N := 1) rfl ?_); refine bx_ (N := 1) (cs := #[.int .i64 aa, .int .u32 ac, .slice ae ad.length af]) (t := 30) ?_; intro ai hg w16 ab hb; have ah := gG_ hg HB; have ag := gG_ hg HB; replace HB := hS_ HB hb; clear hb hg; obtain ⟨aF, aG, aH, aR, aS, aT⟩ := cz3_ (w := w16) ab; have an : 0 ≤ (aa : Int) := od_; have ap : (aa : Int) < 6 := od_; have ak := Lg_at HG.out an ap; replace ak := (HB.out.cell (World.block_lt_of_cell? w _ ak)).trans ak; replace an := eq_true an; replace ap := eq_true ap))
      go_ret
      exact ⟨_, er_, by first | exact Kd.R_nil _ _ _ _ _ | exact Kd.N_nil _ _ _ _ _ | exact Kd.V_nil _ _ _ _ _ | exact Kd.Q_nil _ _ _ _ _ | exact Kd.S_nil _ _ _ _ _, hB_ HB⟩
    ·rw [if_neg c9] at H
     exact absurd H (by simp)
   ·rw [if_neg c8] at H
    have aA : decide (aa < 6) = false := decide_eq_false c8
    clear c8
    obtain rfl := Option.some.inj H
    go_enter Tryd.func47, Tryd.ntmps47
    go_wp2_with (first | ((with_reducible refine gate_dst (N := 1) rfl ?_); refine bx_ (N := 1) (cs := #[.int .i64 aa, .int .u32 ac, .slice ae ad.length af]) (t := 30) ?_; intro ai hg w19 ab hb; have ah := gG_ hg HB; have ag := gG_ hg HB; replace HB := hS_ HB hb; clear hb hg; obtain ⟨aI, aJ, aK, aU, aV, aW⟩ := cz3_ (w := w19) ab))
    go_ret
    exact ⟨_, er_, by first | exact Kd.R_nil _ _ _ _ _ | exact Kd.N_nil _ _ _ _ _ | exact Kd.V_nil _ _ _ _ _ | exact Kd.Q_nil _ _ _ _ _ | exact Kd.S_nil _ _ _ _ _, hB_ HB⟩
  ·rw [if_neg c7] at H
   have az : decide (0 ≤ aa) = false := decide_eq_false c7
   clear c7
   obtain rfl := Option.some.inj H
   go_enter Tryd.func47, Tryd.ntmps47
   go_wp2_with (first | ((with_reducible refine gate_dst (N := 1) rfl ?_); refine bx_ (N := 1) (cs := #[.int .i64 aa, .int .u32 ac, .slice ae ad.length af]) (t := 30) ?_; intro ai hg w21 ab hb; have ah := gG_ hg HB; have ag := gG_ hg HB; replace HB := hS_ HB hb; clear hb hg; obtain ⟨aL, aM, aN, aX, aY, aZ⟩ := cz3_ (w := w21) ab))
   go_ret
   exact ⟨_, er_, by first | exact Kd.R_nil _ _ _ _ _ | exact Kd.N_nil _ _ _ _ _ | exact Kd.V_nil _ _ _ _ _ | exact Kd.Q_nil _ _ _ _ _ | exact Kd.S_nil _ _ _ _ _, hB_ HB⟩

end Go.Proofs.YtkiimboedgnoiaaDoor.PSpecBack
