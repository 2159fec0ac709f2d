/- The walk of CellsKeep, part of it: what the Go functions answer; no condition. -/
import Derived.Test.YtmchledhamhlgaaQCellsKeepx0
namespace Go.Proofs.Ytmchledhamhlgaa.PCellsKeep
open Go.RowKit Go.Proofs.YtmchledhamhlgaaW.PrintWords Go.Proofs.YtmchledhamhlgaaW.PrintLast Go.Proofs.YtmchledhamhlgaaW.PrintMore
attribute [local go_sem] max2_int min2_int max_two min_two max_three min_three max_four min_four   -- for this text's walks alone
set_option linter.unusedVariables false
set_option linter.unusedSimpArgs false

theorem V_atq {α : Type} {d : Kd α} {e base m : Nat} {ok : Nat → Prop} {w w' : World} {v : Value} {xs : List α} (hq : w.drewN m = w') (h : Kd.V d e w base ok v xs) : Kd.V d e w' base ok v xs := by subst hq; exact Kd.V_drewN h m
section
variable {P : Program} {ops : Array Oper} {rest : List Oper} {o : Oper} {a : Act} {Q : Exit → Act → World → Prop}
theorem cut_full (t e : TypeId) {i : TypeInfo} (ht : P.underlying t = some (.slice e)) (hi : P.info? e = some i) (A : Option Addr) (n c : Nat) (hc : n ≤ c) :
  ∀ W : World, (Instr.slice t (.slice A n c) none (some (.int .i64 (n : Int))) (some (.int .i64 (n : Int)))).run P W = .ok (.slice A n n) W := by
 intro W
 have hel : P.elem t = e := by simp [Program.elem, ht]
 have hu : P.underlying t = some (.slice (P.elem t)) := by rw [hel]; exact ht
 have ha : (A.map fun x => x.add 0) = A := by cases A <;> simp [Addr.add]
 rw [run_slice_any W t A n c hu, hel]
 have h1 : (n : Int) ≤ (c : Int) := by omega
 simp [Instr.sliceBounds, run_sliceBound, sizeOf, typeInfo, hi, sliced, Result.andThen, ha, h1]
theorem cut_fullh (t e : TypeId) {i : TypeInfo} (ht : P.underlying t = some (.slice e)) (hi : P.info? e = some i) (A : Option Addr) (n c : Nat) (j : Int) (h0 : 0 ≤ j) (hj : j ≤ (n : Int)) (hc : n ≤ c) :
  ∀ W : World, (Instr.slice t (.slice A n c) none (some (.int .i64 j)) (some (.int .i64 j))).run P W = .ok (.slice A j.toNat j.toNat) W := by
 intro W
 have hel : P.elem t = e := by simp [Program.elem, ht]
 have hu : P.underlying t = some (.slice (P.elem t)) := by rw [hel]; exact ht
 have ha : (A.map fun x => x.add 0) = A := by cases A <;> simp [Addr.add]
 rw [run_slice_any W t A n c hu, hel]
 have h1 : j ≤ (c : Int) := by omega
 have h2 : (j.toNat : Int) = j := Int.toNat_of_nonneg h0
 simp [Instr.sliceBounds, run_sliceBound, sizeOf, typeInfo, hi, sliced, Result.andThen, ha, h0, h1, h2]
theorem C_take_full {kd : IntKind} {W : World} {A : Option Addr} {l y : List Int} {m : Nat} (hy : y = l.take m) (hm : m ≤ l.length) (h : Kd.C (Kd.int kd) W A l.length l) : Kd.C (Kd.int kd) W A y.length y := by
 subst hy
 exact Kd.C_take (m := m) h hm
theorem full_run (kd : IntKind) {w0 W : World} (base : Nat) (t ty e : TypeId) (z : Value) (bytes : Nat)
  (ht : P.underlying t = some (.slice e)) (hinfo : (P.info? e).map (fun i => (i.zero, i.size, i.bytes)) = some (some z, (Kd.int kd).sz, bytes)) (hz : z.cells.size = (Kd.int kd).sz) (hb0 : 0 < bytes)
  (A : Option Addr) (xs : List Int) (p : Int) (ok : Nat → Prop) (hfresh : ∀ k, W.heap.size ≤ k → ok k)
  (HO : Kd.C (Kd.int kd) W A xs.length xs) (HB : Below base w0 W) (hbase : base ≤ W.heap.size) (hl : (xs.length + 1) * bytes ≤ 140737488355328) :
  ∃ v1 w1, (Builtin.append_ #[t, t] ty #[.slice A xs.length xs.length, .slice (some ⟨W.heap.size, 0, none⟩) 1 1]).run P (W.alloc (.cells #[.int kd p] e)) = .ok v1 w1 ∧ (Kd.int kd).R e w1 base ok v1 (xs ++ [p]) ∧ Below base w0 w1 ∧ W.grownBy w1 (Value.slice none 0 0).ownBlock ∧ (v1.ownBlock = (Value.slice none 0 0).ownBlock ∨ ∃ b, v1.ownBlock = some b ∧ W.heap.size ≤ b) := by
 obtain ⟨i0, hi, hzz⟩ := Option.map_eq_some_iff.1 hinfo
 simp only [Prod.mk.injEq] at hzz
 obtain ⟨hz0, hz1, hz2⟩ := hzz
 have hlen : xs.length + 1 ≤ 140737488355328 := Nat.le_trans (Nat.le_mul_of_pos_right _ hb0) hl
 have hW : Below W.heap.size W (W.alloc (.cells #[.int kd p] e)) := below_alloc (Below.refl _ _) _
 have hnews : ∀ j u, [Value.int kd p][j]? = some u → (W.alloc (.cells #[.int kd p] e)).cell? ((⟨W.heap.size, 0, none⟩ : Addr).add j) = some u := by
  simpa using World.news_of_block (cs := #[.int kd p]) (t := e) (fr := (0, 0)) (heap_alloc_new W (.cells #[.int kd p] e))
 have hrun : ∃ v1 w1, (Builtin.append_ #[t, t] ty #[.slice A xs.length xs.length, .slice (some ⟨W.heap.size, 0, none⟩) 1 1]).run P (W.alloc (.cells #[.int kd p] e)) = .ok v1 w1 ∧ w1.ownsRow (W.alloc (.cells #[.int kd p] e)).heap.size e 1 v1 (xs.length + 1) (nums kd xs ++ [.int kd p]) ∧ (W.alloc (.cells #[.int kd p] e)).grownBy w1 none := by
  cases A with
  | some b =>
   exact run_append_arg_grows (P := P) (W.alloc (.cells #[.int kd p] e)) t ty e i0 z 1 bytes ht hi hz0 hz1 hz2 hz (by decide) b xs.length xs.length (nums kd xs) (by simp [nums]) (fun j u hj => by
    have hj' : j < xs.length := by have := (List.getElem?_eq_some_iff.1 hj).1; simpa [nums] using this
    obtain ⟨ad, e1, hc⟩ := Kd.at_int HO (j : Int) (by omega) (by omega)
    injection e1 with e1
    subst e1
    rw [Int.toNat_natCast] at hc
    rw [(hW.cell (World.block_lt_of_cell? W _ hc)).trans hc, ← hj]
    simp [nums, rd, List.getD_eq_getElem?_getD, hj']) ⟨W.heap.size, 0, none⟩ 1 1 [.int kd p] rfl hnews (by omega) (by simp only [maxLen]; omega) hl
  | none =>
   have h0 : xs.length = 0 := by
    rcases Nat.eq_zero_or_pos xs.length with h0 | h0
    ·exact h0
    ·obtain ⟨ad, e1, _⟩ := Kd.at_int HO 0 (by omega) (by omega)
     cases e1
   have hx0 : xs = [] := List.eq_nil_of_length_eq_zero h0
   subst hx0
   obtain ⟨v', w', hr, r1, r2, _⟩ := run_append_own (P := P) (W.alloc (.cells #[.int kd p] e)) (W.alloc (.cells #[.int kd p] e)).heap.size t ty e i0 z 1 bytes ht hi hz0 hz1 hz2 hz (by decide) (.slice none 0 0) 0 [] (World.ownsRow_nil _ _ e 1) ⟨W.heap.size, 0, none⟩ 1 1 [.int kd p] rfl hnews (by simp [Value.oneCell']) (by simp only [maxLen]; omega) (by simpa using hl) (Nat.le_refl _)
   exact ⟨v', w', hr, by simpa [nums] using r1, r2⟩
 obtain ⟨v1, w1, hr, hown, hg⟩ := hrun
 have hown' : w1.ownsRow base e 1 v1 (xs.length + 1) (nums kd xs ++ [.int kd p]) := by
  obtain ⟨q1, q2⟩ := hown
  refine ⟨q1, ?_⟩
  rcases q2 with q | ⟨g, cap, cur, q1, q2, q3⟩
  ·exact .inl q
  ·exact .inr ⟨g, cap, cur, q1, by simp at q2; omega, q3⟩
 have hblk : ∀ k, v1.ownBlock = some k → W.heap.size ≤ k := by
  intro k hk
  rcases hown.2 with ⟨q, _⟩ | ⟨g, cap, cur, q1, q2, q3⟩
  ·subst q; simp [Value.ownBlock] at hk
  ·subst q1; simp [Value.ownBlock] at hk; simp at q2; omega
 refine ⟨v1, w1, hr, ?_, ?_, ?_, ?_⟩
 ·refine Kd.R_of_own (enc := Value.int kd) (h1 := fun _ => rfl) ?_ (fun k hk => hfresh k (hblk k hk))
  have e1 : nums kd xs ++ [.int kd p] = encs (Value.int kd) (xs ++ [p]) := by simp [nums, encs]
  rw [← e1, List.length_append]
  exact hown'
 ·exact pw_below_grown (HB.alloc hbase _) none (by simp; omega) hg (fun k e => by cases e)
 ·exact World.grownBy.trans (World.grownBy_alloc W _ _) hg
 ·rcases hown.2 with ⟨q, _⟩ | ⟨g, cap, cur, q1, q2, q3⟩
  ·subst q; exact .inl rfl
  ·subst q1; exact .inr ⟨g, by simp [Value.ownBlock], by simp at q2; omega⟩
end
section
variable {P : Program} {ops : Array Oper} {o : Oper} {a : Act} {Q : Exit → Act → World → Prop} {Kc : Act → World → Prop}
/-- R_append_full as a step of a region. -/
theorem R_append_full_step (kd : IntKind) {w0 W : World} (base : Nat) (hw : Region.wanted o (yielded ops a.tmps) = true) (s x : Operand) (t e : TypeId) (z : Value) (bytes : Nat)
  (ho : o.op = .call { callee := .builtin .append, args := #[s, x], argTypes := #[t, t] })
  (ht : P.underlying t = some (.slice e)) (hinfo : (P.info? e).map (fun i => (i.zero, i.size, i.bytes)) = some (some z, (Kd.int kd).sz, bytes)) (hz : z.cells.size = (Kd.int kd).sz) (hs0 : 0 < (Kd.int kd).sz) (hb0 : 0 < bytes)
  (A : Option Addr) (xs : List Int) (p : Int) (cs : List Value) (ok okp : Nat → Prop) (hs : a.eval s = .slice A xs.length xs.length) (hx : a.eval x = .slice (some ⟨W.heap.size, 0, none⟩) 1 1) (hp : (Kd.int kd).M W base okp p cs) (hokp : ∀ k, okp k → ok k ∧ some k ≠ (Value.slice none 0 0).ownBlock) (hfresh : ∀ k, W.heap.size ≤ k → ok k)
  (HO : Kd.C (Kd.int kd) W A xs.length xs) (HB : Below base w0 W) (hbase : base ≤ W.heap.size) (hl : (xs.length + 1) * bytes ≤ 140737488355328)
  (h : ∀ v1 w1, (Kd.int kd).R e w1 base ok v1 (xs ++ [p]) → Below base w0 w1 → W.grownBy w1 (Value.slice none 0 0).ownBlock → (v1.ownBlock = (Value.slice none 0 0).ownBlock ∨ ∃ b, v1.ownBlock = some b ∧ W.heap.size ≤ b) → Kc (a.put o.dst v1) w1) :
  if Region.wanted o (yielded ops a.tmps) = true then Oper.wp P o a (W.alloc (.cells cs.toArray e)) Kc Q else Kc (a.put o.dst undef) (W.alloc (.cells cs.toArray e)) := by
 have hcs : cs = [.int kd p] := hp
 subst hcs
 obtain ⟨v1, w1, hr, r1, r2, r3, r4⟩ := full_run (P := P) kd base t o.type e z bytes ht hinfo hz hb0 A xs p ok hfresh HO HB hbase hl
 rw [if_pos hw]
 unfold Oper.wp execOp
 simp only [ho, resolve, invoke, builtin, Sem.run_bind, Sem.run_pure, Result.andThen_ok, List.map_toArray, List.map_cons, List.map_nil, hs, hx, hr]
 exact h v1 w1 r1 r2 r3 r4
end
section
variable {P : Program} {ops : Array Oper} {rest : List Oper} {o : Oper} {a : Act} {Q : Exit → Act → World → Prop}
/-- append(x[:n:n], p): new memory, whatever x is: nothing of x's is written. -/
theorem R_append_full (kd : IntKind) {w0 W : World} (base : Nat) (hgd : o.guard = none) (s x : Operand) (t e : TypeId) (z : Value) (bytes : Nat)
  (ho : o.op = .call { callee := .builtin .append, args := #[s, x], argTypes := #[t, t] })
  (ht : P.underlying t = some (.slice e)) (hinfo : (P.info? e).map (fun i => (i.zero, i.size, i.bytes)) = some (some z, (Kd.int kd).sz, bytes)) (hz : z.cells.size = (Kd.int kd).sz) (hs0 : 0 < (Kd.int kd).sz) (hb0 : 0 < bytes)
  (A : Option Addr) (xs : List Int) (p : Int) (cs : List Value) (ok okp : Nat → Prop) (hs : a.eval s = .slice A xs.length xs.length) (hx : a.eval x = .slice (some ⟨W.heap.size, 0, none⟩) 1 1) (hp : (Kd.int kd).M W base okp p cs) (hokp : ∀ k, okp k → ok k ∧ some k ≠ (Value.slice none 0 0).ownBlock) (hfresh : ∀ k, W.heap.size ≤ k → ok k)
  (HO : Kd.C (Kd.int kd) W A xs.length xs) (HB : Below base w0 W) (hbase : base ≤ W.heap.size) (hl : (xs.length + 1) * bytes ≤ 140737488355328)
  (h : ∀ v1 w1, (Kd.int kd).R e w1 base ok v1 (xs ++ [p]) → Below base w0 w1 → W.grownBy w1 (Value.slice none 0 0).ownBlock → (v1.ownBlock = (Value.slice none 0 0).ownBlock ∨ ∃ b, v1.ownBlock = some b ∧ W.heap.size ≤ b) → wpList P ops Q rest (a.put o.dst v1) w1) :
  wpList P ops Q (o :: rest) a (W.alloc (.cells cs.toArray e)) := by
 have hcs : cs = [.int kd p] := hp
 subst hcs
 obtain ⟨i0, hi, hzz⟩ := Option.map_eq_some_iff.1 hinfo
 simp only [Prod.mk.injEq] at hzz
 obtain ⟨hz0, hz1, hz2⟩ := hzz
 have hlen : xs.length + 1 ≤ 140737488355328 := Nat.le_trans (Nat.le_mul_of_pos_right _ hb0) hl
 have hW : Below W.heap.size W (W.alloc (.cells #[.int kd p] e)) := below_alloc (Below.refl _ _) _
 refine wpList_append_grows (P := P) (W.alloc (.cells #[.int kd p] e)) hgd s x t ho e i0 z 1 bytes ht hi hz0 hz1 hz2 hz (by decide) A xs.length xs.length (nums kd xs) hs ?_ (by simp [nums]) ?_ ⟨W.heap.size, 0, none⟩ 1 1 [.int kd p] hx rfl ?_ (by simp [Value.oneCell']) (by omega) (by simp only [maxLen]; omega) hl ?_
 ·intro hA
  rcases Nat.eq_zero_or_pos xs.length with h0 | h0
  ·exact ⟨h0, h0⟩
  ·obtain ⟨ad, e1, _⟩ := Kd.at_int HO 0 (by omega) (by omega)
   rw [hA] at e1; cases e1
 ·intro b hb j u hj
  have hj' : j < xs.length := by have := (List.getElem?_eq_some_iff.1 hj).1; simpa [nums] using this
  obtain ⟨ad, e1, hc⟩ := Kd.at_int HO (j : Int) (by omega) (by omega)
  rw [hb] at e1
  injection e1 with e1
  subst e1
  rw [Int.toNat_natCast] at hc
  rw [(hW.cell (World.block_lt_of_cell? W _ hc)).trans hc, ← hj]
  simp [nums, rd, List.getD_eq_getElem?_getD, hj']
 ·simpa using World.news_of_block (cs := #[.int kd p]) (t := e) (fr := (0, 0)) (heap_alloc_new W (.cells #[.int kd p] e))
 ·intro v1 w1 hown hg
  have hb1 : Below W.heap.size W w1 := pw_below_grown hW none (by simp) hg (fun k e => by cases e)
  have hown' : w1.ownsRow base e 1 v1 (xs.length + 1) (nums kd xs ++ [.int kd p]) := by
   obtain ⟨q1, q2⟩ := hown
   refine ⟨q1, ?_⟩
   rcases q2 with q | ⟨g, cap, cur, q1, q2, q3⟩
   ·exact .inl q
   ·exact .inr ⟨g, cap, cur, q1, by simp at q2; omega, q3⟩
  have hblk : ∀ k, v1.ownBlock = some k → W.heap.size ≤ k := by
   intro k hk
   rcases hown.2 with ⟨q, _⟩ | ⟨g, cap, cur, q1, q2, q3⟩
   ·subst q; simp [Value.ownBlock] at hk
   ·subst q1; simp [Value.ownBlock] at hk; simp at q2; omega
  refine h v1 w1 ?_ ?_ ?_ ?_
  ·refine Kd.R_of_own (enc := Value.int kd) (h1 := fun _ => rfl) ?_ (fun k hk => hfresh k (hblk k hk))
   have e1 : nums kd xs ++ [.int kd p] = encs (Value.int kd) (xs ++ [p]) := by simp [nums, encs]
   rw [← e1, List.length_append]
   exact hown'
  ·exact pw_below_grown (HB.alloc hbase _) none (by simp; omega) hg (fun k e => by cases e)
  ·exact World.grownBy.trans (World.grownBy_alloc W _ _) hg
  ·rcases hown.2 with ⟨q, _⟩ | ⟨g, cap, cur, q1, q2, q3⟩
   ·subst q; exact .inl rfl
   ·subst q1; exact .inr ⟨g, by simp [Value.ownBlock], by simp at q2; omega⟩
end
section
variable {P : Program} {ops : Array Oper} {o : Oper} {a : Act} {Q : Exit → Act → World → Prop} {Kc : Act → World → Prop}
theorem run_append_nothing (w : World) (t ty e : TypeId) (i : TypeInfo) (ht : P.underlying t = some (.slice e)) (hi : P.info? e = some i) (A B : Option Addr) (n c c' : Nat) (hc : n ≤ c) :
  (Builtin.append_ #[t, t] ty #[.slice A n c, .slice B 0 c']).run P w = .ok (.slice A n c) w := by
 have h0 : ∀ a : Addr, Sem.run P (loadCells a 0) w = .ok #[] w := by intro a; simp [loadCells, loadCellsFrom]
 cases A <;> cases B <;> simp [h0, Result.andThen, Builtin.append_, run_underlying ht, sizeOf, typeInfo, hi, Builtin.lenOf, Builtin.firstCells, hc, storeCells]
/-- append(x[:n:n], y...) of whole numbers: with nothing to append the same slice, else new memory. -/
theorem V_append_rows_full_step (kd : IntKind) {w0 W : World} (base : Nat) (hw : Region.wanted o (yielded ops a.tmps) = true) (s x : Operand) (t e : TypeId) (z : Value) (bytes : Nat)
  (ho : o.op = .call { callee := .builtin .append, args := #[s, x], argTypes := #[t, t] })
  (ht : P.underlying t = some (.slice e)) (hinfo : (P.info? e).map (fun i => (i.zero, i.size, i.bytes)) = some (some z, 1, bytes)) (hz : z.cells.size = 1) (hb0 : 0 < bytes)
  (A : Option Addr) (xs : List Int) (B : Option Addr) (ys : List Int) (c : Nat) (ok : Nat → Prop) (hs : a.eval s = .slice A xs.length xs.length) (hx : a.eval x = .slice B ys.length c)
  (HO : Kd.V (Kd.int kd) e W base ok (.slice A xs.length xs.length) xs) (HY : Kd.C (Kd.int kd) W B ys.length ys) (hfresh : ∀ k, W.heap.size ≤ k → ok k) (HB : Below base w0 W) (hbase : base ≤ W.heap.size) (hl : (xs.length + ys.length) * bytes ≤ 140737488355328)
  (h : ∀ v1 w1, Kd.V (Kd.int kd) e w1 base ok v1 (xs ++ ys) → Below base w0 w1 → Kc (a.put o.dst v1) w1) :
  if Region.wanted o (yielded ops a.tmps) = true then Oper.wp P o a W Kc Q else Kc (a.put o.dst undef) W := by
 obtain ⟨i0, hi, hzz⟩ := Option.map_eq_some_iff.1 hinfo
 simp only [Prod.mk.injEq] at hzz
 obtain ⟨hz0, hz1, hz2⟩ := hzz
 have hlen : xs.length + ys.length ≤ 140737488355328 := Nat.le_trans (Nat.le_mul_of_pos_right _ hb0) hl
 have HX : Kd.C (Kd.int kd) W A xs.length xs := (Kd.V_reads' HO).2.2
 have hcell : ∀ {A : Option Addr} {xs : List Int}, Kd.C (Kd.int kd) W A xs.length xs → ∀ b, A = some b → ∀ j u, (nums kd xs)[j]? = some u → W.cell? (b.add j) = some u := by
  intro A xs hC b hb j u hj
  have hj' : j < xs.length := by have := (List.getElem?_eq_some_iff.1 hj).1; simpa [nums] using this
  obtain ⟨ad, e1, hc⟩ := Kd.at_int hC (j : Int) (by omega) (by omega)
  rw [hb] at e1
  injection e1 with e1
  subst e1
  rw [Int.toNat_natCast] at hc
  rw [hc, ← hj]
  simp [nums, rd, List.getD_eq_getElem?_getD, hj']
 rw [if_pos hw]
 rcases Nat.eq_zero_or_pos ys.length with y0 | y0
 ·have hy : ys = [] := List.eq_nil_of_length_eq_zero y0
  subst hy
  have hr := run_append_nothing (P := P) W t o.type e i0 ht hi A B xs.length xs.length c (Nat.le_refl _)
  unfold Oper.wp execOp
  simp only [ho, resolve, invoke, builtin, Sem.run_bind, Sem.run_pure, Result.andThen_ok, List.map_toArray, List.map_cons, List.map_nil, hs, hx, List.length_nil, hr]
  exact h _ _ (by rw [List.append_nil]; exact HO) HB
 ·obtain ⟨ad, hB, _⟩ := Kd.at_int HY 0 (by omega) (by omega)
  subst hB
  have hrun : ∃ v1 w1, (Builtin.append_ #[t, t] o.type #[.slice A xs.length xs.length, .slice (some ad) ys.length c]).run P W = .ok v1 w1 ∧ w1.ownsRow W.heap.size e 1 v1 (xs.length + ys.length) (nums kd xs ++ nums kd ys) ∧ W.grownBy w1 none := by
   cases A with
   | some b => exact run_append_arg_grows (P := P) W t o.type e i0 z 1 bytes ht hi hz0 hz1 hz2 hz (by decide) b xs.length xs.length (nums kd xs) (by simp [nums]) (hcell HX b rfl) ad ys.length c (nums kd ys) (by simp [nums]) (hcell HY ad rfl) (by omega) (by simp only [maxLen]; omega) hl
   | none =>
    have h0 : xs.length = 0 := by
     rcases Nat.eq_zero_or_pos xs.length with h0 | h0
     ·exact h0
     ·obtain ⟨ad, e1, _⟩ := Kd.at_int HX 0 (by omega) (by omega)
      cases e1
    have hx0 : xs = [] := List.eq_nil_of_length_eq_zero h0
    subst hx0
    obtain ⟨v', w', hr, r1, r2, _⟩ := run_append_own (P := P) W W.heap.size t o.type e i0 z 1 bytes ht hi hz0 hz1 hz2 hz (by decide) (.slice none 0 0) 0 [] (World.ownsRow_nil _ _ e 1) ad ys.length c (nums kd ys) (by simp [nums]) (hcell HY ad rfl) (by intro u hu; simp only [nums, List.mem_map] at hu; obtain ⟨y, _, rfl⟩ := hu; rfl) (by simp only [maxLen]; simp at hlen; omega) (by simpa using hl) (Nat.le_refl _)
    exact ⟨v', w', hr, by simpa [nums] using r1, r2⟩
  obtain ⟨v1, w1, hr, hown, hg⟩ := hrun
  have hown' : w1.ownsRow base e 1 v1 (xs.length + ys.length) (nums kd xs ++ nums kd ys) := by
   obtain ⟨q1, q2⟩ := hown
   refine ⟨q1, ?_⟩
   rcases q2 with q | ⟨g, cap, cur, q1, q2, q3⟩
   ·exact .inl q
   ·exact .inr ⟨g, cap, cur, q1, by omega, q3⟩
  have hblk : ∀ k, v1.ownBlock = some k → W.heap.size ≤ k := by
   intro k hk
   rcases hown.2 with ⟨q, _⟩ | ⟨g, cap, cur, q1, q2, q3⟩
   ·subst q; simp [Value.ownBlock] at hk
   ·subst q1; simp [Value.ownBlock] at hk; omega
  unfold Oper.wp execOp
  simp only [ho, resolve, invoke, builtin, Sem.run_bind, Sem.run_pure, Result.andThen_ok, List.map_toArray, List.map_cons, List.map_nil, hs, hx, hr]
  refine h v1 w1 (Kd.R_V (base := base) ?_) (pw_below_grown HB none hbase hg (fun k e => by cases e))
  refine Kd.R_of_own (enc := Value.int kd) (h1 := fun _ => rfl) ?_ (fun k hk => hfresh k (hblk k hk))
  have e1 : nums kd xs ++ nums kd ys = encs (Value.int kd) (xs ++ ys) := by simp [nums, encs]
  rw [← e1, List.length_append]
  exact hown'
end

/-! ### cells_is: function 27 -/
def cells_is.f (l0 : List Int) (a1 : Int) : Option (Bool) := if a1 ≥ 0 then (some (decide (a1 < (l0.length : Int)))) else (some false)
set_option maxHeartbeats 8000000 in
set_option maxRecDepth 100000 in
theorem cells_is.calls (A0 : Option Addr) (c0 : Nat) (l0 : List Int) (a1 : Int) (r : Bool) (w : World) (hr0 : Kd.C (Kd.int .u64) w A0 l0.length l0) (hc0 : l0.length ≤ c0) (h : cells_is.f l0 a1 = some r) :
  Calls Try.prog 27 #[.slice A0 l0.length c0, .int .i64 a1] w fun e w' => e = .returned (.bool r) ∧ Drawn0 w w' := by
 have HR0 := Aside0.mk hr0
 have HC0 := Aside0.mk hc0
 clear hr0 hc0
 have H : (if a1 ≥ 0 then (some (decide (a1 < (l0.length : Int)))) else (some false)) = some r := h
 clear h
 by_cases c3 : a1 ≥ 0
 ·rw [if_pos c3] at H
  have c3b0 : decide (0 ≤ a1) = true := decide_eq_true c3
  clear c3
  obtain rfl := Option.some.inj H
  go_enter Try.func27, Try.ntmps27
  go_wp2
  go_ret
  exact ⟨by first | rfl | (simp; done) | (simp [*]; done), by repeat (first | exact Drawn0.refl _ | apply Drawn0.step)⟩
 ·rw [if_neg c3] at H
  have c3b0 : decide (0 ≤ a1) = false := decide_eq_false c3
  clear c3
  obtain rfl := Option.some.inj H
  go_enter Try.func27, Try.ntmps27
  go_wp2
  go_ret
  exact ⟨by first | rfl | (simp; done) | (simp [*]; done), by repeat (first | exact Drawn0.refl _ | apply Drawn0.step)⟩

theorem owned_heap {w : World} {base e g n : Nat} {xs : List Value} (h : w.ownsRow base e 1 (.slice (some ⟨g, 0, none⟩) n n) n xs) : ∃ cur : List Value, w.heap[g]? = some (.cells cur.toArray e (0, 0)) ∧ cur.length = n := by
 obtain ⟨_, h⟩ := h
 rcases h with ⟨h, _⟩ | ⟨g', cap, cur, he, _, hh, _, _, hc, _⟩
 ·cases h
 ·simp only [Value.slice.injEq, Option.some.injEq, Addr.mk.injEq] at he
  obtain ⟨⟨rfl, _⟩, _, rfl⟩ := he
  exact ⟨cur.toList, by simpa using hh, by simpa using hc⟩
theorem splice_all (L cs : List Value) (h : L.length = cs.length) : splice L 0 cs = cs := by
 unfold splice; simp [← h]
theorem below_of_grown {w w' : World} (h : w.grownBy w' none) : Below w.heap.size w w' := pw_below_grown (Below.refl _ _) none (Nat.le_refl _) h (fun k e => by cases e)
theorem nums_at {w w2 : World} {A0 : Option Addr} {l0 : List Int} (hr0 : Kd.C (Kd.int .u64) w A0 l0.length l0) (hb : Below w.heap.size w w2) (h0 : 0 < (nums .u64 l0).length) : ∃ ad, A0 = some ad ∧ ∀ j v, (nums .u64 l0)[j]? = some v → w2.cell? (ad.add j) = some v := by
 rw [nums_length] at h0
 obtain ⟨ad, rfl, _⟩ := Kd.at_int hr0 0 (by omega) (by omega)
 refine ⟨ad, rfl, fun j v hj => ?_⟩
 have hj' : j < l0.length := by have := (List.getElem?_eq_some_iff.1 hj).1; rwa [nums_length] at this
 obtain ⟨ad', e, hc⟩ := Kd.at_int hr0 (j : Int) (by omega) (by omega)
 injection e with e
 subst e
 rw [Int.toNat_natCast] at hc
 rw [(hb.cell (World.block_lt_of_cell? w _ hc)).trans hc]
 simp only [nums, List.getElem?_map, List.getElem?_eq_getElem hj', Option.map_some, Option.some.injEq] at hj
 rw [← hj]
 simp [rd, List.getD_eq_getElem?_getD, hj']
theorem nums_get (l0 : List Int) {a1 : Int} (h0 : 0 ≤ a1) (h1 : a1 < (l0.length : Int)) : (nums .u64 l0).toArray[a1.toNat]? = some (.int .u64 (rd l0 a1)) := by
 have hj : a1.toNat < l0.length := by omega
 simp [nums, rd, List.getD_eq_getElem?_getD, hj]
theorem fin_row {W : World} {g n base e : Nat} {cs : List Value} {xs : List Int} (hh : W.heap[g]? = some (.cells cs.toArray e (0, 0))) (hcs : cs = nums .u64 xs) (hn : xs.length = n) (hm : n ≤ maxLen) (hg : base ≤ g) : Kd.R (Kd.int .u64) e W base (fun _ => True) (.slice (some ⟨g, 0, none⟩) n n) xs := by
 subst hcs
 subst hn
 refine Kd.R_of_own (enc := Value.int .u64) ⟨by simp [encs], .inr ⟨g, xs.length, (nums .u64 xs).toArray, rfl, hg, hh, Nat.le_refl _, hm, by simp [nums], ?_⟩⟩ (fun _ _ => trivial)
 simp [nums, encs]
 exact List.take_of_length_le (by simp)
theorem nums_one (l0 : List Int) : ∀ v ∈ nums .u64 l0, v.oneCell' = true := by
 intro v hv
 simp only [nums, List.mem_map] at hv
 obtain ⟨x, _, rfl⟩ := hv
 rfl
set_option maxHeartbeats 4000000 in
set_option maxRecDepth 100000 in
theorem turn_store (A0 : Option Addr) (c0 : Nat) (l0 : List Int) (a1 a2 : Int) (b : Nat) (w : World) (hr0 : Kd.C (Kd.int .u64) w A0 l0.length l0) (hb : w.cell? ⟨b, 0, none⟩ = some (.int .u64 a2)) (h0 : 0 ≤ a1) (h1 : a1 < (l0.length : Int)) (hsz : l0.length * 8 ≤ 281474976710656) :
  Calls Try.prog 24 #[.slice A0 l0.length c0, .int .i64 a1, .func (.func 25) #[] #[.pointer (some ⟨b, 0, none⟩)]] w fun e w' => ∃ v, e = .returned v ∧ Kd.R (Kd.int .u64) 23 w' w.heap.size (fun _ => True) v (l0.set a1.toNat a2) ∧ Below w.heap.size w w' := by
 have hinfo : (Try.prog.info? 23).map (fun i => (i.zero, i.size, i.bytes)) = some (some (.int .u64 0), 1, 8) := by kernel_rfl
 obtain ⟨i23, hi, hi2⟩ := Option.map_eq_some_iff.1 hinfo
 clear hinfo
 simp only [Prod.mk.injEq] at hi2
 obtain ⟨hz, hs, hby⟩ := hi2
 have hb2 : i23.bytes * l0.length ≤ 281474976710656 := by rw [hby]; omega
 have hb3 : l0.length ≤ maxLen := by unfold maxLen; omega
 have HI := Aside0.mk hi
 have HZ := Aside0.mk hz
 have HS := Aside0.mk hs
 have HB2 := Aside0.mk hb2
 have HB3 := Aside0.mk hb3
 have HR := Aside0.mk hr0
 have HSZ : Aside0 ((Try.prog.info? 23).map (·.size) = some 1) := ⟨by rw [hi]; simp [hs]⟩
 clear hi hz hs hby hb2 hb3 hr0
 go_enter Try.func24, Try.ntmps24
 go_wp2_with (first | go_in | (at_make; refine wpList_make_full _ rfl (.tmp 14) (.tmp 14) 22 rfl w.heap.size 23 i23 (.int .u64 0) 1 Try.underlying22 HI.out HZ.out HS.out .i64 .i64 l0.length l0.length l0.length rfl rfl rfl rfl HB2.out HB3.out (Nat.le_refl _) ?_; intro w2 HO HG; have HB2_ := Aside0.mk (below_of_grown HG); obtain ⟨cur, hcur, hlen⟩ := owned_heap HO; have HCUR := Aside0.mk hcur; have HLEN := Aside0.mk hlen; clear HO HG hcur hlen) | ((with_reducible refine gate_dst (N := 18) rfl ?_); refine wpList_copy_splice rfl (.tmp 16) (.tmp 17) 22 22 rfl 23 Try.underlying22 HSZ.out (some ⟨w.heap.size, 0, none⟩) A0 l0.length l0.length l0.length c0 rfl rfl w.heap.size 0 cur 23 HCUR.out (nums .u64 l0) (by rw [nums_length]; exact (Nat.min_self _).symm) (fun h => ⟨rfl, nums_at HR.out HB2_.out h⟩) (by rw [nums_length, HLEN.out]; omega) (nums_one l0) w.heap.size w HB2_.out (Nat.le_refl _) ?_; intro w3 hh3 hb3; rw [splice_all _ _ (by rw [nums_length, HLEN.out])] at hh3; have HB3_ := Aside0.mk hb3; have HH3 := Aside0.mk hh3.out; have hc1 := (blk_cell hh3.out a1.toNat).trans (nums_get l0 h0 h1); have hf1 := blk_frozen hh3.out a1.toNat; have hcb := pw_cell_below hb3 hb; clear hb3 hh3))
 go_ret
 refine ⟨_, rfl, ?_, ?_⟩
 ·refine fin_row (cs := nums .u64 (l0.set a1.toNat a2)) ?_ rfl (by simp) HB3.out (Nat.le_refl _)
  have := blk_set HH3.out a1.toNat (.int .u64 a2)
  rw [show (nums .u64 (l0.set a1.toNat a2)).toArray = (nums .u64 l0).toArray.setIfInBounds a1.toNat (.int .u64 a2) by simp [nums, List.map_set]]
  first | exact this | simpa using this
 ·exact HB3_.out.setCell (Nat.le_refl _) _
set_option maxHeartbeats 4000000 in
set_option maxRecDepth 100000 in
theorem turn_add (A0 : Option Addr) (c0 : Nat) (l0 : List Int) (a1 a2 : Int) (b : Nat) (w : World) (hr0 : Kd.C (Kd.int .u64) w A0 l0.length l0) (hb : w.cell? ⟨b, 0, none⟩ = some (.int .u64 a2)) (h0 : 0 ≤ a1) (h1 : a1 < (l0.length : Int)) (hsz : l0.length * 8 ≤ 281474976710656) :
  Calls Try.prog 24 #[.slice A0 l0.length c0, .int .i64 a1, .func (.func 26) #[] #[.pointer (some ⟨b, 0, none⟩)]] w fun e w' => ∃ v, e = .returned v ∧ Kd.R (Kd.int .u64) 23 w' w.heap.size (fun _ => True) v (l0.set a1.toNat (IntKind.u64.wrap (rd l0 a1 + a2))) ∧ Below w.heap.size w w' := by
 have hinfo : (Try.prog.info? 23).map (fun i => (i.zero, i.size, i.bytes)) = some (some (.int .u64 0), 1, 8) := by kernel_rfl
 obtain ⟨i23, hi, hi2⟩ := Option.map_eq_some_iff.1 hinfo
 clear hinfo
 simp only [Prod.mk.injEq] at hi2
 obtain ⟨hz, hs, hby⟩ := hi2
 have hb2 : i23.bytes * l0.length ≤ 281474976710656 := by rw [hby]; omega
 have hb3 : l0.length ≤ maxLen := by unfold maxLen; omega
 have HI := Aside0.mk hi
 have HZ := Aside0.mk hz
 have HS := Aside0.mk hs
 have HB2 := Aside0.mk hb2
 have HB3 := Aside0.mk hb3
 have HR := Aside0.mk hr0
 have HSZ : Aside0 ((Try.prog.info? 23).map (·.size) = some 1) := ⟨by rw [hi]; simp [hs]⟩
 clear hi hz hs hby hb2 hb3 hr0
 go_enter Try.func24, Try.ntmps24
 go_wp2_with (first | go_in | (at_make; refine wpList_make_full _ rfl (.tmp 14) (.tmp 14) 22 rfl w.heap.size 23 i23 (.int .u64 0) 1 Try.underlying22 HI.out HZ.out HS.out .i64 .i64 l0.length l0.length l0.length rfl rfl rfl rfl HB2.out HB3.out (Nat.le_refl _) ?_; intro w2 HO HG; have HB2_ := Aside0.mk (below_of_grown HG); obtain ⟨cur, hcur, hlen⟩ := owned_heap HO; have HCUR := Aside0.mk hcur; have HLEN := Aside0.mk hlen; clear HO HG hcur hlen) | ((with_reducible refine gate_dst (N := 18) rfl ?_); refine wpList_copy_splice rfl (.tmp 16) (.tmp 17) 22 22 rfl 23 Try.underlying22 HSZ.out (some ⟨w.heap.size, 0, none⟩) A0 l0.length l0.length l0.length c0 rfl rfl w.heap.size 0 cur 23 HCUR.out (nums .u64 l0) (by rw [nums_length]; exact (Nat.min_self _).symm) (fun h => ⟨rfl, nums_at HR.out HB2_.out h⟩) (by rw [nums_length, HLEN.out]; omega) (nums_one l0) w.heap.size w HB2_.out (Nat.le_refl _) ?_; intro w3 hh3 hb3; rw [splice_all _ _ (by rw [nums_length, HLEN.out])] at hh3; have HB3_ := Aside0.mk hb3; have HH3 := Aside0.mk hh3.out; have hc1 := (blk_cell hh3.out a1.toNat).trans (nums_get l0 h0 h1); have hf1 := blk_frozen hh3.out a1.toNat; have hcb := pw_cell_below hb3 hb; clear hb3 hh3))
 go_ret
 refine ⟨_, rfl, ?_, ?_⟩
 ·refine fin_row (cs := nums .u64 (l0.set a1.toNat (IntKind.u64.wrap (rd l0 a1 + a2)))) ?_ rfl (by simp) HB3.out (Nat.le_refl _)
  have := blk_set HH3.out a1.toNat (.int .u64 (IntKind.u64.wrap (rd l0 a1 + a2)))
  rw [show (nums .u64 (l0.set a1.toNat (IntKind.u64.wrap (rd l0 a1 + a2)))).toArray = (nums .u64 l0).toArray.setIfInBounds a1.toNat (.int .u64 (IntKind.u64.wrap (rd l0 a1 + a2))) by simp [nums, List.map_set]]
  first | exact this | simpa using this
 ·exact HB3_.out.setCell (Nat.le_refl _) _
set_option maxHeartbeats 4000000 in
set_option maxRecDepth 100000 in
theorem turn_out (A0 : Option Addr) (c0 : Nat) (l0 : List Int) (a1 : Int) (fv : Value) (w : World) (hc : l0.length ≤ maxLen) (h : a1 < 0 ∨ (0 ≤ a1 ∧ (l0.length : Int) ≤ a1)) :
  Calls Try.prog 24 #[.slice A0 l0.length c0, .int .i64 a1, fv] w fun e w' => e = .returned (.slice A0 l0.length c0) ∧ Drawn0 w w' := by
 unfold maxLen at hc
 rcases h with h | ⟨h1, h2⟩
 ·go_enter Try.func24, Try.ntmps24
  go_wp2_with (first | go_in)
  go_ret
  exact ⟨rfl, by repeat (first | exact Drawn0.refl _ | apply Drawn0.step)⟩
 ·have hd : decide (a1 < (l0.length : Int)) = false := decide_eq_false (by omega)
  clear h2
  go_enter Try.func24, Try.ntmps24
  go_wp2_with (first | go_in)
  go_ret
  exact ⟨rfl, by repeat (first | exact Drawn0.refl _ | apply Drawn0.step)⟩

/-! ### cells_Store: function 6 -/
def cells_Store.f (l0 : List Int) (a1 : Int) (a2 : Int) : Option (List Int) := if a1 < 0 then (some l0) else (if a1 ≥ (l0.length : Int) then (some l0) else (if l0.length * 8 ≤ 281474976710656 then (some (l0.set a1.toNat a2)) else none))
set_option maxHeartbeats 4000000 in
set_option maxRecDepth 100000 in
theorem cells_Store.calls (P0_ : Nat → Prop) (A0 : Option Addr) (c0 : Nat) (l0 : List Int) (a1 : Int) (a2 : Int) (r : List Int) (w : World) (hs0 : Kd.V (Kd.int .u64) 23 w w.heap.size (fun k_ => P0_ k_) (.slice A0 l0.length c0) l0) (h : cells_Store.f l0 a1 a2 = some r) :
  Calls Try.prog 6 #[.slice A0 l0.length c0, .int .i64 a1, .int .u64 a2] w fun e w' => ∃ v0_ : Value, e = .returned (v0_) ∧ Kd.V (Kd.int .u64) 23 w' w.heap.size (fun k_ => (P0_ k_ ∨ w.heap.size ≤ k_)) v0_ r ∧ Below w.heap.size w w' := by
 have HS0 := Aside0.mk hs0
 have HR0 := Aside0.mk (Kd.V_reads' hs0).2.2
 have HM0 : Aside0 (l0.length ≤ maxLen) := ⟨(Kd.V_reads' hs0).2.2.2.1⟩
 clear hs0
 unfold cells_Store.f at h
 by_cases c1 : a1 < 0
 ·rw [if_pos c1] at h
  obtain rfl := Option.some.inj h
  clear h
  go_enter Try.func6, Try.ntmps6
  go_wp2_with (first | (go_at_call 24; refine (turn_out A0 c0 l0 a1 _ _ HM0.out (.inl c1)).mono ?_; rintro e w' ⟨rfl, ⟨nd, rfl⟩⟩))
  go_ret
  exact ⟨_, rfl, Kd.V_drewN (Kd.V_alloc (Kd.V_mono HS0.out (fun _ h => .inl h)) _) _, pw_below_drewN (below_alloc (Below.refl _ _) _) _⟩
 rw [if_neg c1] at h
 by_cases c2 : a1 ≥ (l0.length : Int)
 ·rw [if_pos c2] at h
  obtain rfl := Option.some.inj h
  clear h
  have c1' : 0 ≤ a1 := by omega
  clear c1
  go_enter Try.func6, Try.ntmps6
  go_wp2_with (first | (go_at_call 24; refine (turn_out A0 c0 l0 a1 _ _ HM0.out (.inr ⟨c1', c2⟩)).mono ?_; rintro e w' ⟨rfl, ⟨nd, rfl⟩⟩))
  go_ret
  exact ⟨_, rfl, Kd.V_drewN (Kd.V_alloc (Kd.V_mono HS0.out (fun _ h => .inl h)) _) _, pw_below_drewN (below_alloc (Below.refl _ _) _) _⟩
 rw [if_neg c2] at h
 by_cases c3 : l0.length * 8 ≤ 281474976710656
 ·rw [if_pos c3] at h
  obtain rfl := Option.some.inj h
  clear h
  go_enter Try.func6, Try.ntmps6
  go_wp2_with (first | (go_at_call 24; refine (turn_store A0 c0 l0 a1 a2 _ _ (Kd.C_alloc HR0.out _) (by simp) (by omega) (by omega) c3).mono ?_; rintro e w' ⟨v, rfl, hR, hB⟩; have HR1 := Aside0.mk hR; have HB1 := Aside0.mk hB; clear hR hB))
  go_ret
  exact ⟨_, rfl, Kd.R_V (Kd.R_newM (M := fun k_ => (P0_ k_ ∨ w.heap.size ≤ k_)) HR1.out (by simp) (fun k h => .inr h) |> fun z => Kd.R_mono z (fun k h => h.1)), below_step (below_alloc (Below.refl _ _) _) HB1.out⟩
 ·rw [if_neg c3] at h
  cases h

/-! ### cells_Add: function 7 -/
def cells_Add.f (l0 : List Int) (a1 : Int) (a2 : Int) : Option (List Int) := if a1 < 0 then (some l0) else (if a1 ≥ (l0.length : Int) then (some l0) else (if l0.length * 8 ≤ 281474976710656 then (some (l0.set a1.toNat (IntKind.u64.wrap (rd l0 a1 + a2)))) else none))
set_option maxHeartbeats 4000000 in
set_option maxRecDepth 100000 in
theorem cells_Add.calls (P0_ : Nat → Prop) (A0 : Option Addr) (c0 : Nat) (l0 : List Int) (a1 : Int) (a2 : Int) (r : List Int) (w : World) (hs0 : Kd.V (Kd.int .u64) 23 w w.heap.size (fun k_ => P0_ k_) (.slice A0 l0.length c0) l0) (h : cells_Add.f l0 a1 a2 = some r) :
  Calls Try.prog 7 #[.slice A0 l0.length c0, .int .i64 a1, .int .u64 a2] w fun e w' => ∃ v0_ : Value, e = .returned (v0_) ∧ Kd.V (Kd.int .u64) 23 w' w.heap.size (fun k_ => (P0_ k_ ∨ w.heap.size ≤ k_)) v0_ r ∧ Below w.heap.size w w' := by
 have HS0 := Aside0.mk hs0
 have HR0 := Aside0.mk (Kd.V_reads' hs0).2.2
 have HM0 : Aside0 (l0.length ≤ maxLen) := ⟨(Kd.V_reads' hs0).2.2.2.1⟩
 clear hs0
 unfold cells_Add.f at h
 by_cases c1 : a1 < 0
 ·rw [if_pos c1] at h
  obtain rfl := Option.some.inj h
  clear h
  go_enter Try.func7, Try.ntmps7
  go_wp2_with (first | (go_at_call 24; refine (turn_out A0 c0 l0 a1 _ _ HM0.out (.inl c1)).mono ?_; rintro e w' ⟨rfl, ⟨nd, rfl⟩⟩))
  go_ret
  exact ⟨_, rfl, Kd.V_drewN (Kd.V_alloc (Kd.V_mono HS0.out (fun _ h => .inl h)) _) _, pw_below_drewN (below_alloc (Below.refl _ _) _) _⟩
 rw [if_neg c1] at h
 by_cases c2 : a1 ≥ (l0.length : Int)
 ·rw [if_pos c2] at h
  obtain rfl := Option.some.inj h
  clear h
  have c1' : 0 ≤ a1 := by omega
  clear c1
  go_enter Try.func7, Try.ntmps7
  go_wp2_with (first | (go_at_call 24; refine (turn_out A0 c0 l0 a1 _ _ HM0.out (.inr ⟨c1', c2⟩)).mono ?_; rintro e w' ⟨rfl, ⟨nd, rfl⟩⟩))
  go_ret
  exact ⟨_, rfl, Kd.V_drewN (Kd.V_alloc (Kd.V_mono HS0.out (fun _ h => .inl h)) _) _, pw_below_drewN (below_alloc (Below.refl _ _) _) _⟩
 rw [if_neg c2] at h
 by_cases c3 : l0.length * 8 ≤ 281474976710656
 ·rw [if_pos c3] at h
  obtain rfl := Option.some.inj h
  clear h
  go_enter Try.func7, Try.ntmps7
  go_wp2_with (first | (go_at_call 24; refine (turn_add A0 c0 l0 a1 a2 _ _ (Kd.C_alloc HR0.out _) (by simp) (by omega) (by omega) c3).mono ?_; rintro e w' ⟨v, rfl, hR, hB⟩; have HR1 := Aside0.mk hR; have HB1 := Aside0.mk hB; clear hR hB))
  go_ret
  exact ⟨_, rfl, Kd.R_V (Kd.R_newM (M := fun k_ => (P0_ k_ ∨ w.heap.size ≤ k_)) HR1.out (by simp) (fun k h => .inr h) |> fun z => Kd.R_mono z (fun k h => h.1)), below_step (below_alloc (Below.refl _ _) _) HB1.out⟩
 ·rw [if_neg c3] at h
  cases h

/-! ### cells_Swap: function 8 -/
def cells_Swap.f (l0 : List Int) (a1 : Int) (a2 : Int) (a3 : Int) : Option (List Int × Bool) := (cells_is.f l0 a1).bind fun t101 => (if t101 = true then (if 0 ≤ a1 then (if a1 < (l0.length : Int) then (if (rd l0 a1) = a2 then ((cells_Store.f l0 a1 a3).bind fun t103 => (some (t103, true))) else (some (l0, false))) else (none)) else (none)) else (some (l0, false)))
set_option maxHeartbeats 8000000 in
set_option maxRecDepth 100000 in
theorem cells_Swap.calls (P0_ : Nat → Prop) (A0 : Option Addr) (c0 : Nat) (l0 : List Int) (a1 : Int) (a2 : Int) (a3 : Int) (r1 : List Int) (r2 : Bool) (w : World) (hs0 : Kd.V (Kd.int .u64) 23 w w.heap.size (fun k_ => P0_ k_) (.slice A0 l0.length c0) l0) (h : cells_Swap.f l0 a1 a2 a3 = some (r1, r2)) :
  Calls Try.prog 8 #[.slice A0 l0.length c0, .int .i64 a1, .int .u64 a2, .int .u64 a3] w fun e w' => ∃ v0_ : Value, e = .returned (.tuple #[v0_, .bool r2]) ∧ Kd.V (Kd.int .u64) 23 w' w.heap.size (fun k_ => (P0_ k_ ∨ w.heap.size ≤ k_)) v0_ r1 ∧ Below w.heap.size w w' := by
 have HO0 := Aside0.mk (show Kd.V (Kd.int .u64) 23 w w.heap.size (fun k_ => (P0_ k_ ∨ w.heap.size ≤ k_)) (.slice A0 l0.length c0) l0 from Kd.V_mono hs0 (fun k_ hk => .inl hk))
 have HB := Aside0.mk (Below.refl w.heap.size w)
 have H : ((cells_is.f l0 a1).bind fun t101 => (if t101 = true then (if 0 ≤ a1 then (if a1 < (l0.length : Int) then (if (rd l0 a1) = a2 then ((cells_Store.f l0 a1 a3).bind fun t103 => (some (t103, true))) else (some (l0, false))) else (none)) else (none)) else (some (l0, false)))) = some (r1, r2) := h
 clear h
 replace H := Option.bind_eq_some_iff.mp H
 obtain ⟨t101, A50, H⟩ := H
 replace H : (if t101 = true then (if 0 ≤ a1 then (if a1 < (l0.length : Int) then (if (rd l0 a1) = a2 then ((cells_Store.f l0 a1 a3).bind fun t103 => (some (t103, true))) else (some (l0, false))) else (none)) else (none)) else (some (l0, false))) = some (r1, r2) := H
 have A5 := Aside0.mk A50
 clear A50
 by_cases c6 : t101 = true
 ·subst c6
  have H1 : (if 0 ≤ a1 then (if a1 < (l0.length : Int) then (if (rd l0 a1) = a2 then ((cells_Store.f l0 a1 a3).bind fun t103 => (some (t103, true))) else (some (l0, false))) else (none)) else (none)) = some (r1, r2) := by rw [if_pos rfl] at H; exact H
  clear H
  have H := H1
  clear H1
  by_cases c7 : 0 ≤ a1
  ·rw [if_pos c7] at H
   have c7b0 : decide (0 ≤ a1) = true := decide_eq_true c7
   clear c7
   by_cases c8 : a1 < (l0.length : Int)
   ·rw [if_pos c8] at H
    have c8b0 : decide (a1 < (l0.length : Int)) = true := decide_eq_true c8
    clear c8
    by_cases c9 : (rd l0 a1) = a2
    ·rw [if_pos c9] at H
     have c9b0 : ((rd l0 a1) == a2) = true := beq_iff_eq.mpr c9
     have c9b1 : ((rd l0 a1) != a2) = false := bne_eq_false_iff_eq.mpr c9
     clear c9
     replace H := Option.bind_eq_some_iff.mp H
     obtain ⟨t103, A100, H⟩ := H
     replace H : (some (t103, true)) = some (r1, r2) := H
     have A10 := Aside0.mk A100
     clear A100
     simp only [Option.some.injEq, Prod.mk.injEq] at H
     obtain ⟨rfl, rfl⟩ := H
     go_enter Try.func8, Try.ntmps8
     go_wp2_with (first | ((with_reducible refine gate_callee (f := 27) rfl ?_); refine goesL_ (some 12) rfl rfl Try.func27 (by kernel_rfl) rfl #[.slice A0 l0.length c0, .int .i64 a1] rfl (by (try simp only [List.map_toArray, List.map_cons, List.map_nil]); first | done | rfl | (simp only [List.length_drop, List.length_take]; rfl)) ?_; (with_reducible refine (cells_is.calls _ _ l0 a1 true _ ?side1 ?side2 A5.out).mono ?_); (case side1 => repeat (first | exact (Kd.V_reads' HO0.out).2.2 | (with_reducible refine Kd.C_alloc ?_ _) | (with_reducible refine Kd.C_drewN ?_ _) | (with_reducible refine Kd.C_drew ?_))); (case side2 => exact (Kd.V_reads' HO0.out).2.1); rintro e w' ⟨rfl, ⟨nd, rfl⟩⟩; refine ⟨_, rfl, ?_⟩; have p102 : 0 ≤ (a1 : Int) := od_; have q102 : a1 < (l0.length : Int) := od_; obtain ⟨ad102, e102, hx102_0⟩ := Kd.at_int (Kd.V_reads' HO0.out).2.2 a1 p102 q102; cases e102; replace p102 := eq_true p102; replace q102 := eq_true q102) | ((with_reducible refine gate_callee (f := 6) rfl ?_); refine goesL_ (some 26) rfl rfl Try.func6 (by kernel_rfl) rfl #[.slice (some ad102) l0.length c0, .int .i64 a1, .int .u64 a3] rfl (by (try simp only [List.map_toArray, List.map_cons, List.map_nil]); first | done | rfl | (simp only [List.length_drop, List.length_take]; rfl)) ?_; (with_reducible refine (cells_Store.calls (fun k_ => (P0_ k_ ∨ w.heap.size ≤ k_)) _ _ l0 a1 a3 t103 _ ?side1 A10.out).mono ?_); (case side1 => exact HO0.out); rintro e w11 ⟨v104, rfl, ho0, hb⟩; refine ⟨_, rfl, ?_⟩; have n0_ := Aside0.mk (Kd.V_below (by (with_reducible repeat (first | apply Kd.V_alloc | apply Kd.V_drewN | apply Kd.V_drew)); exact HO0.out) hb); have n1_ := Aside0.mk (Kd.V_lower (Kd.V_mono (ok' := fun k_ => (P0_ k_ ∨ w.heap.size ≤ k_)) ho0 (fun k_ hk_ => Or.elim hk_ (fun hs_ => hs_) (fun hn_ => (.inr (Nat.le_trans (below_size (by repeat (first | (with_reducible first | exact HB.out | apply below_alloc | apply pw_below_drewN | apply below_drew1) | exact HB.out))) hn_))))) (below_size (by repeat (first | (with_reducible first | exact HB.out | apply below_alloc | apply pw_below_drewN | apply below_drew1) | exact HB.out)))); have n2_ := Aside0.mk (below_step (by repeat (first | (with_reducible first | exact HB.out | apply below_alloc | apply pw_below_drewN | apply below_drew1) | exact HB.out)) hb); clear HO0; clear HB; have HO0 := n0_; have HO105 := n1_; have HB := n2_; clear n0_ n1_ n2_; (try clear hb); (try clear hb2); (try clear hk); (try clear hi); (try clear ho0)))
     go_ret2
     exact ⟨_, by first | rfl | (simp [errW_none, errW_some] <;> rfl) | (simp [*, errW_none, errW_some] <;> rfl), by (with_reducible repeat (first | apply Kd.V_alloc | apply Kd.V_drewN | apply Kd.V_drew)); exact HO105.out, by repeat (first | (with_reducible first | exact HB.out | apply below_alloc | apply pw_below_drewN | apply below_drew1) | exact HB.out)⟩
    ·rw [if_neg c9] at H
     have c9b0 : ((rd l0 a1) == a2) = false := beq_eq_false_iff_ne.mpr c9
     have c9b1 : ((rd l0 a1) != a2) = true := bne_iff_ne.mpr c9
     simp only [Option.some.injEq, Prod.mk.injEq] at H
     obtain ⟨rfl, rfl⟩ := H
     go_enter Try.func8, Try.ntmps8
     go_wp2_with (first | ((with_reducible refine gate_callee (f := 27) rfl ?_); refine goesL_ (some 12) rfl rfl Try.func27 (by kernel_rfl) rfl #[.slice A0 l0.length c0, .int .i64 a1] rfl (by (try simp only [List.map_toArray, List.map_cons, List.map_nil]); first | done | rfl | (simp only [List.length_drop, List.length_take]; rfl)) ?_; (with_reducible refine (cells_is.calls _ _ l0 a1 true _ ?side1 ?side2 A5.out).mono ?_); (case side1 => repeat (first | exact (Kd.V_reads' HO0.out).2.2 | (with_reducible refine Kd.C_alloc ?_ _) | (with_reducible refine Kd.C_drewN ?_ _) | (with_reducible refine Kd.C_drew ?_))); (case side2 => exact (Kd.V_reads' HO0.out).2.1); rintro e w' ⟨rfl, ⟨nd, rfl⟩⟩; refine ⟨_, rfl, ?_⟩; have p102 : 0 ≤ (a1 : Int) := od_; have q102 : a1 < (l0.length : Int) := od_; obtain ⟨ad102, e102, hx102_0⟩ := Kd.at_int (Kd.V_reads' HO0.out).2.2 a1 p102 q102; cases e102; replace p102 := eq_true p102; replace q102 := eq_true q102))
     go_ret2
     exact ⟨_, by first | rfl | (simp [errW_none, errW_some] <;> rfl) | (simp [*, errW_none, errW_some] <;> rfl), by (with_reducible repeat (first | apply Kd.V_alloc | apply Kd.V_drewN | apply Kd.V_drew)); exact HO0.out, by repeat (first | (with_reducible first | exact HB.out | apply below_alloc | apply pw_below_drewN | apply below_drew1) | exact HB.out)⟩
   ·rw [if_neg c8] at H
    exact absurd H (by simp)
  ·rw [if_neg c7] at H
   exact absurd H (by simp)
 ·replace c6 := Bool.eq_false_iff.mpr c6
  subst c6
  have H1 : (some (l0, false)) = some (r1, r2) := by rw [if_neg (show ¬ (false = true) by decide)] at H; exact H
  clear H
  have H := H1
  clear H1
  simp only [Option.some.injEq, Prod.mk.injEq] at H
  obtain ⟨rfl, rfl⟩ := H
  go_enter Try.func8, Try.ntmps8
  go_wp2_with (first | ((with_reducible refine gate_callee (f := 27) rfl ?_); refine goesL_ (some 12) rfl rfl Try.func27 (by kernel_rfl) rfl #[.slice A0 l0.length c0, .int .i64 a1] rfl (by (try simp only [List.map_toArray, List.map_cons, List.map_nil]); first | done | rfl | (simp only [List.length_drop, List.length_take]; rfl)) ?_; (with_reducible refine (cells_is.calls _ _ l0 a1 false _ ?side1 ?side2 A5.out).mono ?_); (case side1 => repeat (first | exact (Kd.V_reads' HO0.out).2.2 | (with_reducible refine Kd.C_alloc ?_ _) | (with_reducible refine Kd.C_drewN ?_ _) | (with_reducible refine Kd.C_drew ?_))); (case side2 => exact (Kd.V_reads' HO0.out).2.1); rintro e w' ⟨rfl, ⟨nd, rfl⟩⟩; refine ⟨_, rfl, ?_⟩))
  go_ret2
  exact ⟨_, by first | rfl | (simp [errW_none, errW_some] <;> rfl) | (simp [*, errW_none, errW_some] <;> rfl), by (with_reducible repeat (first | apply Kd.V_alloc | apply Kd.V_drewN | apply Kd.V_drew)); exact HO0.out, by repeat (first | (with_reducible first | exact HB.out | apply below_alloc | apply pw_below_drewN | apply below_drew1) | exact HB.out)⟩

/-! ### cells_New: function 10 -/
def cells_New.f (a0 : Int) : Option (List Int) := if 0 ≤ a0 then (if (a0 : Int).toNat ≤ 35184372088832 then (some (List.replicate (a0 : Int).toNat 0)) else (none)) else (none)
set_option maxHeartbeats 8000000 in
set_option maxRecDepth 100000 in
theorem cells_New.calls (a0 : Int) (r : List Int) (w : World) (h : cells_New.f a0 = some r) :
  Calls Try.prog 10 #[.int .i64 a0] w fun e w' => ∃ v0_ : Value, e = .returned (v0_) ∧ Kd.R (Kd.int .u64) 23 w' w.heap.size (fun _ => True) v0_ r ∧ Below w.heap.size w w' := by
 have HB := Aside0.mk (Below.refl w.heap.size w)
 have H : (if 0 ≤ a0 then (if (a0 : Int).toNat ≤ 35184372088832 then (some (List.replicate (a0 : Int).toNat 0)) else (none)) else (none)) = some r := h
 clear h
 by_cases c2 : 0 ≤ a0
 ·rw [if_pos c2] at H
  have c2b0 := eq_true c2
  have c2b1 : decide (0 ≤ a0) = true := decide_eq_true c2
  clear c2
  by_cases c3 : (a0 : Int).toNat ≤ 35184372088832
  ·rw [if_pos c3] at H
   have c3b0 := eq_true c3
   have c3b1 : decide ((a0 : Int).toNat ≤ 35184372088832) = true := decide_eq_true c3
   clear c3
   obtain ⟨y106, hy106⟩ : ∃ y_ : List Int, y_ = (List.replicate (a0 : Int).toNat 0) := ⟨_, rfl⟩
   replace H : (some y106) = some r := by first | (rw [hy106]; with_reducible exact H) | (have H2_ := (Option.bind_some _ _).symm.trans H; rw [hy106]; with_reducible exact H2_) | (have H2_ := (Option.bind_some _ _).symm.trans H; with_reducible exact H2_) | with_reducible exact H | (rw [hy106]; exact H) | exact H
   have Ny106 := Aside0.mk hy106
   clear hy106
   obtain rfl := Option.some.inj H
   go_enter Try.func10, Try.ntmps10
   go_wp2_with (first | ((with_reducible refine gate_dst (N := 4) rfl ?_); refine Kd.R_make (Kd.int .u64) _ 23 rfl (N := 4) rfl 22 _ _ rfl a0 rfl rfl Try.underlying22 (.int .u64 0) 8 info23 rfl (by decide) (by omega) 0 (ok := fun _ => True) (okp := fun _ => True) rfl (fun _ hk => hk) trivial od_ (Nat.le_trans (Nat.mul_le_mul_right _ (od_ : a0.toNat ≤ 35184372088832)) (by omega)) (Below.refl _ _) (Nat.le_refl _) ?_; intro v107 w4 ho5 hb hg_ hnew_; clear hg_ hnew_; (first | rw [← Ny106.out] at ho5 | (simp only [Int.reduceToNat] at ho5; rw [← Ny106.out] at ho5)); have n0_ := Aside0.mk (Kd.R_lower ho5 (below_size (by repeat (first | (with_reducible first | exact HB.out | apply below_alloc | apply pw_below_drewN | apply below_drew1) | exact HB.out)))); have n1_ := Aside0.mk (below_step (by repeat (first | (with_reducible first | exact HB.out | apply below_alloc | apply pw_below_drewN | apply below_drew1) | exact HB.out)) hb); clear HB; have HO108 := n0_; have HB := n1_; clear n0_ n1_; clear hb ho5))
   go_ret
   exact ⟨_, by first | rfl | (simp [errW_none, errW_some] <;> rfl) | (simp [*, errW_none, errW_some] <;> rfl), by (with_reducible repeat (first | apply Kd.R_alloc | apply Kd.R_drewN | apply Kd.R_drew)); exact HO108.out, by repeat (first | (with_reducible first | exact HB.out | apply below_alloc | apply pw_below_drewN | apply below_drew1) | exact HB.out)⟩
  ·rw [if_neg c3] at H
   exact absurd H (by simp)
 ·rw [if_neg c2] at H
  exact absurd H (by simp)

/-! ### lodgerref02_Same: function 11 -/
def lodgerref02_Same.l0 : Nat → List Int → List Int → Int → Option (Bool)
 | 0, _, _, _ => none
 | k + 1, x0, x1, x5 => if x5 < (x0.length : Int) then (if 0 ≤ x5 then (if x5 < (x1.length : Int) then (if (rd x0 x5) = (rd x1 x5) then (lodgerref02_Same.l0 k x0 x1 (wrap64 (x5 + 1))) else (some false)) else (none)) else (none)) else (some true)
def lodgerref02_Same.f (k : Nat) (l0 : List Int) (l1 : List Int) : Option (Bool) := if (l0.length : Int) = (l1.length : Int) then (lodgerref02_Same.l0 k l0 l1 0) else (some false)
theorem lodgerref02_Same.mono_l : ∀ k, (∀ y0 y1 y2, LeO (lodgerref02_Same.l0 k y0 y1 y2) (lodgerref02_Same.l0 (k + 1) y0 y1 y2))
 | 0 => fun _ _ _ r h => by simp [lodgerref02_Same.l0] at h
 | k + 1 => by
  have ih0 := lodgerref02_Same.mono_l k
  ·intro y0 y1 y2
   unfold lodgerref02_Same.l0
   repeat' first
   | (with_reducible exact ih0 _ _ _)
   | (with_reducible exact LeO.refl _)
   | (with_reducible exact LeO.none _)
   | (with_reducible refine LeO.ite ?_ ?_)
   | (with_reducible refine LeO.bind ?_ (fun _ => ?_))
   | exact ih0 _ _ _
   | exact LeO.none _
   | refine LeO.ite ?_ ?_
   | refine LeO.bind ?_ (fun _ => ?_)
theorem lodgerref02_Same.mono : ∀ a0 a1 k, LeO (lodgerref02_Same.f k a0 a1) (lodgerref02_Same.f (k + 1) a0 a1) := by
 intro a0 a1 k
 have ih0 := lodgerref02_Same.mono_l k
 unfold lodgerref02_Same.f
 repeat' first
   | (with_reducible exact ih0 _ _ _)
   | (with_reducible exact LeO.refl _)
   | (with_reducible exact LeO.none _)
   | (with_reducible refine LeO.ite ?_ ?_)
   | (with_reducible refine LeO.bind ?_ (fun _ => ?_))
   | exact ih0 _ _ _
   | exact LeO.none _
   | refine LeO.ite ?_ ?_
   | refine LeO.bind ?_ (fun _ => ?_)
set_option maxHeartbeats 8000000 in
set_option maxRecDepth 100000 in
theorem lodgerref02_Same.calls (k : Nat) (A0 : Option Addr) (c0 : Nat) (l0 : List Int) (A1 : Option Addr) (c1 : Nat) (l1 : List Int) (r : Bool) (w : World) (hr0 : Kd.C (Kd.int .u64) w A0 l0.length l0) (hc0 : l0.length ≤ c0) (hr1 : Kd.C (Kd.int .u64) w A1 l1.length l1) (hc1 : l1.length ≤ c1) (h : lodgerref02_Same.f k l0 l1 = some r) :
  Calls Try.prog 11 #[.slice A0 l0.length c0, .slice A1 l1.length c1] w fun e w' => e = .returned (.bool r) ∧ Drawn0 w w' := by
 have HR0 := Aside0.mk hr0
 have HC0 := Aside0.mk hc0
 clear hr0 hc0
 have HR1 := Aside0.mk hr1
 have HC1 := Aside0.mk hc1
 clear hr1 hc1
 have H : (if (l0.length : Int) = (l1.length : Int) then (lodgerref02_Same.l0 k l0 l1 0) else (some false)) = some r := h
 clear h
 by_cases c3 : (l0.length : Int) = (l1.length : Int)
 ·rw [if_pos c3] at H
  have c3b0 : ((l0.length : Int) == (l1.length : Int)) = true := beq_iff_eq.mpr c3
  have c3b1 : ((l0.length : Int) != (l1.length : Int)) = false := bne_eq_false_iff_eq.mpr c3
  have c3b2 : (l0.length == l1.length) = true := by first | simpa using c3 | (simp at c3 ⊢; omega)
  clear c3
  have H' := Aside0.mk H
  clear H
  go_enter Try.func11, Try.ntmps11
  go_wp2
  repeat (go_quiet (fail); try go_wp2)
  go_loopg [5] k (fun kq v5 w' => ∃ (x5_1 : Int), v5 = .int .i64 x5_1 ∧ Aside0 (lodgerref02_Same.l0 kq l0 l1 x5_1 = some r) ∧ Aside0 (kq ≤ k) ∧ Drawn0 w w')
  case atStart => exact ⟨(0), (by first | rfl | (simp; done) | (simp [*]; done)), H', ⟨Nat.le_refl _⟩, by repeat (first | exact Drawn0.refl _ | apply Drawn0.step)⟩
  case round =>
   clear H'
   try clear c1
   try clear p2
   try clear c3
   try clear c3b0
   try clear c3b1
   try clear c3b2
   obtain ⟨x5_1, rfl, HA, HK1, ⟨m1, rfl⟩⟩ := hrel
   cases gk with
   | zero => exact absurd HA.out (by simp [lodgerref02_Same.l0])
   | succ k1 =>
    have H := HA.out
    clear HA
    simp only [lodgerref02_Same.l0] at H
    by_cases c4 : x5_1 < (l0.length : Int)
    ·rw [if_pos c4] at H
     have c4b0 : decide (x5_1 < (l0.length : Int)) = true := decide_eq_true c4
     clear c4
     by_cases c5 : 0 ≤ x5_1
     ·rw [if_pos c5] at H
      have c5b0 : decide (0 ≤ x5_1) = true := decide_eq_true c5
      clear c5
      by_cases c6 : x5_1 < (l1.length : Int)
      ·rw [if_pos c6] at H
       have c6b0 : decide (x5_1 < (l1.length : Int)) = true := decide_eq_true c6
       clear c6
       by_cases c7 : (rd l0 x5_1) = (rd l1 x5_1)
       ·rw [if_pos c7] at H
        have c7b0 : ((rd l0 x5_1) == (rd l1 x5_1)) = true := beq_iff_eq.mpr c7
        have c7b1 : ((rd l0 x5_1) != (rd l1 x5_1)) = false := bne_eq_false_iff_eq.mpr c7
        clear c7
        have H' := Aside0.mk H
        clear H
        have p109 : 0 ≤ (x5_1 : Int) := od_
        have q109 : x5_1 < (l0.length : Int) := od_
        obtain ⟨ad109, e109, hx109_0⟩ := Kd.at_int HR0.out x5_1 p109 q109
        cases e109
        replace p109 := eq_true p109
        replace q109 := eq_true q109
        have p110 : 0 ≤ (x5_1 : Int) := od_
        have q110 : x5_1 < (l1.length : Int) := od_
        obtain ⟨ad110, e110, hx110_0⟩ := Kd.at_int HR1.out x5_1 p110 q110
        cases e110
        replace p110 := eq_true p110
        replace q110 := eq_true q110
        go_wp2
        repeat (go_quiet (fail); try go_wp2)
        go_roundg k1
        case measure => have := HK1.out; omega
        case rel => exact ⟨(wrap64 (x5_1 + 1)), (by first | rfl | (simp; done) | (simp [*]; done)), H', ⟨by have := HK1.out; omega⟩, by repeat (first | exact Drawn0.refl _ | apply Drawn0.step)⟩
       ·rw [if_neg c7] at H
        have c7b0 : ((rd l0 x5_1) == (rd l1 x5_1)) = false := beq_eq_false_iff_ne.mpr c7
        have c7b1 : ((rd l0 x5_1) != (rd l1 x5_1)) = true := bne_iff_ne.mpr c7
        obtain rfl := Option.some.inj H
        have p109 : 0 ≤ (x5_1 : Int) := od_
        have q109 : x5_1 < (l0.length : Int) := od_
        obtain ⟨ad109, e109, hx109_0⟩ := Kd.at_int HR0.out x5_1 p109 q109
        cases e109
        replace p109 := eq_true p109
        replace q109 := eq_true q109
        have p110 : 0 ≤ (x5_1 : Int) := od_
        have q110 : x5_1 < (l1.length : Int) := od_
        obtain ⟨ad110, e110, hx110_0⟩ := Kd.at_int HR1.out x5_1 p110 q110
        cases e110
        replace p110 := eq_true p110
        replace q110 := eq_true q110
        go_wp2
        repeat (go_quiet (fail); try go_wp2)
        go_ret
        exact ⟨by first | rfl | (simp; done) | (simp [*]; done), by repeat (first | exact Drawn0.refl _ | apply Drawn0.step)⟩
      ·rw [if_neg c6] at H
       exact absurd H (by simp)
     ·rw [if_neg c5] at H
      exact absurd H (by simp)
    ·rw [if_neg c4] at H
     have c4b0 : decide (x5_1 < (l0.length : Int)) = false := decide_eq_false c4
     clear c4
     obtain rfl := Option.some.inj H
     go_wp2
     repeat (go_quiet (fail); try go_wp2)
     go_ret
     exact ⟨by first | rfl | (simp; done) | (simp [*]; done), by repeat (first | exact Drawn0.refl _ | apply Drawn0.step)⟩
 ·rw [if_neg c3] at H
  have c3b0 : ((l0.length : Int) == (l1.length : Int)) = false := beq_eq_false_iff_ne.mpr c3
  have c3b1 : ((l0.length : Int) != (l1.length : Int)) = true := bne_iff_ne.mpr c3
  have c3b2 : (l0.length == l1.length) = false := by first | simpa using c3 | (simp at c3 ⊢; omega)
  obtain rfl := Option.some.inj H
  go_enter Try.func11, Try.ntmps11
  go_wp2
  repeat (go_quiet (fail); try go_wp2)
  go_ret
  exact ⟨by first | rfl | (simp; done) | (simp [*]; done), by repeat (first | exact Drawn0.refl _ | apply Drawn0.step)⟩

/-! ### cells_Load: function 23 -/
def cells_Load.f (l0 : List Int) (a1 : Int) : Option (Int) := (cells_is.f l0 a1).bind fun t111 => (if t111 = true then (if 0 ≤ a1 then (if a1 < (l0.length : Int) then (some (rd l0 a1)) else (none)) else (none)) else (some 0))
set_option maxHeartbeats 8000000 in
set_option maxRecDepth 100000 in
theorem cells_Load.calls (A0 : Option Addr) (c0 : Nat) (l0 : List Int) (a1 : Int) (r : Int) (w : World) (hr0 : Kd.C (Kd.int .u64) w A0 l0.length l0) (hc0 : l0.length ≤ c0) (h : cells_Load.f l0 a1 = some r) :
  Calls Try.prog 23 #[.slice A0 l0.length c0, .int .i64 a1] w fun e w' => e = .returned (.int .u64 r) ∧ Drawn0 w w' := by
 have HR0 := Aside0.mk hr0
 have HC0 := Aside0.mk hc0
 clear hr0 hc0
 have H : ((cells_is.f l0 a1).bind fun t111 => (if t111 = true then (if 0 ≤ a1 then (if a1 < (l0.length : Int) then (some (rd l0 a1)) else (none)) else (none)) else (some 0))) = some r := h
 clear h
 replace H := Option.bind_eq_some_iff.mp H
 obtain ⟨t111, A30, H⟩ := H
 replace H : (if t111 = true then (if 0 ≤ a1 then (if a1 < (l0.length : Int) then (some (rd l0 a1)) else (none)) else (none)) else (some 0)) = some r := H
 have A3 := Aside0.mk A30
 clear A30
 by_cases c4 : t111 = true
 ·subst c4
  have H1 : (if 0 ≤ a1 then (if a1 < (l0.length : Int) then (some (rd l0 a1)) else (none)) else (none)) = some r := by rw [if_pos rfl] at H; exact H
  clear H
  have H := H1
  clear H1
  by_cases c5 : 0 ≤ a1
  ·rw [if_pos c5] at H
   have c5b0 : decide (0 ≤ a1) = true := decide_eq_true c5
   clear c5
   by_cases c6 : a1 < (l0.length : Int)
   ·rw [if_pos c6] at H
    have c6b0 : decide (a1 < (l0.length : Int)) = true := decide_eq_true c6
    clear c6
    obtain rfl := Option.some.inj H
    go_enter Try.func23, Try.ntmps23
    go_wp2_with (first | ((with_reducible refine gate_callee (f := 27) rfl ?_); refine goesL_ (some 7) rfl rfl Try.func27 (by kernel_rfl) rfl #[.slice A0 l0.length c0, .int .i64 a1] rfl (by (try simp only [List.map_toArray, List.map_cons, List.map_nil]); first | done | rfl | (simp only [List.length_drop, List.length_take]; rfl)) ?_; (with_reducible refine (cells_is.calls _ _ l0 a1 true _ ?side1 ?side2 A3.out).mono ?_); (case side1 => repeat (first | exact HR0.out | (with_reducible refine Kd.C_alloc ?_ _) | (with_reducible refine Kd.C_drewN ?_ _) | (with_reducible refine Kd.C_drew ?_))); (case side2 => exact HC0.out); rintro e w' ⟨rfl, ⟨nd, rfl⟩⟩; refine ⟨_, rfl, ?_⟩; have p112 : 0 ≤ (a1 : Int) := od_; have q112 : a1 < (l0.length : Int) := od_; obtain ⟨ad112, e112, hx112_0⟩ := Kd.at_int HR0.out a1 p112 q112; cases e112; replace p112 := eq_true p112; replace q112 := eq_true q112))
    go_ret
    exact ⟨by first | rfl | (simp; done) | (simp [*]; done), by repeat (first | exact Drawn0.refl _ | apply Drawn0.step)⟩
   ·rw [if_neg c6] at H
    exact absurd H (by simp)
  ·rw [if_neg c5] at H
   exact absurd H (by simp)
 ·replace c4 := Bool.eq_false_iff.mpr c4
  subst c4
  have H1 : (some 0) = some r := by rw [if_neg (show ¬ (false = true) by decide)] at H; exact H
  clear H
  have H := H1
  clear H1
  obtain rfl := Option.some.inj H
  go_enter Try.func23, Try.ntmps23
  go_wp2_with (first | ((with_reducible refine gate_callee (f := 27) rfl ?_); refine goesL_ (some 7) rfl rfl Try.func27 (by kernel_rfl) rfl #[.slice A0 l0.length c0, .int .i64 a1] rfl (by (try simp only [List.map_toArray, List.map_cons, List.map_nil]); first | done | rfl | (simp only [List.length_drop, List.length_take]; rfl)) ?_; (with_reducible refine (cells_is.calls _ _ l0 a1 false _ ?side1 ?side2 A3.out).mono ?_); (case side1 => repeat (first | exact HR0.out | (with_reducible refine Kd.C_alloc ?_ _) | (with_reducible refine Kd.C_drewN ?_ _) | (with_reducible refine Kd.C_drew ?_))); (case side2 => exact HC0.out); rintro e w' ⟨rfl, ⟨nd, rfl⟩⟩; refine ⟨_, rfl, ?_⟩))
  go_ret
  exact ⟨by first | rfl | (simp; done) | (simp [*]; done), by repeat (first | exact Drawn0.refl _ | apply Drawn0.step)⟩

end Go.Proofs.Ytmchledhamhlgaa.PCellsKeep
