/- The walk of GaugeOrder, part of it: what the Go functions answer; no condition. -/
import Derived.Test.YtepgjabpoabjnaaQGaugeOrderx0
namespace Go.Proofs.Ytepgjabpoabjnaa.PGaugeOrder
open Go.RowKit Go.Proofs.YtepgjabpoabjnaaW.PrintWords Go.Proofs.YtepgjabpoabjnaaW.PrintLast Go.Proofs.YtepgjabpoabjnaaW.PrintMore
attribute [local go_sem] max2_int min2_int max_two min_two max_three min_three max_four min_four   -- for this text's walks alone
set_option linter.unusedVariables false
set_option linter.unusedSimpArgs false

theorem V_atq {α : Type} {d : Kd α} {e base m : Nat} {ok : Nat → Prop} {w w' : World} {v : Value} {xs : List α} (hq : w.drewN m = w') (h : Kd.V d e w base ok v xs) : Kd.V d e w' base ok v xs := by subst hq; exact Kd.V_drewN h m
section
variable {P : Program} {ops : Array Oper} {rest : List Oper} {o : Oper} {a : Act} {Q : Exit → Act → World → Prop}
theorem cut_full (t e : TypeId) {i : TypeInfo} (ht : P.underlying t = some (.slice e)) (hi : P.info? e = some i) (A : Option Addr) (n c : Nat) (hc : n ≤ c) :
  ∀ W : World, (Instr.slice t (.slice A n c) none (some (.int .i64 (n : Int))) (some (.int .i64 (n : Int)))).run P W = .ok (.slice A n n) W := by
 intro W
 have hel : P.elem t = e := by simp [Program.elem, ht]
 have hu : P.underlying t = some (.slice (P.elem t)) := by rw [hel]; exact ht
 have ha : (A.map fun x => x.add 0) = A := by cases A <;> simp [Addr.add]
 rw [run_slice_any W t A n c hu, hel]
 have h1 : (n : Int) ≤ (c : Int) := by omega
 simp [Instr.sliceBounds, run_sliceBound, sizeOf, typeInfo, hi, sliced, Result.andThen, ha, h1]
theorem cut_fullh (t e : TypeId) {i : TypeInfo} (ht : P.underlying t = some (.slice e)) (hi : P.info? e = some i) (A : Option Addr) (n c : Nat) (j : Int) (h0 : 0 ≤ j) (hj : j ≤ (n : Int)) (hc : n ≤ c) :
  ∀ W : World, (Instr.slice t (.slice A n c) none (some (.int .i64 j)) (some (.int .i64 j))).run P W = .ok (.slice A j.toNat j.toNat) W := by
 intro W
 have hel : P.elem t = e := by simp [Program.elem, ht]
 have hu : P.underlying t = some (.slice (P.elem t)) := by rw [hel]; exact ht
 have ha : (A.map fun x => x.add 0) = A := by cases A <;> simp [Addr.add]
 rw [run_slice_any W t A n c hu, hel]
 have h1 : j ≤ (c : Int) := by omega
 have h2 : (j.toNat : Int) = j := Int.toNat_of_nonneg h0
 simp [Instr.sliceBounds, run_sliceBound, sizeOf, typeInfo, hi, sliced, Result.andThen, ha, h0, h1, h2]
theorem C_take_full {kd : IntKind} {W : World} {A : Option Addr} {l y : List Int} {m : Nat} (hy : y = l.take m) (hm : m ≤ l.length) (h : Kd.C (Kd.int kd) W A l.length l) : Kd.C (Kd.int kd) W A y.length y := by
 subst hy
 exact Kd.C_take (m := m) h hm
theorem full_run (kd : IntKind) {w0 W : World} (base : Nat) (t ty e : TypeId) (z : Value) (bytes : Nat)
  (ht : P.underlying t = some (.slice e)) (hinfo : (P.info? e).map (fun i => (i.zero, i.size, i.bytes)) = some (some z, (Kd.int kd).sz, bytes)) (hz : z.cells.size = (Kd.int kd).sz) (hb0 : 0 < bytes)
  (A : Option Addr) (xs : List Int) (p : Int) (ok : Nat → Prop) (hfresh : ∀ k, W.heap.size ≤ k → ok k)
  (HO : Kd.C (Kd.int kd) W A xs.length xs) (HB : Below base w0 W) (hbase : base ≤ W.heap.size) (hl : (xs.length + 1) * bytes ≤ 140737488355328) :
  ∃ v1 w1, (Builtin.append_ #[t, t] ty #[.slice A xs.length xs.length, .slice (some ⟨W.heap.size, 0, none⟩) 1 1]).run P (W.alloc (.cells #[.int kd p] e)) = .ok v1 w1 ∧ (Kd.int kd).R e w1 base ok v1 (xs ++ [p]) ∧ Below base w0 w1 ∧ W.grownBy w1 (Value.slice none 0 0).ownBlock ∧ (v1.ownBlock = (Value.slice none 0 0).ownBlock ∨ ∃ b, v1.ownBlock = some b ∧ W.heap.size ≤ b) := by
 obtain ⟨i0, hi, hzz⟩ := Option.map_eq_some_iff.1 hinfo
 simp only [Prod.mk.injEq] at hzz
 obtain ⟨hz0, hz1, hz2⟩ := hzz
 have hlen : xs.length + 1 ≤ 140737488355328 := Nat.le_trans (Nat.le_mul_of_pos_right _ hb0) hl
 have hW : Below W.heap.size W (W.alloc (.cells #[.int kd p] e)) := below_alloc (Below.refl _ _) _
 have hnews : ∀ j u, [Value.int kd p][j]? = some u → (W.alloc (.cells #[.int kd p] e)).cell? ((⟨W.heap.size, 0, none⟩ : Addr).add j) = some u := by
  simpa using World.news_of_block (cs := #[.int kd p]) (t := e) (fr := (0, 0)) (heap_alloc_new W (.cells #[.int kd p] e))
 have hrun : ∃ v1 w1, (Builtin.append_ #[t, t] ty #[.slice A xs.length xs.length, .slice (some ⟨W.heap.size, 0, none⟩) 1 1]).run P (W.alloc (.cells #[.int kd p] e)) = .ok v1 w1 ∧ w1.ownsRow (W.alloc (.cells #[.int kd p] e)).heap.size e 1 v1 (xs.length + 1) (nums kd xs ++ [.int kd p]) ∧ (W.alloc (.cells #[.int kd p] e)).grownBy w1 none := by
  cases A with
  | some b =>
   exact run_append_arg_grows (P := P) (W.alloc (.cells #[.int kd p] e)) t ty e i0 z 1 bytes ht hi hz0 hz1 hz2 hz (by decide) b xs.length xs.length (nums kd xs) (by simp [nums]) (fun j u hj => by
    have hj' : j < xs.length := by have := (List.getElem?_eq_some_iff.1 hj).1; simpa [nums] using this
    obtain ⟨ad, e1, hc⟩ := Kd.at_int HO (j : Int) (by omega) (by omega)
    injection e1 with e1
    subst e1
    rw [Int.toNat_natCast] at hc
    rw [(hW.cell (World.block_lt_of_cell? W _ hc)).trans hc, ← hj]
    simp [nums, rd, List.getD_eq_getElem?_getD, hj']) ⟨W.heap.size, 0, none⟩ 1 1 [.int kd p] rfl hnews (by omega) (by simp only [maxLen]; omega) hl
  | none =>
   have h0 : xs.length = 0 := by
    rcases Nat.eq_zero_or_pos xs.length with h0 | h0
    ·exact h0
    ·obtain ⟨ad, e1, _⟩ := Kd.at_int HO 0 (by omega) (by omega)
     cases e1
   have hx0 : xs = [] := List.eq_nil_of_length_eq_zero h0
   subst hx0; obtain ⟨v', w', hr, r1, r2, _⟩ := run_append_own (P := P) (W.alloc (.cells #[.int kd p] e)) (W.alloc (.cells #[.int kd p] e)).heap.size t ty e i0 z 1 bytes ht hi hz0 hz1 hz2 hz (by decide) (.slice none 0 0) 0 [] (World.ownsRow_nil _ _ e 1) ⟨W.heap.size, 0, none⟩ 1 1 [.int kd p] rfl hnews (by simp [Value.oneCell']) (by simp only [maxLen]; omega) (by simpa using hl) (Nat.le_refl _)
   exact ⟨v', w', hr, by simpa [nums] using r1, r2⟩
 obtain ⟨v1, w1, hr, hown, hg⟩ := hrun
 have hown' : w1.ownsRow base e 1 v1 (xs.length + 1) (nums kd xs ++ [.int kd p]) := by
  obtain ⟨q1, q2⟩ := hown
  refine ⟨q1, ?_⟩
  rcases q2 with q | ⟨g, cap, cur, q1, q2, q3⟩
  ·exact .inl q
  ·exact .inr ⟨g, cap, cur, q1, by simp at q2; omega, q3⟩
 have hblk : ∀ k, v1.ownBlock = some k → W.heap.size ≤ k := by
  intro k hk
  rcases hown.2 with ⟨q, _⟩ | ⟨g, cap, cur, q1, q2, q3⟩
  ·subst q; simp [Value.ownBlock] at hk
  ·subst q1; simp [Value.ownBlock] at hk; simp at q2; omega
 refine ⟨v1, w1, hr, ?_, ?_, ?_, ?_⟩
 ·refine Kd.R_of_own (enc := Value.int kd) (h1 := fun _ => rfl) ?_ (fun k hk => hfresh k (hblk k hk))
  have e1 : nums kd xs ++ [.int kd p] = encs (Value.int kd) (xs ++ [p]) := by simp [nums, encs]
  rw [← e1, List.length_append]
  exact hown'
 ·exact pw_below_grown (HB.alloc hbase _) none (by simp; omega) hg (fun k e => by cases e)
 ·exact World.grownBy.trans (World.grownBy_alloc W _ _) hg
 ·rcases hown.2 with ⟨q, _⟩ | ⟨g, cap, cur, q1, q2, q3⟩
  ·subst q; exact .inl rfl
  ·subst q1; exact .inr ⟨g, by simp [Value.ownBlock], by simp at q2; omega⟩
end
section
variable {P : Program} {ops : Array Oper} {o : Oper} {a : Act} {Q : Exit → Act → World → Prop} {Kc : Act → World → Prop}
/-- R_append_full as a step of a region. -/
theorem R_append_full_step (kd : IntKind) {w0 W : World} (base : Nat) (hw : Region.wanted o (yielded ops a.tmps) = true) (s x : Operand) (t e : TypeId) (z : Value) (bytes : Nat)
  (ho : o.op = .call { callee := .builtin .append, args := #[s, x], argTypes := #[t, t] })
  (ht : P.underlying t = some (.slice e)) (hinfo : (P.info? e).map (fun i => (i.zero, i.size, i.bytes)) = some (some z, (Kd.int kd).sz, bytes)) (hz : z.cells.size = (Kd.int kd).sz) (hs0 : 0 < (Kd.int kd).sz) (hb0 : 0 < bytes)
  (A : Option Addr) (xs : List Int) (p : Int) (cs : List Value) (ok okp : Nat → Prop) (hs : a.eval s = .slice A xs.length xs.length) (hx : a.eval x = .slice (some ⟨W.heap.size, 0, none⟩) 1 1) (hp : (Kd.int kd).M W base okp p cs) (hokp : ∀ k, okp k → ok k ∧ some k ≠ (Value.slice none 0 0).ownBlock) (hfresh : ∀ k, W.heap.size ≤ k → ok k)
  (HO : Kd.C (Kd.int kd) W A xs.length xs) (HB : Below base w0 W) (hbase : base ≤ W.heap.size) (hl : (xs.length + 1) * bytes ≤ 140737488355328)
  (h : ∀ v1 w1, (Kd.int kd).R e w1 base ok v1 (xs ++ [p]) → Below base w0 w1 → W.grownBy w1 (Value.slice none 0 0).ownBlock → (v1.ownBlock = (Value.slice none 0 0).ownBlock ∨ ∃ b, v1.ownBlock = some b ∧ W.heap.size ≤ b) → Kc (a.put o.dst v1) w1) :
  if Region.wanted o (yielded ops a.tmps) = true then Oper.wp P o a (W.alloc (.cells cs.toArray e)) Kc Q else Kc (a.put o.dst undef) (W.alloc (.cells cs.toArray e)) := by
 have hcs : cs = [.int kd p] := hp
 subst hcs
 obtain ⟨v1, w1, hr, r1, r2, r3, r4⟩ := full_run (P := P) kd base t o.type e z bytes ht hinfo hz hb0 A xs p ok hfresh HO HB hbase hl
 rw [if_pos hw]
 unfold Oper.wp execOp
 simp only [ho, resolve, invoke, builtin, Sem.run_bind, Sem.run_pure, Result.andThen_ok, List.map_toArray, List.map_cons, List.map_nil, hs, hx, hr]
 exact h v1 w1 r1 r2 r3 r4
end
section
variable {P : Program} {ops : Array Oper} {rest : List Oper} {o : Oper} {a : Act} {Q : Exit → Act → World → Prop}
/-- append(x[:n:n], p): new memory, whatever x is: nothing of x's is written. -/
theorem R_append_full (kd : IntKind) {w0 W : World} (base : Nat) (hgd : o.guard = none) (s x : Operand) (t e : TypeId) (z : Value) (bytes : Nat)
  (ho : o.op = .call { callee := .builtin .append, args := #[s, x], argTypes := #[t, t] })
  (ht : P.underlying t = some (.slice e)) (hinfo : (P.info? e).map (fun i => (i.zero, i.size, i.bytes)) = some (some z, (Kd.int kd).sz, bytes)) (hz : z.cells.size = (Kd.int kd).sz) (hs0 : 0 < (Kd.int kd).sz) (hb0 : 0 < bytes)
  (A : Option Addr) (xs : List Int) (p : Int) (cs : List Value) (ok okp : Nat → Prop) (hs : a.eval s = .slice A xs.length xs.length) (hx : a.eval x = .slice (some ⟨W.heap.size, 0, none⟩) 1 1) (hp : (Kd.int kd).M W base okp p cs) (hokp : ∀ k, okp k → ok k ∧ some k ≠ (Value.slice none 0 0).ownBlock) (hfresh : ∀ k, W.heap.size ≤ k → ok k)
  (HO : Kd.C (Kd.int kd) W A xs.length xs) (HB : Below base w0 W) (hbase : base ≤ W.heap.size) (hl : (xs.length + 1) * bytes ≤ 140737488355328)
  (h : ∀ v1 w1, (Kd.int kd).R e w1 base ok v1 (xs ++ [p]) → Below base w0 w1 → W.grownBy w1 (Value.slice none 0 0).ownBlock → (v1.ownBlock = (Value.slice none 0 0).ownBlock ∨ ∃ b, v1.ownBlock = some b ∧ W.heap.size ≤ b) → wpList P ops Q rest (a.put o.dst v1) w1) :
  wpList P ops Q (o :: rest) a (W.alloc (.cells cs.toArray e)) := by
 have hcs : cs = [.int kd p] := hp
 subst hcs
 obtain ⟨i0, hi, hzz⟩ := Option.map_eq_some_iff.1 hinfo
 simp only [Prod.mk.injEq] at hzz
 obtain ⟨hz0, hz1, hz2⟩ := hzz
 have hlen : xs.length + 1 ≤ 140737488355328 := Nat.le_trans (Nat.le_mul_of_pos_right _ hb0) hl
 have hW : Below W.heap.size W (W.alloc (.cells #[.int kd p] e)) := below_alloc (Below.refl _ _) _
 refine wpList_append_grows (P := P) (W.alloc (.cells #[.int kd p] e)) hgd s x t ho e i0 z 1 bytes ht hi hz0 hz1 hz2 hz (by decide) A xs.length xs.length (nums kd xs) hs ?_ (by simp [nums]) ?_ ⟨W.heap.size, 0, none⟩ 1 1 [.int kd p] hx rfl ?_ (by simp [Value.oneCell']) (by omega) (by simp only [maxLen]; omega) hl ?_
 ·intro hA
  rcases Nat.eq_zero_or_pos xs.length with h0 | h0
  ·exact ⟨h0, h0⟩
  ·obtain ⟨ad, e1, _⟩ := Kd.at_int HO 0 (by omega) (by omega)
   rw [hA] at e1; cases e1
 ·intro b hb j u hj
  have hj' : j < xs.length := by have := (List.getElem?_eq_some_iff.1 hj).1; simpa [nums] using this
  obtain ⟨ad, e1, hc⟩ := Kd.at_int HO (j : Int) (by omega) (by omega)
  rw [hb] at e1
  injection e1 with e1
  subst e1
  rw [Int.toNat_natCast] at hc
  rw [(hW.cell (World.block_lt_of_cell? W _ hc)).trans hc, ← hj]
  simp [nums, rd, List.getD_eq_getElem?_getD, hj']
 ·simpa using World.news_of_block (cs := #[.int kd p]) (t := e) (fr := (0, 0)) (heap_alloc_new W (.cells #[.int kd p] e))
 ·intro v1 w1 hown hg
  have hb1 : Below W.heap.size W w1 := pw_below_grown hW none (by simp) hg (fun k e => by cases e)
  have hown' : w1.ownsRow base e 1 v1 (xs.length + 1) (nums kd xs ++ [.int kd p]) := by
   obtain ⟨q1, q2⟩ := hown
   refine ⟨q1, ?_⟩
   rcases q2 with q | ⟨g, cap, cur, q1, q2, q3⟩
   ·exact .inl q
   ·exact .inr ⟨g, cap, cur, q1, by simp at q2; omega, q3⟩
  have hblk : ∀ k, v1.ownBlock = some k → W.heap.size ≤ k := by
   intro k hk
   rcases hown.2 with ⟨q, _⟩ | ⟨g, cap, cur, q1, q2, q3⟩
   ·subst q; simp [Value.ownBlock] at hk
   ·subst q1; simp [Value.ownBlock] at hk; simp at q2; omega
  refine h v1 w1 ?_ ?_ ?_ ?_
  ·refine Kd.R_of_own (enc := Value.int kd) (h1 := fun _ => rfl) ?_ (fun k hk => hfresh k (hblk k hk))
   have e1 : nums kd xs ++ [.int kd p] = encs (Value.int kd) (xs ++ [p]) := by simp [nums, encs]
   rw [← e1, List.length_append]
   exact hown'
  ·exact pw_below_grown (HB.alloc hbase _) none (by simp; omega) hg (fun k e => by cases e)
  ·exact World.grownBy.trans (World.grownBy_alloc W _ _) hg
  ·rcases hown.2 with ⟨q, _⟩ | ⟨g, cap, cur, q1, q2, q3⟩
   ·subst q; exact .inl rfl
   ·subst q1; exact .inr ⟨g, by simp [Value.ownBlock], by simp at q2; omega⟩
end
section
variable {P : Program} {ops : Array Oper} {o : Oper} {a : Act} {Q : Exit → Act → World → Prop} {Kc : Act → World → Prop}
theorem run_append_nothing (w : World) (t ty e : TypeId) (i : TypeInfo) (ht : P.underlying t = some (.slice e)) (hi : P.info? e = some i) (A B : Option Addr) (n c c' : Nat) (hc : n ≤ c) :
  (Builtin.append_ #[t, t] ty #[.slice A n c, .slice B 0 c']).run P w = .ok (.slice A n c) w := by
 have h0 : ∀ a : Addr, Sem.run P (loadCells a 0) w = .ok #[] w := by intro a; simp [loadCells, loadCellsFrom]
 cases A <;> cases B <;> simp [h0, Result.andThen, Builtin.append_, run_underlying ht, sizeOf, typeInfo, hi, Builtin.lenOf, Builtin.firstCells, hc, storeCells]
/-- append(x[:n:n], y...) of whole numbers: with nothing to append the same slice, else new memory. -/
theorem V_append_rows_full_step (kd : IntKind) {w0 W : World} (base : Nat) (hw : Region.wanted o (yielded ops a.tmps) = true) (s x : Operand) (t e : TypeId) (z : Value) (bytes : Nat)
  (ho : o.op = .call { callee := .builtin .append, args := #[s, x], argTypes := #[t, t] })
  (ht : P.underlying t = some (.slice e)) (hinfo : (P.info? e).map (fun i => (i.zero, i.size, i.bytes)) = some (some z, 1, bytes)) (hz : z.cells.size = 1) (hb0 : 0 < bytes)
  (A : Option Addr) (xs : List Int) (B : Option Addr) (ys : List Int) (c : Nat) (ok : Nat → Prop) (hs : a.eval s = .slice A xs.length xs.length) (hx : a.eval x = .slice B ys.length c)
  (HO : Kd.V (Kd.int kd) e W base ok (.slice A xs.length xs.length) xs) (HY : Kd.C (Kd.int kd) W B ys.length ys) (hfresh : ∀ k, W.heap.size ≤ k → ok k) (HB : Below base w0 W) (hbase : base ≤ W.heap.size) (hl : (xs.length + ys.length) * bytes ≤ 140737488355328)
  (h : ∀ v1 w1, Kd.V (Kd.int kd) e w1 base ok v1 (xs ++ ys) → Below base w0 w1 → Kc (a.put o.dst v1) w1) :
  if Region.wanted o (yielded ops a.tmps) = true then Oper.wp P o a W Kc Q else Kc (a.put o.dst undef) W := by
 obtain ⟨i0, hi, hzz⟩ := Option.map_eq_some_iff.1 hinfo
 simp only [Prod.mk.injEq] at hzz
 obtain ⟨hz0, hz1, hz2⟩ := hzz
 have hlen : xs.length + ys.length ≤ 140737488355328 := Nat.le_trans (Nat.le_mul_of_pos_right _ hb0) hl
 have HX : Kd.C (Kd.int kd) W A xs.length xs := (Kd.V_reads' HO).2.2
 have hcell : ∀ {A : Option Addr} {xs : List Int}, Kd.C (Kd.int kd) W A xs.length xs → ∀ b, A = some b → ∀ j u, (nums kd xs)[j]? = some u → W.cell? (b.add j) = some u := by
  intro A xs hC b hb j u hj
  have hj' : j < xs.length := by have := (List.getElem?_eq_some_iff.1 hj).1; simpa [nums] using this
  obtain ⟨ad, e1, hc⟩ := Kd.at_int hC (j : Int) (by omega) (by omega)
  rw [hb] at e1
  injection e1 with e1
  subst e1
  rw [Int.toNat_natCast] at hc
  rw [hc, ← hj]
  simp [nums, rd, List.getD_eq_getElem?_getD, hj']
 rw [if_pos hw]
 rcases Nat.eq_zero_or_pos ys.length with y0 | y0
 ·have hy : ys = [] := List.eq_nil_of_length_eq_zero y0
  subst hy; have hr := run_append_nothing (P := P) W t o.type e i0 ht hi A B xs.length xs.length c (Nat.le_refl _)
  unfold Oper.wp execOp
  simp only [ho, resolve, invoke, builtin, Sem.run_bind, Sem.run_pure, Result.andThen_ok, List.map_toArray, List.map_cons, List.map_nil, hs, hx, List.length_nil, hr]
  exact h _ _ (by rw [List.append_nil]; exact HO) HB
 ·obtain ⟨ad, hB, _⟩ := Kd.at_int HY 0 (by omega) (by omega)
  subst hB
  have hrun : ∃ v1 w1, (Builtin.append_ #[t, t] o.type #[.slice A xs.length xs.length, .slice (some ad) ys.length c]).run P W = .ok v1 w1 ∧ w1.ownsRow W.heap.size e 1 v1 (xs.length + ys.length) (nums kd xs ++ nums kd ys) ∧ W.grownBy w1 none := by
   cases A with
   | some b => exact run_append_arg_grows (P := P) W t o.type e i0 z 1 bytes ht hi hz0 hz1 hz2 hz (by decide) b xs.length xs.length (nums kd xs) (by simp [nums]) (hcell HX b rfl) ad ys.length c (nums kd ys) (by simp [nums]) (hcell HY ad rfl) (by omega) (by simp only [maxLen]; omega) hl
   | none =>
    have h0 : xs.length = 0 := by
     rcases Nat.eq_zero_or_pos xs.length with h0 | h0
     ·exact h0
     ·obtain ⟨ad, e1, _⟩ := Kd.at_int HX 0 (by omega) (by omega)
      cases e1
    have hx0 : xs = [] := List.eq_nil_of_length_eq_zero h0
    subst hx0; obtain ⟨v', w', hr, r1, r2, _⟩ := run_append_own (P := P) W W.heap.size t o.type e i0 z 1 bytes ht hi hz0 hz1 hz2 hz (by decide) (.slice none 0 0) 0 [] (World.ownsRow_nil _ _ e 1) ad ys.length c (nums kd ys) (by simp [nums]) (hcell HY ad rfl) (by intro u hu; simp only [nums, List.mem_map] at hu; obtain ⟨y, _, rfl⟩ := hu; rfl) (by simp only [maxLen]; simp at hlen; omega) (by simpa using hl) (Nat.le_refl _)
    exact ⟨v', w', hr, by simpa [nums] using r1, r2⟩
  obtain ⟨v1, w1, hr, hown, hg⟩ := hrun
  have hown' : w1.ownsRow base e 1 v1 (xs.length + ys.length) (nums kd xs ++ nums kd ys) := by
   obtain ⟨q1, q2⟩ := hown
   refine ⟨q1, ?_⟩
   rcases q2 with q | ⟨g, cap, cur, q1, q2, q3⟩
   ·exact .inl q
   ·exact .inr ⟨g, cap, cur, q1, by omega, q3⟩
  have hblk : ∀ k, v1.ownBlock = some k → W.heap.size ≤ k := by
   intro k hk
   rcases hown.2 with ⟨q, _⟩ | ⟨g, cap, cur, q1, q2, q3⟩
   ·subst q; simp [Value.ownBlock] at hk
   ·subst q1; simp [Value.ownBlock] at hk; omega
  unfold Oper.wp execOp
  simp only [ho, resolve, invoke, builtin, Sem.run_bind, Sem.run_pure, Result.andThen_ok, List.map_toArray, List.map_cons, List.map_nil, hs, hx, hr]
  refine h v1 w1 (Kd.R_V (base := base) ?_) (pw_below_grown HB none hbase hg (fun k e => by cases e))
  refine Kd.R_of_own (enc := Value.int kd) (h1 := fun _ => rfl) ?_ (fun k hk => hfresh k (hblk k hk))
  have e1 : nums kd xs ++ nums kd ys = encs (Value.int kd) (xs ++ ys) := by simp [nums, encs]
  rw [← e1, List.length_append]
  exact hown'
end
/-- A row of numbers that is only read, and isn't empty: its block is none that its footprint bars. -/
theorem F_blk {q : IntKind} {W : World} {ok : Nat → Prop} {ad : Addr} {n : Nat} {xs : List Int} (h : Kd.F (Kd.int q) W ok (some ad) n xs) (hp : 0 < n) : ok ad.block := by
 refine Classical.byContradiction fun hno => ?_
 have h1 : (Kd.int q).C { W with heap := W.heap.setIfInBounds ad.block (.map #[] 0) } (some ad) n xs := h _ (fun k hk _ => by
  have hne : ad.block ≠ k := fun e => hno (e ▸ hk)
  simp [Array.getElem?_setIfInBounds, hne])
 obtain ⟨a, ha, hc⟩ := Kd.at_int h1 0 (Int.le_refl 0) (by omega)
 injection ha with ha
 subst ha
 have hb : (ad.add 0).block = ad.block := add_block ..
 by_cases hlt : ad.block < W.heap.size
 ·have e : (W.heap.setIfInBounds ad.block (.map #[] 0))[ad.block]? = some (.map #[] 0) := by simp [Array.getElem?_setIfInBounds, hlt]
  simp [World.cell?, hb, e] at hc
 ·have e : (W.heap.setIfInBounds ad.block (.map #[] 0))[ad.block]? = none := by simp [hlt]
  simp [World.cell?, hb, e] at hc
theorem Kd.V_away {q : IntKind} {e base g : Nat} {W : World} {ok : Nat → Prop} {v : Value} {xs : List Int} (h : (Kd.int q).V e W base ok v xs) (hok : ∀ k, ok k → k ≠ g) (hp : 0 < xs.length := by exact of_decide_eq_true (by assumption)) : some g ≠ v.ownBlock := by
 obtain ⟨A, c, rfl, _, hf⟩ := h
 cases A with
 | none => simp [Value.ownBlock]
 | some ad =>
  intro he
  simp only [Value.ownBlock, Option.some.injEq] at he
  exact hok _ (F_blk hf hp) he.symm

/-! ### block_Many: function 29 -/
def block_Many.f (a0_0 a0_1 : Int) : Option (Int) := if 0 ≤ (IntKind.u64.wrap (wrap64 (32 - a0_1))) then (some (shl .i64 1 (IntKind.u64.wrap (wrap64 (32 - a0_1))))) else (none)
set_option maxHeartbeats 8000000 in
set_option maxRecDepth 100000 in
theorem block_Many.calls (ab aa r : Int) (w : World) (h : block_Many.f ab aa = some r) :
  Calls Try.prog 29 #[.agg #[.int .u32 ab, .int .i64 aa]] w fun e w' => e = .returned (.int .i64 r) ∧ Below w.heap.size w w' := by
 have hu24 := Try.underlying24
 have HB := Aside0.mk (Below.refl w.heap.size w)
 have H : (if 0 ≤ (IntKind.u64.wrap (wrap64 (32 - aa))) then (some (shl .i64 1 (IntKind.u64.wrap (wrap64 (32 - aa))))) else (none)) = some r := h
 clear h
 obtain ⟨ji2, hji2⟩ : ∃ j_ : Int, (IntKind.u64.wrap (wrap64 (32 - aa))) = j_ := ⟨_, rfl⟩
 replace H : (if 0 ≤ (ji2) then (some (shl .i64 1 (ji2))) else (none)) = some r := by first | (rw [hji2] at H; exact H) | (simp only [hji2] at H ⊢; exact H)
 by_cases c3 : 0 ≤ (ji2)
 ·rw [if_pos c3] at H
  have ak := eq_true c3
  have al : decide (0 ≤ (ji2)) = true := decide_eq_true c3
  clear c3; obtain ⟨ji4, hji4⟩ : ∃ j_ : Int, (shl .i64 1 (ji2)) = j_ := ⟨_, rfl⟩
  replace H : (some ji4) = some r := by first | (rw [hji4] at H; exact H) | (simp only [hji4] at H ⊢; exact H)
  have hji4_ : (IntKind.i64.wrap (1 * 2 ^ min (ji2).toNat 64)) = ji4 := hji4
  have hji4z : (ji2) ≤ 64 → (IntKind.i64.wrap (1 * 2 ^ (ji2).toNat)) = ji4 := shl_small hji4
  have hji4u : (IntKind.i64.wrap (2 ^ min (ji2).toNat 64)) = ji4 := by have h_ := hji4_; rw [Int.one_mul] at h_; exact h_
  have hji4v : (ji2) ≤ 64 → (IntKind.i64.wrap (2 ^ (ji2).toNat)) = ji4 := fun hle_ => by have h_ := hji4z hle_; rw [Int.one_mul] at h_; exact h_
  have hji4y : (wrap64 (1 * 2 ^ min (ji2).toNat 64)) = ji4 := (i64_w _).symm.trans hji4_
  have hji4x : (ji2) ≤ 64 → (wrap64 (1 * 2 ^ (ji2).toNat)) = ji4 := fun h_ => (i64_w _).symm.trans (hji4z h_)
  obtain rfl := Option.some.inj H
  go_enter Try.func29, Try.ntmps29
  go_wp2_with (first | ((with_reducible refine gd_ 1 ?_); refine bx_ (N := 1) (cs := #[.int .u32 ab, .int .i64 aa]) (t := 24) ?_; intro aj hg w5 ac hb; have ai := gG_ hg HB; have ah := gG_ hg HB; replace HB := hS_ HB hb; clear hb hg; obtain ⟨ad, ae, af, ag⟩ := cz2_ (w := w5) ac))
  go_ret
  exact ⟨by first | rfl | (simp [errW_none, errW_some] <;> rfl) | (simp only [← hji2, ← hji4]; first | rfl | (simp [errW_none, errW_some] <;> rfl)) | (simp [*, errW_none, errW_some] <;> rfl), hB_ HB⟩
 ·rw [if_neg c3] at H
  exact absurd H (by simp)

/-! ### block_Usable: function 23 -/
def block_Usable.f (a0_0 a0_1 : Int) (l0_2 : List Int) (a0_3 a0_4 : Int) (a0_5 a0_6 : Int) : Option (Int) := (block_Many.f a0_0 a0_1).bind fun t103 => (some (wrap64 (t103 - (l0_2.length : Int))))
def block_Usable.T1 : Bool × List (List Nat × List Nat) := (true, [([], []), ([0], [0]), ([1], [1]), ([], []), ([3], [3]), ([4], [4]), ([2, 5], [2, 5]), ([6, 2, 0, 1, 2, 3, 4, 5, 6], [6])])
def block_Usable.B1 : List Nat := [0, 1, 3, 0, 8, 24, 63, 127]
theorem block_Usable.tab1 : rtab .any (opsOf Try.f23 1) = block_Usable.T1 := by kernel_rfl
theorem block_Usable.bits1 : waitsOk block_Usable.T1.2 block_Usable.B1 = true := by kernel_rfl
set_option maxHeartbeats 8000000 in
set_option maxRecDepth 100000 in
theorem block_Usable.calls (ad ae : Int) (af : Option Addr) (ak : Nat) (ac : List Int) (ag ah : Int) (ai aj r : Int) (w : World) (hr0_2 : Kd.C (Kd.int .i64) w af ac.length ac) (hc0_2 : ac.length ≤ ak) (h : block_Usable.f ad ae ac ag ah ai aj = some r) :
  Calls Try.prog 23 #[.agg #[.int .u32 ad, .int .i64 ae, .slice af ac.length ak, .int .i64 ag, .int .i64 ah, .int .i64 ai, .int .i64 aj]] w fun e w' => e = .returned (.int .i64 r) ∧ Below w.heap.size w w' := by
 have hu27 := Try.underlying27
 have hu24 := Try.underlying24
 have ap := Aside0.mk hr0_2
 have ao := Aside0.mk hc0_2
 clear hr0_2 hc0_2
 have HB := Aside0.mk (Below.refl w.heap.size w)
 have H : ((block_Many.f ad ae).bind fun al => (some (wrap64 (al - (ac.length : Int))))) = some r := h
 clear h
 replace H := bi_ H
 obtain ⟨al, A20, H⟩ := H
 replace H : (some (wrap64 (al - (ac.length : Int)))) = some r := H
 have A2 := Aside0.mk A20
 clear A20
 obtain rfl := Option.some.inj H
 go_enter Try.func23, Try.ntmps23
 try go_wp2_with (first | ((with_reducible refine gd_ 1 ?_); refine bx_ (N := 1) (cs := #[.int .u32 ad, .int .i64 ae, .slice af ac.length ak, .int .i64 ag, .int .i64 ah, .int .i64 ai, .int .i64 aj]) (t := 27) ?_; intro ab hg w3 aa hb; have an := gG_ hg HB; have am := gG_ hg HB; replace HB := hS_ HB hb; clear hb hg))
 have n0_ := Aside0.mk (blk_drew aa.out)
 have n1_ := Aside0.mk (below_drew1 HB.out)
 clear aa
 clear HB
 have aa := n0_
 have HB := n1_
 clear n0_ n1_
 refine start_ (n := 8) (S := fun w' => w'.cell? ⟨ab, 0, none⟩ = some (.int .u32 ad) ∧ w'.cell? ⟨ab, 1, none⟩ = some (.int .i64 ae) ∧ w'.cell? ⟨ab, 2, none⟩ = some (.slice af ac.length ak) ∧ w'.cell? ⟨ab, 3, none⟩ = some (.int .i64 ag) ∧ w'.cell? ⟨ab, 4, none⟩ = some (.int .i64 ah) ∧ w'.cell? ⟨ab, 5, none⟩ = some (.int .i64 ai) ∧ w'.cell? ⟨ab, 6, none⟩ = some (.int .i64 aj)) (ds := []) (tf 8 0) (by kernel_rfl) rfl rfl ⟨(blk_cell aa.out 0).trans rfl, (blk_cell aa.out 1).trans rfl, (blk_cell aa.out 2).trans rfl, (blk_cell aa.out 3).trans rfl, (blk_cell aa.out 4).trans rfl, (blk_cell aa.out 5).trans rfl, (blk_cell aa.out 6).trans rfl⟩ (fun hHeld => ?_); refine with_tabW block_Usable.tab1 block_Usable.bits1 (fun HT_ HW_ => ?_)
 generalize w3.drew = w4 at aa HB hHeld ⊢
 refine puU_ 0 3 (tf 8 1) HT_ ?_
 refine puU_ 3 6 (tf 8 9) HT_ ?_
 refine tkU_ 1 4 (tf 8 11) rfl rfl HT_ HW_ hHeld (by rintro w' ⟨s0, s1, s2, s3, s4, s5, s6⟩; go_simp; with_reducible rfl) ?_
 refine tkU_ 4 7 (tf 8 27) rfl rfl HT_ HW_ hHeld (by rintro w' ⟨s0, s1, s2, s3, s4, s5, s6⟩; go_simp; with_reducible rfl) ?_
 refine puU_ 5 8 (tf 8 59) HT_ ?_
 refine on_ (i := 2) (N := some 5) (tf 8 63) HT_ (fun K hK => ?_)
 refine goes_ Try.func29 (by kernel_rfl) rfl #[.agg #[.int .u32 ad, .int .i64 ae]] (by rfl) rfl rfl am_ ?_
 with_reducible refine (block_Many.calls ad ae al _ A2.out).mono ?_
 rintro e w5 ⟨rfl, hb⟩
 refine ⟨_, rfl, ?_⟩
 have n0_ := bB_ aa hb
 have n1_ := Aside0.mk (below_step (hB_ HB) hb)
 clear aa
 clear HB
 have aa := n0_
 have HB := n1_
 clear n0_ n1_
 (try clear hb)
 (try clear hb2)
 (try clear hk)
 (try clear hi)
 refine hK.out _ _ (cl7_ aa) (fun hHeld => ?_)
 clear hK K
 refine norm_ (a' := ?_) ?_ ?_
 rotate_left
 ·show Act.put _ (some 5) _ = _
  simp only [Act.put, List.setIfInBounds_toArray, List.set_cons_zero, List.set_cons_succ, i64_w, i32_w]
  rfl
 refine puU_ 6 9 (tf 8 127) HT_ ?_
 refine puU_ 7 2 (tf 8 255) HT_ ?_
 refine done_ (done_of HT_.out (by kernel_rfl)) ?_
 try go_wp2
 go_ret
 exact ⟨er_, hB_ HB⟩

/-! ### gauge_share: function 24 -/
def gauge_share.f (a0 a1 : Int) : Option (Nat) := if a1 = 0 then (some 4607182418800017408) else (if fdivok (floatOfInt .f64 a0) (floatOfInt .f64 a1) = true then (some (fdiv (floatOfInt .f64 a0) (floatOfInt .f64 a1))) else (none))
set_option maxHeartbeats 8000000 in
set_option maxRecDepth 100000 in
theorem gauge_share.calls (a0 a1 : Int) (r : Nat) (w : World) (h : gauge_share.f a0 a1 = some r) :
  Calls Try.prog 24 #[.int .i64 a0, .int .i64 a1] w fun e w' => e = .returned (.float .f64 r) ∧ Drawn0 w w' := by
 have H : (if a1 = 0 then (some 4607182418800017408) else (if fdivok (floatOfInt .f64 a0) (floatOfInt .f64 a1) = true then (some (fdiv (floatOfInt .f64 a0) (floatOfInt .f64 a1))) else (none))) = some r := h
 clear h
 by_cases c3 : a1 = 0
 ·rw [if_pos c3] at H
  have aa : (a1 == 0) = true := beq_iff_eq.mpr c3
  have ab : (a1 != 0) = false := bne_eq_false_iff_eq.mpr c3
  clear c3
  obtain rfl := Option.some.inj H
  go_enter Try.func24, Try.ntmps24
  go_wp2
  go_ret
  exact ⟨rs_, dn_⟩
 ·rw [if_neg c3] at H
  have aa : (a1 == 0) = false := beq_eq_false_iff_ne.mpr c3
  have ab : (a1 != 0) = true := bne_iff_ne.mpr c3
  by_cases c4 : fdivok (floatOfInt .f64 a0) (floatOfInt .f64 a1) = true
  ·rw [if_pos c4] at H
   have ac := eq_true c4
   have ad : decide (fdivok (floatOfInt .f64 a0) (floatOfInt .f64 a1) = true) = true := decide_eq_true c4
   clear c4
   obtain rfl := Option.some.inj H
   go_enter Try.func24, Try.ntmps24
   go_wp2
   go_ret
   exact ⟨rs_, dn_⟩
  ·rw [if_neg c4] at H
   exact absurd H (by simp)

/-! ### gauge_Of: function 11 -/
def gauge_Of.f (a0_0 a0_1 : Int) (l0_2 : List Int) (a0_3 a0_4 : Int) (a0_5 a0_6 : Int) (l1 : List Int) : Option (Nat) := (block_Usable.f a0_0 a0_1 l0_2 a0_3 a0_4 a0_5 a0_6).bind fun t105 => ((gauge_share.f (l1.length : Int) t105).bind fun t106 => (some t106))
set_option maxHeartbeats 8000000 in
set_option maxRecDepth 100000 in
theorem gauge_Of.calls (ad ae : Int) (aj : Option Addr) (ak : Nat) (aa : List Int) (af ag : Int) (ah ai : Int) (A1 : Option Addr) (c1 : Nat) (l1 : List Int) (r : Nat) (w : World) (hr0_2 : Kd.C (Kd.int .i64) w aj aa.length aa) (hc0_2 : aa.length ≤ ak) (hr1 : Kd.C (Kd.int .i64) w A1 l1.length l1) (hc1 : l1.length ≤ c1) (h : gauge_Of.f ad ae aa af ag ah ai l1 = some r) :
  Calls Try.prog 11 #[.agg #[.int .u32 ad, .int .i64 ae, .slice aj aa.length ak, .int .i64 af, .int .i64 ag, .int .i64 ah, .int .i64 ai], .slice A1 l1.length c1] w fun e w' => e = .returned (.float .f64 r) ∧ Below w.heap.size w w' := by
 have hu27 := Try.underlying27
 have an := Aside0.mk hr0_2
 have am := Aside0.mk hc0_2
 clear hr0_2 hc0_2
 have aI := Aside0.mk hr1
 have aH := Aside0.mk hc1
 clear hr1 hc1
 have HB := Aside0.mk (Below.refl w.heap.size w)
 have H : ((block_Usable.f ad ae aa af ag ah ai).bind fun ab => ((gauge_share.f (l1.length : Int) ab).bind fun ac => (some ac))) = some r := h
 clear h
 replace H := bi_ H
 obtain ⟨ab, A30, H⟩ := H
 replace H : ((gauge_share.f (l1.length : Int) ab).bind fun ac => (some ac)) = some r := H
 have A3 := Aside0.mk A30
 clear A30
 replace H := bi_ H
 obtain ⟨ac, A40, H⟩ := H
 replace H : (some ac) = some r := H
 have A4 := Aside0.mk A40
 clear A40
 obtain rfl := Option.some.inj H
 go_enter Try.func11, Try.ntmps11
 go_wp2_with (first | ((with_reducible refine gd_ 2 ?_); refine bx_ (N := 2) (cs := #[.int .u32 ad, .int .i64 ae, .slice aj aa.length ak, .int .i64 af, .int .i64 ag, .int .i64 ah, .int .i64 ai]) (t := 27) ?_; intro aG hg w5 al hb; have aF := gG_ hg HB; have aE := gG_ hg HB; replace HB := hS_ HB hb; clear hb hg; obtain ⟨ao, ap, aq, ar, au, av, aw, ax, ay, az, aA, aB, aC, aD⟩ := cz7_ (w := w5) al) | ((with_reducible refine gate_callee (f := 23) rfl ?_); refine goesL_ (some 8) rfl rfl Try.func23 (by kernel_rfl) rfl #[.agg #[.int .u32 ad, .int .i64 ae, .slice aj aa.length ak, .int .i64 af, .int .i64 ag, .int .i64 ah, .int .i64 ai]] rfl am_ ?_; (with_reducible refine (block_Usable.calls ad ae _ _ aa af ag ah ai ab _ ?side1 ?side2 A3.out).mono ?_); (case side1 => exact cC_ an HB); (case side2 => exact am.out); rintro e w7 ⟨rfl, hb⟩; refine ⟨_, rfl, ?_⟩; replace HB := hS_ HB hb; (try clear hb)) | ((with_reducible refine gate_callee (f := 24) rfl ?_); refine goesL_ (some 9) rfl rfl Try.func24 (by kernel_rfl) rfl #[.int .i64 (l1.length : Int), .int .i64 ab] rfl am_ ?_; (with_reducible refine (gauge_share.calls (l1.length : Int) ab ac _ A4.out).mono ?_); rintro e w' ⟨rfl, ⟨nd, rfl⟩⟩; refine ⟨_, rfl, ?_⟩) | (go_at_call 23; (with_reducible refine (gauge_share.calls (l1.length : Int) ab ac _ A4.out).mono ?_); rintro e w' ⟨rfl, ⟨nd, rfl⟩⟩))
 go_ret
 exact ⟨er_, hB_ HB⟩

/-! ### gauge_is: function 22 -/
def gauge_is.f (a0 : Nat) : Option (Bool) := if (fge a0 0) = true then (some (fle a0 4607182418800017408)) else (some false)
theorem nan_is {x : Nat} (h : Nan x) : gauge_is.f x = some false := by
  unfold gauge_is.f fge; rw [h 0]; rfl
set_option maxHeartbeats 8000000 in
set_option maxRecDepth 100000 in
theorem gauge_is.calls (a0 : Nat) (r : Bool) (w : World) (h : gauge_is.f a0 = some r) :
  Calls Try.prog 22 #[.float .f64 a0] w fun e w' => e = .returned (.bool r) ∧ Drawn0 w w' := by
 have H : (if (fge a0 0) = true then (some (fle a0 4607182418800017408)) else (some false)) = some r := h
 clear h
 by_cases c2 : (fge a0 0) = true
 ·rw [if_pos c2] at H
  have aa : (fge a0 0) = true := c2
  clear c2
  obtain rfl := Option.some.inj H
  go_enter Try.func22, Try.ntmps22
  go_wp2
  go_ret
  exact ⟨rs_, dn_⟩
 ·rw [if_neg c2] at H
  have aa : (fge a0 0) = false := by simpa using c2
  clear c2
  obtain rfl := Option.some.inj H
  go_enter Try.func22, Try.ntmps22
  go_wp2
  go_ret
  exact ⟨rs_, dn_⟩

/-! ### gauge_Above: function 9 -/
def gauge_Above.f (a0_0 a0_1 : Int) (l0_2 : List Int) (a0_3 a0_4 : Int) (a0_5 a0_6 : Int) (l1 : List Int) (a2 : Nat) : Option (Bool × Int) := (gauge_is.f a2).bind fun t108 => (if t108 = true then ((gauge_Of.f a0_0 a0_1 l0_2 a0_3 a0_4 a0_5 a0_6 l1).bind fun t109 => (some ((fge t109 a2), 0))) else (some (false, 1)))
theorem nanA_ {x : Nat} {B p : Int} {H : List Int} {s w q t : Int} {l : List Int} {r : Option (Bool × Int)} (hx : Nan x) (h : gauge_Above.f B p H s w q t l fnan0_ = r) : gauge_Above.f B p H s w q t l x = r := by
  rw [← h]; unfold gauge_Above.f; rw [nan_is hx, nan_is nan0_]; rfl
set_option maxHeartbeats 8000000 in
set_option maxRecDepth 100000 in
theorem gauge_Above.calls (ab ac : Int) (aj : Option Addr) (ak : Nat) (aa : List Int) (ad ae : Int) (af ag : Int) (A1 : Option Addr) (c1 : Nat) (l1 : List Int) (a2 : Nat) (r1 : Bool) (r2 : Int) (w : World) (hr0_2 : Kd.C (Kd.int .i64) w aj aa.length aa) (hc0_2 : aa.length ≤ ak) (hr1 : Kd.C (Kd.int .i64) w A1 l1.length l1) (hc1 : l1.length ≤ c1) (h : gauge_Above.f ab ac aa ad ae af ag l1 a2 = some (r1, r2)) :
  Calls Try.prog 9 #[.agg #[.int .u32 ab, .int .i64 ac, .slice aj aa.length ak, .int .i64 ad, .int .i64 ae, .int .i64 af, .int .i64 ag], .slice A1 l1.length c1, .float .f64 a2] w fun e w' => e = .returned (.tuple #[.bool r1, .int .i64 r2]) ∧ Below w.heap.size w w' := by
 have hu27 := Try.underlying27
 have ap := Aside0.mk hr0_2
 have ao := Aside0.mk hc0_2
 clear hr0_2 hc0_2
 have au := Aside0.mk hr1
 have ar := Aside0.mk hc1
 clear hr1 hc1
 have HB := Aside0.mk (Below.refl w.heap.size w)
 have H : ((gauge_is.f a2).bind fun al => (if al = true then ((gauge_Of.f ab ac aa ad ae af ag l1).bind fun ah => (some ((fge ah a2), 0))) else (some (false, 1)))) = some (r1, r2) := h
 clear h
 replace H := bi_ H
 obtain ⟨al, A40, H⟩ := H
 replace H : (if al = true then ((gauge_Of.f ab ac aa ad ae af ag l1).bind fun ah => (some ((fge ah a2), 0))) else (some (false, 1))) = some (r1, r2) := H
 have A4 := Aside0.mk A40
 clear A40
 by_cases c5 : al = true
 ·subst c5
  have H1 : ((gauge_Of.f ab ac aa ad ae af ag l1).bind fun ah => (some ((fge ah a2), 0))) = some (r1, r2) := pf_ rfl H
  clear H; have H := H1; clear H1; replace H := bi_ H; obtain ⟨ah, A60, H⟩ := H
  replace H : (some ((fge ah a2), 0)) = some (r1, r2) := H
  have A6 := Aside0.mk A60; clear A60; simp only [Option.some.injEq, Prod.mk.injEq] at H; obtain ⟨rfl, rfl⟩ := H
  go_enter Try.func9, Try.ntmps9
  go_wp2_with (first | ((with_reducible refine gd_ 3 ?_); refine bx_ (N := 3) (cs := #[.int .u32 ab, .int .i64 ac, .slice aj aa.length ak, .int .i64 ad, .int .i64 ae, .int .i64 af, .int .i64 ag]) (t := 27) ?_; intro aq hg w7 ai hb; have an := gG_ hg HB; have am := gG_ hg HB; replace HB := hS_ HB hb; clear hb hg) | ((with_reducible refine gate_callee (f := 22) rfl ?_); refine goesL_ (some 9) rfl rfl Try.func22 (by kernel_rfl) rfl #[.float .f64 a2] rfl am_ ?_; (with_reducible refine (gauge_is.calls a2 true _ A4.out).mono ?_); rintro e w' ⟨rfl, ⟨nd, rfl⟩⟩; refine ⟨_, rfl, ?_⟩; obtain ⟨av, aw, ax, ay, az, aA, aB, aC, aD, aE, aF, aG, aH, aI⟩ := cz7_ (w := w7) ai) | ((with_reducible refine gate_callee (f := 11) rfl ?_); refine goesL_ (some 13) rfl rfl Try.func11 (by kernel_rfl) rfl #[.agg #[.int .u32 ab, .int .i64 ac, .slice aj aa.length ak, .int .i64 ad, .int .i64 ae, .int .i64 af, .int .i64 ag], .slice A1 l1.length c1] rfl am_ ?_; (with_reducible refine (gauge_Of.calls ab ac _ _ aa ad ae af ag _ _ l1 ah _ ?side1 ?side2 ?side3 ?side4 A6.out).mono ?_); (case side1 => exact cD_ (Kd.C_below ap.out (hB_ HB))); (case side2 => exact ao.out); (case side3 => exact cD_ (Kd.C_below au.out (hB_ HB))); (case side4 => exact ar.out); rintro e w9 ⟨rfl, hb⟩; refine ⟨_, rfl, ?_⟩; replace HB := hS_ HB hb; replace ai := bB_ ai hb; (try clear hb)))
  go_ret2
  exact ⟨er_, hB_ HB⟩
 ·replace c5 := Bool.eq_false_iff.mpr c5
  subst c5
  have H1 : (some (false, 1)) = some (r1, r2) := nf_ H
  clear H; have H := H1; clear H1; simp only [Option.some.injEq, Prod.mk.injEq] at H; obtain ⟨rfl, rfl⟩ := H
  go_enter Try.func9, Try.ntmps9
  go_wp2_with (first | ((with_reducible refine gd_ 3 ?_); refine bx_ (N := 3) (cs := #[.int .u32 ab, .int .i64 ac, .slice aj aa.length ak, .int .i64 ad, .int .i64 ae, .int .i64 af, .int .i64 ag]) (t := 27) ?_; intro aq hg w10 ai hb; have an := gG_ hg HB; have am := gG_ hg HB; replace HB := hS_ HB hb; clear hb hg) | ((with_reducible refine gate_callee (f := 22) rfl ?_); refine goesL_ (some 9) rfl rfl Try.func22 (by kernel_rfl) rfl #[.float .f64 a2] rfl am_ ?_; (with_reducible refine (gauge_is.calls a2 false _ A4.out).mono ?_); rintro e w' ⟨rfl, ⟨nd, rfl⟩⟩; refine ⟨_, rfl, ?_⟩) | (go_at_call 22; (with_reducible refine (gauge_is.calls a2 false _ A4.out).mono ?_); rintro e w' ⟨rfl, ⟨nd, rfl⟩⟩))
  go_ret2
  exact ⟨er_, hB_ HB⟩

/-! ### gauge_Least: function 10 -/
def gauge_Least.l0 : Nat → Nat → Int → Int → Int → Int → List Int → Int → Int → Int → Int → Option (Int × Int)
 | 0, _, _, _, _, _, _, _, _, _, _ => none
 | k + 1, x1, x6, x7, x111000, x111001, x111002, x111003, x111004, x111005, x111006 => if x6 < x7 then ((block_Usable.f x111000 x111001 x111002 x111003 x111004 x111005 x111006).bind fun t113 => ((gauge_share.f (wrap64 (Int.tdiv (wrap64 (x6 + x7)) 2)) t113).bind fun t114 => (if (fge t114 x1) = true then (gauge_Least.l0 k x1 x6 (wrap64 (Int.tdiv (wrap64 (x6 + x7)) 2)) x111000 x111001 x111002 x111003 x111004 x111005 x111006) else (gauge_Least.l0 k x1 (wrap64 ((wrap64 (Int.tdiv (wrap64 (x6 + x7)) 2)) + 1)) x7 x111000 x111001 x111002 x111003 x111004 x111005 x111006)))) else (some (x6, 0))
def gauge_Least.f (k : Nat) (a0_0 a0_1 : Int) (l0_2 : List Int) (a0_3 a0_4 : Int) (a0_5 a0_6 : Int) (a1 : Nat) : Option (Int × Int) := (gauge_is.f a1).bind fun t111 => (if t111 = true then ((block_Usable.f a0_0 a0_1 l0_2 a0_3 a0_4 a0_5 a0_6).bind fun t112 => (gauge_Least.l0 k a1 0 t112 a0_0 a0_1 l0_2 a0_3 a0_4 a0_5 a0_6)) else (some (0, 1)))
theorem nanL_ {k : Nat} {x : Nat} {B p : Int} {H : List Int} {s w q t : Int} {r : Option (Int × Int)} (hx : Nan x) (h : gauge_Least.f k B p H s w q t fnan0_ = r) : gauge_Least.f k B p H s w q t x = r := by
  rw [← h]; unfold gauge_Least.f; rw [nan_is hx, nan_is nan0_]; rfl
theorem gauge_Least.mono_l : ∀ k, (∀ y0 y1 y2 y3 y4 y5 y6 y7 y8 y9, LeO (gauge_Least.l0 k y0 y1 y2 y3 y4 y5 y6 y7 y8 y9) (gauge_Least.l0 (k + 1) y0 y1 y2 y3 y4 y5 y6 y7 y8 y9))
 | 0 => fun _ _ _ _ _ _ _ _ _ _ r h => by simp [gauge_Least.l0] at h
 | k + 1 => by
  have ih0 := gauge_Least.mono_l k
  ·intro y0 y1 y2 y3 y4 y5 y6 y7 y8 y9
   unfold gauge_Least.l0
   repeat' (with_reducible first | apply ih0 | exact LeO.refl _ | exact LeO.none _ | refine LeO.ite ?_ ?_ | refine LeO.bind ?_ (fun _ => ?_))
theorem gauge_Least.mono : ∀ a0 a1 a2 a3 a4 a5 a6 a7 k, LeO (gauge_Least.f k a0 a1 a2 a3 a4 a5 a6 a7) (gauge_Least.f (k + 1) a0 a1 a2 a3 a4 a5 a6 a7) := by
 intro a0 a1 a2 a3 a4 a5 a6 a7 k
 have ih0 := gauge_Least.mono_l k
 unfold gauge_Least.f
 repeat' (with_reducible first | apply ih0 | exact LeO.refl _ | exact LeO.none _ | refine LeO.ite ?_ ?_ | refine LeO.bind ?_ (fun _ => ?_))
set_option maxHeartbeats 8000000 in
set_option maxRecDepth 100000 in
theorem gauge_Least.calls (k : Nat) (ab ac : Int) (an : Option Addr) (ao : Nat) (aa : List Int) (ad ae : Int) (af ag : Int) (a1 : Nat) (r1 r2 : Int) (w : World) (hr0_2 : Kd.C (Kd.int .i64) w an aa.length aa) (hc0_2 : aa.length ≤ ao) (h : gauge_Least.f k ab ac aa ad ae af ag a1 = some (r1, r2)) :
  Calls Try.prog 10 #[.agg #[.int .u32 ab, .int .i64 ac, .slice an aa.length ao, .int .i64 ad, .int .i64 ae, .int .i64 af, .int .i64 ag], .float .f64 a1] w fun e w' => e = .returned (.tuple #[.int .i64 r1, .int .i64 r2]) ∧ Below w.heap.size w w' := by
 have hu27 := Try.underlying27
 have aq := Aside0.mk hr0_2
 have ap := Aside0.mk hc0_2
 clear hr0_2 hc0_2
 have HB := Aside0.mk (Below.refl w.heap.size w)
 have H : ((gauge_is.f a1).bind fun ar => (if ar = true then ((block_Usable.f ab ac aa ad ae af ag).bind fun al => (gauge_Least.l0 k a1 0 al ab ac aa ad ae af ag)) else (some (0, 1)))) = some (r1, r2) := h
 clear h
 replace H := bi_ H
 obtain ⟨ar, A30, H⟩ := H
 replace H : (if ar = true then ((block_Usable.f ab ac aa ad ae af ag).bind fun al => (gauge_Least.l0 k a1 0 al ab ac aa ad ae af ag)) else (some (0, 1))) = some (r1, r2) := H
 have A3 := Aside0.mk A30
 clear A30
 by_cases c4 : ar = true
 ·subst c4
  have H1 : ((block_Usable.f ab ac aa ad ae af ag).bind fun al => (gauge_Least.l0 k a1 0 al ab ac aa ad ae af ag)) = some (r1, r2) := pf_ rfl H
  clear H; have H := H1; clear H1; replace H := bi_ H; obtain ⟨al, A50, H⟩ := H
  replace H : (gauge_Least.l0 k a1 0 al ab ac aa ad ae af ag) = some (r1, r2) := H
  have A5 := Aside0.mk A50; clear A50
  have H' := Aside0.mk H
  clear H
  go_enter Try.func10, Try.ntmps10
  go_wp2_with (first | ((with_reducible refine gd_ 2 ?_); refine bx_ (N := 2) (cs := #[.int .u32 ab, .int .i64 ac, .slice an aa.length ao, .int .i64 ad, .int .i64 ae, .int .i64 af, .int .i64 ag]) (t := 27) ?_; intro au hg w6 aj hb; have aK := gG_ hg HB; have aJ := gG_ hg HB; replace HB := hS_ HB hb; clear hb hg) | ((with_reducible refine gate_callee (f := 22) rfl ?_); refine goesL_ (some 10) rfl rfl Try.func22 (by kernel_rfl) rfl #[.float .f64 a1] rfl am_ ?_; (with_reducible refine (gauge_is.calls a1 true _ A3.out).mono ?_); rintro e w' ⟨rfl, ⟨nd, rfl⟩⟩; refine ⟨_, rfl, ?_⟩; obtain ⟨av, aw, ax, ay, az, aA, aB, aC, aD, aE, aF, aG, aH, aI⟩ := cz7_ (w := w6) aj) | ((with_reducible refine gate_callee (f := 23) rfl ?_); refine goesL_ (some 13) rfl rfl Try.func23 (by kernel_rfl) rfl #[.agg #[.int .u32 ab, .int .i64 ac, .slice an aa.length ao, .int .i64 ad, .int .i64 ae, .int .i64 af, .int .i64 ag]] rfl am_ ?_; (with_reducible refine (block_Usable.calls ab ac _ _ aa ad ae af ag al _ ?side1 ?side2 A5.out).mono ?_); (case side1 => exact cD_ (Kd.C_below aq.out (hB_ HB))); (case side2 => exact ap.out); rintro e w8 ⟨rfl, hb⟩; refine ⟨_, rfl, ?_⟩; replace HB := hS_ HB hb; replace aj := bB_ aj hb; (try clear hb)))
  go_loopg [6, 7] k (fun kq v6 v7 w' => ∃ (ah ai : Int), v6 = .int .i64 ah ∧ v7 = .int .i64 ai ∧ Aside0 (gauge_Least.l0 kq a1 ah ai ab ac aa ad ae af ag = some (r1, r2)) ∧ Aside0 (kq ≤ k) ∧ Aside0 (w'.heap[au]? = some (.cells #[.int .u32 ab, .int .i64 ac, (.slice an aa.length ao), .int .i64 ad, .int .i64 ae, .int .i64 af, .int .i64 ag] 27 (0, 0))) ∧ Aside0 (Below w.heap.size w w'))
  case atStart => exact ⟨(0), (al), rs_, rs_, H', ⟨Nat.le_refl _⟩, ⟨bk_ aj⟩, ⟨hB_ HB⟩⟩
  case round =>
   clear H'
   try clear c1
   try clear c2
   try clear p2
   try clear c4
   try clear av aw ax ay az aA aB
   try clear aC aD aE aF aG aH aI
   obtain ⟨ah, ai, rfl, rfl, HA, HK1, aj, HB⟩ := hrel
   cases gk with
   | zero => exact absurd HA.out (by simp [gauge_Least.l0])
   | succ k1 =>
    have H := HA.out; clear HA; simp only [gauge_Least.l0] at H
    by_cases c9 : ah < ai
    ·rw [if_pos c9] at H
     have aM : decide (ah < ai) = true := decide_eq_true c9
     clear c9; replace H := bi_ H; obtain ⟨am, A100, H⟩ := H
     replace H : ((gauge_share.f (wrap64 (Int.tdiv (wrap64 (ah + ai)) 2)) am).bind fun ak => (if (fge ak a1) = true then (gauge_Least.l0 k1 a1 ah (wrap64 (Int.tdiv (wrap64 (ah + ai)) 2)) ab ac aa ad ae af ag) else (gauge_Least.l0 k1 a1 (wrap64 ((wrap64 (Int.tdiv (wrap64 (ah + ai)) 2)) + 1)) ai ab ac aa ad ae af ag))) = some (r1, r2) := H
     have A10 := Aside0.mk A100; clear A100; replace H := bi_ H; obtain ⟨ak, A110, H⟩ := H
     replace H : (if (fge ak a1) = true then (gauge_Least.l0 k1 a1 ah (wrap64 (Int.tdiv (wrap64 (ah + ai)) 2)) ab ac aa ad ae af ag) else (gauge_Least.l0 k1 a1 (wrap64 ((wrap64 (Int.tdiv (wrap64 (ah + ai)) 2)) + 1)) ai ab ac aa ad ae af ag)) = some (r1, r2) := H
     have A11 := Aside0.mk A110; clear A110
     by_cases c12 : (fge ak a1) = true
     ·rw [if_pos c12] at H
      have aL : (fge ak a1) = true := c12
      clear c12
      have H' := Aside0.mk H
      clear H; obtain ⟨aN, aO, aP, aQ, aR, aS, aT, a2, a3, a4, a5, a6, a7, a8⟩ := cz7_ (w := wr) aj
      go_wp2_with (first | ((with_reducible refine gate_callee (f := 23) rfl ?_); refine goesL_ (some 23) rfl rfl Try.func23 (by kernel_rfl) rfl #[.agg #[.int .u32 ab, .int .i64 ac, .slice an aa.length ao, .int .i64 ad, .int .i64 ae, .int .i64 af, .int .i64 ag]] rfl am_ ?_; (with_reducible refine (block_Usable.calls ab ac _ _ aa ad ae af ag am _ ?side1 ?side2 A10.out).mono ?_); (case side1 => exact cC_ aq HB); (case side2 => exact ap.out); rintro e w14 ⟨rfl, hb⟩; refine ⟨_, rfl, ?_⟩; replace HB := hS_ HB hb; replace aj := bB_ aj hb; (try clear hb)) | ((with_reducible refine gate_callee (f := 24) rfl ?_); refine goesL_ (some 24) rfl rfl Try.func24 (by kernel_rfl) rfl #[.int .i64 (wrap64 (Int.tdiv (wrap64 (ah + ai)) 2)), .int .i64 am] rfl am_ ?_; (with_reducible refine (gauge_share.calls (wrap64 (Int.tdiv (wrap64 (ah + ai)) 2)) am ak _ A11.out).mono ?_); rintro e w' ⟨rfl, ⟨nd, rfl⟩⟩; refine ⟨_, rfl, ?_⟩) | (go_at_call 23; (with_reducible refine (gauge_share.calls (wrap64 (Int.tdiv (wrap64 (ah + ai)) 2)) am ak _ A11.out).mono ?_); rintro e w' ⟨rfl, ⟨nd, rfl⟩⟩))
      go_roundg k1
      case measure => have := HK1.out; omega
      case rel => exact ⟨(ah), (wrap64 (Int.tdiv (wrap64 (ah + ai)) 2)), rs_, rs_, H', ⟨om_ HK1⟩, ⟨bk_ aj⟩, ⟨hB_ HB⟩⟩
     ·rw [if_neg c12] at H
      have aL : (fge ak a1) = false := by simpa using c12
      clear c12
      have H' := Aside0.mk H
      clear H; obtain ⟨aU, aV, aW, aX, aY, aZ, a0, a9, ba, bb, bc, bd, be, bf⟩ := cz7_ (w := wr) aj
      go_wp2_with (first | ((with_reducible refine gate_callee (f := 23) rfl ?_); refine goesL_ (some 23) rfl rfl Try.func23 (by kernel_rfl) rfl #[.agg #[.int .u32 ab, .int .i64 ac, .slice an aa.length ao, .int .i64 ad, .int .i64 ae, .int .i64 af, .int .i64 ag]] rfl am_ ?_; (with_reducible refine (block_Usable.calls ab ac _ _ aa ad ae af ag am _ ?side1 ?side2 A10.out).mono ?_); (case side1 => exact cC_ aq HB); (case side2 => exact ap.out); rintro e w16 ⟨rfl, hb⟩; refine ⟨_, rfl, ?_⟩; replace HB := hS_ HB hb; replace aj := bB_ aj hb; (try clear hb)) | ((with_reducible refine gate_callee (f := 24) rfl ?_); refine goesL_ (some 24) rfl rfl Try.func24 (by kernel_rfl) rfl #[.int .i64 (wrap64 (Int.tdiv (wrap64 (ah + ai)) 2)), .int .i64 am] rfl am_ ?_; (with_reducible refine (gauge_share.calls (wrap64 (Int.tdiv (wrap64 (ah + ai)) 2)) am ak _ A11.out).mono ?_); rintro e w' ⟨rfl, ⟨nd, rfl⟩⟩; refine ⟨_, rfl, ?_⟩) | (go_at_call 23; (with_reducible refine (gauge_share.calls (wrap64 (Int.tdiv (wrap64 (ah + ai)) 2)) am ak _ A11.out).mono ?_); rintro e w' ⟨rfl, ⟨nd, rfl⟩⟩))
      go_roundg k1
      case measure => have := HK1.out; omega
      case rel => exact ⟨(wrap64 ((wrap64 (Int.tdiv (wrap64 (ah + ai)) 2)) + 1)), (ai), rs_, rs_, H', ⟨om_ HK1⟩, ⟨bk_ aj⟩, ⟨hB_ HB⟩⟩
    ·rw [if_neg c9] at H
     have aM : decide (ah < ai) = false := decide_eq_false c9
     clear c9; simp only [Option.some.injEq, Prod.mk.injEq] at H; obtain ⟨rfl, rfl⟩ := H
     go_wp2
     go_ret2
     exact ⟨er_, hB_ HB⟩
 ·replace c4 := Bool.eq_false_iff.mpr c4
  subst c4
  have H1 : (some (0, 1)) = some (r1, r2) := nf_ H
  clear H; have H := H1; clear H1; simp only [Option.some.injEq, Prod.mk.injEq] at H; obtain ⟨rfl, rfl⟩ := H
  go_enter Try.func10, Try.ntmps10
  go_wp2_with (first | ((with_reducible refine gd_ 2 ?_); refine bx_ (N := 2) (cs := #[.int .u32 ab, .int .i64 ac, .slice an aa.length ao, .int .i64 ad, .int .i64 ae, .int .i64 af, .int .i64 ag]) (t := 27) ?_; intro au hg w17 aj hb; have aK := gG_ hg HB; have aJ := gG_ hg HB; replace HB := hS_ HB hb; clear hb hg) | ((with_reducible refine gate_callee (f := 22) rfl ?_); refine goesL_ (some 10) rfl rfl Try.func22 (by kernel_rfl) rfl #[.float .f64 a1] rfl am_ ?_; (with_reducible refine (gauge_is.calls a1 false _ A3.out).mono ?_); rintro e w' ⟨rfl, ⟨nd, rfl⟩⟩; refine ⟨_, rfl, ?_⟩) | (go_at_call 22; (with_reducible refine (gauge_is.calls a1 false _ A3.out).mono ?_); rintro e w' ⟨rfl, ⟨nd, rfl⟩⟩))
  go_ret2
  exact ⟨er_, hB_ HB⟩

end Go.Proofs.Ytepgjabpoabjnaa.PGaugeOrder
