/- The walk of GaugeOrder, part of it: what the Go functions answer; no condition. -/
import Derived.Test.YtepgjabpoabjnaaProg
import Derived.Below
import Derived.Deep.Draws
import Derived.Deep.AppendLies
import Derived.Maps.AppendAt
import Derived.OwnWalk
import Derived.Laws.BytesArg
import Derived.Laws.MakeOwn
import Derived.Laws.OwnMore
import Derived.Deep.OwnRows
import Derived.Tactics
import Derived.Lib.ConvBytes
import Derived.Laws.Slices
import Derived.WalkKit
import Derived.KernelRfl
import Derived.RowKit3
import Derived.Deep.LoopGhost
import Derived.Deep.QuietTactic
import Derived.BigQuiet
import Derived.WideLaws
import Derived.Deep.DeepCutAuto
import Derived.Deep.CutBlock
import Derived.Deep.RegionHeld3
import Derived.Laws.Rows
import Derived.Lib.AppendStr
import Derived.ArgAppend
import Derived.Laws.IdiomCopy
import Derived.OrdersHeld
import Derived.Laws.BitsLemmas
import Derived.RowKit
import Derived.Laws.FloatArith
import Derived.Laws.CopyOwn
import Derived.Lib.Hide
import Derived.ArgAppend
import Derived.Lib.SliceRun
import Derived.Maps.OwnOps
import Derived.Maps.Views
import Derived.Test.YtepgjabpoabjnaaWWords
import Derived.Test.YtepgjabpoabjnaaWLast
import Derived.Test.YtepgjabpoabjnaaWTab
import Derived.Test.YtepgjabpoabjnaaWFour
import Derived.Test.YtepgjabpoabjnaaWQPut
import Derived.Test.YtepgjabpoabjnaaWApart
import Derived.Test.YtepgjabpoabjnaaWArr
import Derived.Test.YtepgjabpoabjnaaWZeros
import Derived.Test.YtepgjabpoabjnaaWFoot
import Derived.Test.YtepgjabpoabjnaaWKept
import Derived.Test.YtepgjabpoabjnaaWShare
import Derived.Test.YtepgjabpoabjnaaWN
import Derived.Test.YtepgjabpoabjnaaWFootNe
import Derived.Test.YtepgjabpoabjnaaWAt
import Derived.Test.YtepgjabpoabjnaaWEqStruct
import Derived.Test.YtepgjabpoabjnaaWRepsOne
import Derived.Test.YtepgjabpoabjnaaWInv
import Derived.Test.YtepgjabpoabjnaaWInvWords
import Derived.Test.YtepgjabpoabjnaaWGuard
import Derived.Test.YtepgjabpoabjnaaWNEv
import Derived.Test.YtepgjabpoabjnaaWMore
namespace Go.Proofs.Ytepgjabpoabjnaa.PGaugeOrder
open Go.RowKit Go.Proofs.YtepgjabpoabjnaaW.PrintWords Go.Proofs.YtepgjabpoabjnaaW.PrintLast Go.Proofs.YtepgjabpoabjnaaW.PrintMore
attribute [local go_sem] max2_int min2_int max_two min_two max_three min_three max_four min_four   -- for this text's walks alone
set_option linter.unusedVariables false
set_option linter.unusedSimpArgs false



def errW : Option Int → Value
  | none => .nilIface
  | some c => .iface 0 (.int .i64 c)
theorem errW_none : errW none = .nilIface := rfl
theorem errW_some (c : Int) : errW (some c) = .iface 0 (.int .i64 c) := rfl

theorem info3 : (Try.prog.info? 3).map (fun i => (i.zero, i.size, i.bytes)) = some (some (.int .i64 0), 1, 8) := by kernel_rfl
theorem info5 : (Try.prog.info? 5).map (fun i => (i.zero, i.size, i.bytes)) = some (some (.int .u8 0), 1, 1) := by kernel_rfl
-- the values' own types

/-! floats, told by their bits -/
def feq (x y : Nat) : Bool := FloatKind.f64.format.order x y == some .eq
def fne (x y : Nat) : Bool := FloatKind.f64.format.order x y != some .eq
def flt (x y : Nat) : Bool := FloatKind.f64.format.order x y == some .lt
def fle (x y : Nat) : Bool := FloatKind.f64.format.order x y == some .lt || FloatKind.f64.format.order x y == some .eq
def fgt (x y : Nat) : Bool := FloatKind.f64.format.order x y == some .gt
def fge (x y : Nat) : Bool := FloatKind.f64.format.order x y == some .gt || FloatKind.f64.format.order x y == some .eq
def fdivok (x y : Nat) : Bool := (FloatKind.f64.format.div x y).isSome
def fdiv (x y : Nat) : Nat := (FloatKind.f64.format.div x y).getD 0
def fmulok (x y : Nat) : Bool := (FloatKind.f64.format.mul x y).isSome
def fmul (x y : Nat) : Nat := (FloatKind.f64.format.mul x y).getD 0
def fneg (x : Nat) : Nat := Go.Op.negFloat .f64 x
/-- a number that is none -/
def fnan0_ : Nat := 9221120237041090561
@[go_sem high] theorem bo_feq (t : TypeId) (x y : Nat) : binOp .eql t (.float .f64 x) (.float .f64 y) = pure (.bool (feq x y)) := binOp_float_cmp_eql t .f64 x y
@[go_sem high] theorem bo_fne (t : TypeId) (x y : Nat) : binOp .neq t (.float .f64 x) (.float .f64 y) = pure (.bool (fne x y)) := binOp_float_cmp_neq t .f64 x y
@[go_sem high] theorem bo_flt (t : TypeId) (x y : Nat) : binOp .lss t (.float .f64 x) (.float .f64 y) = pure (.bool (flt x y)) := binOp_float_cmp_lss t .f64 x y
@[go_sem high] theorem bo_fle (t : TypeId) (x y : Nat) : binOp .leq t (.float .f64 x) (.float .f64 y) = pure (.bool (fle x y)) := binOp_float_cmp_leq t .f64 x y
@[go_sem high] theorem bo_fgt (t : TypeId) (x y : Nat) : binOp .gtr t (.float .f64 x) (.float .f64 y) = pure (.bool (fgt x y)) := binOp_float_cmp_gtr t .f64 x y
@[go_sem high] theorem bo_fge (t : TypeId) (x y : Nat) : binOp .geq t (.float .f64 x) (.float .f64 y) = pure (.bool (fge x y)) := binOp_float_cmp_geq t .f64 x y
@[go_sem high] theorem bo_fdiv {P : Program} {w : World} (t : TypeId) (x y : Nat) (h : fdivok x y = true) : (binOp .quo t (.float .f64 x) (.float .f64 y)).run P w = .ok (.float .f64 (fdiv x y)) w := by
  obtain ⟨r, hr⟩ := Option.isSome_iff_exists.1 h
  unfold fdiv; rw [hr]; exact run_float_arith w .quo t .f64 x y r hr
@[go_sem high] theorem bo_fmul {P : Program} {w : World} (t : TypeId) (x y : Nat) (h : fmulok x y = true) : (binOp .mul t (.float .f64 x) (.float .f64 y)).run P w = .ok (.float .f64 (fmul x y)) w := by
  obtain ⟨r, hr⟩ := Option.isSome_iff_exists.1 h
  unfold fmul; rw [hr]; exact run_float_arith w .mul t .f64 x y r hr
@[go_sem high] theorem uo_fneg (x : Nat) : Op.unary .neg (.float .f64 x) = pure (.float .f64 (fneg x)) := rfl
/-- the bits that the tape gives where a division has no answer -/
def nanof (x y : Nat) (w : World) : Nat := (Question.nanBits .f64 x y).cut (w.tape w.drawn (.nanBits .f64 x y))
@[go_sem high] theorem bo_fnan {P : Program} {w : World} (t : TypeId) (x y : Nat) (h : fdivok x y = false) : (binOp .quo t (.float .f64 x) (.float .f64 y)).run P w = .ok (.float .f64 (nanof x y w)) w.drew := by
  have hr : FloatKind.f64.format.div x y = none := by unfold fdivok at h; cases e : FloatKind.f64.format.div x y with | none => rfl | some r => rw [e] at h; simp at h
  simp [binOp, Op.floatArith, hr, nanof, Sem.run, choose, Question.forced]
def Nan (x : Nat) : Prop := ∀ y, FloatKind.f64.format.order x y = none
theorem nan_of {x : Nat} (h : 9218868437227405312 < x % 9223372036854775808) : Nan x := by
  intro y
  have e : FloatKind.f64.format.read x = .nan (x / 9223372036854775808 % 2 == 1) (x % 9223372036854775808 - 9218868437227405312) := by
    show Ieee.double.read x = _
    unfold Ieee.Format.read
    simp only [show Ieee.double.signWeight = 9223372036854775808 from rfl, show Ieee.double.binade = 4503599627370496 from rfl, show Ieee.double.infRung = 9218868437227405312 from rfl]
    rw [if_neg (by omega), if_neg (by omega), if_neg (by omega)]
  unfold Ieee.Format.order
  rw [e]; rfl
theorem nan0_ : Nan fnan0_ := nan_of (by decide)
theorem nan_nanof (x y : Nat) (w : World) : Nan (nanof x y w) := by
  refine nan_of ?_
  unfold nanof Question.cut
  generalize w.tape w.drawn (Question.nanBits FloatKind.f64 x y) = a
  show 9218868437227405312 < (a % 2 * 9223372036854775808 + 9218868437227405312 + 1 + a / 2 % 4503599627370495) % 9223372036854775808
  have hc := Nat.mod_lt (a / 2) (show 0 < 4503599627370495 by decide)
  generalize a / 2 % 4503599627370495 = c at *
  rcases Nat.mod_two_eq_zero_or_one a with h | h <;> rw [h] <;> omega
attribute [irreducible] feq fne flt fle fgt fge fdivok fdiv fmulok fmul fneg nanof
/-- 'make([]T, 0, n)': a row of one's own, of nothing yet. -/
theorem R_makecap {α : Type} {P : Program} {ops : Array Oper} {Q : Exit → Act → World → Prop} {rest : List Oper} {o : Oper} {a : Act} (d : Kd α) {w0 W : World} (base e : Nat) (hgd : o.guard = none) {M_ : Tmp} (_hd : o.dst = some M_) (t : TypeId) (x y : Operand) (ho : o.op = .makeSlice t x y) (n : Int) (hx : a.eval x = .int .i64 0) (hy : a.eval y = .int .i64 n)
    (ht : P.underlying t = some (.slice e)) (z : Value) (bytes : Nat) (hinfo : (P.info? e).map (fun i => (i.zero, i.size, i.bytes)) = some (some z, d.sz, bytes)) (z0 : α) {ok : Nat → Prop} (hfresh : ok W.heap.size) (h0 : 0 ≤ n) (hb0 : 0 < bytes) (hl : n.toNat * bytes ≤ 281474976710656) (HB : Below base w0 W) (hbase : base ≤ W.heap.size)
    (h : ∀ v1 w1, d.R e w1 base ok v1 (List.replicate 0 z0) → Below base w0 w1 → W.grownBy w1 none → (∃ b, v1.ownBlock = some b ∧ W.heap.size ≤ b) → wpList P ops Q rest (a.put o.dst v1) w1) : wpList P ops Q (o :: rest) a W := by
  obtain ⟨m, rfl⟩ := Int.eq_ofNat_of_zero_le h0
  simp only [Int.toNat_natCast] at hl
  obtain ⟨i0, hi, hzz⟩ := Option.map_eq_some_iff.1 hinfo
  simp only [Prod.mk.injEq] at hzz
  obtain ⟨hz0, hz1, hz2⟩ := hzz
  have hm : m ≤ 281474976710656 := Nat.le_trans (Nat.le_mul_of_pos_right _ hb0) hl
  have hr := run_make (P := P) W t e i0 z ht hi hz0 .i64 .i64 0 (m : Int) (by omega) (by omega)
    (by
      have h3 : ((i0.bytes * m : Nat) : Int) ≤ 281474976710656 := by rw [hz2, Nat.mul_comm]; omega
      rwa [Int.natCast_mul] at h3) (by omega)
  simp only [Int.toNat_zero, Int.toNat_natCast] at hr
  rw [hz1] at hr
  have hrun : (execOp a.eval o).run P W = .ok (.value (.slice (some ⟨W.heap.size, 0, none⟩) 0 m)) (W.alloc (.cells (madeCells z.cells (m * d.sz)) e)) := by simp [execOp, ho, hx, hy, hr]
  refine Kd.event_run hgd hrun (h _ _ ⟨fun k hk => ?_, [], World.ownsRow_made W _ m hbase (by unfold maxLen; omega) (size_madeCells _ _), Reps.none _ _⟩ (HB.alloc hbase _) (World.grownBy_alloc W _ none) ⟨W.heap.size, by simp [Value.ownBlock], Nat.le_refl _⟩)
  have : W.heap.size = k := by simpa [Value.ownBlock] using hk
  subst this
  exact hfresh

/-- The first n truths of a number's bits. -/
def tf (n m : Nat) : Array Bool := ((List.range n).map (fun i => m.testBit i)).toArray
theorem od_ {p : Prop} [Decidable p] (h : decide p = true := by first | (with_reducible assumption) | assumption) : p := of_decide_eq_true h
theorem pu_ {P : Program} {ops : Array Oper} {Q : Exit → Act → World → Prop} {md : Region.Mode} {S : World → Prop} {ds : List Nat} {T : Bool × List (List Nat × List Nat)} {i : Nat} {N : Option Tmp} {oi : Oper} {v : Value} {fuel : Nat} {l : Array Bool} {a : Act} {w : World} (l' : Array Bool)
    (hT : Aside0 (rtab md ops = T)) {a' : Act} (h : wpAnyLast P md ops Q S ds fuel l' a' w) (hi : ops[i]? = some oi := by rfl) (hN : oi.dst = N := by rfl) (hc : anyT T l.toList l'.toList i = true := by kernel_rfl)
    (hQ : ∀ (c : List PanicEntry) (a : Act) (w : World), Q (Exit.panic c) (a.put oi.dst v) w → Q (Exit.panic c) a w := by exact fun _ _ _ h => h) (hw : Region.wanted oi (yielded ops a.tmps) = true := by rfl)
    (hy : ∀ (w : World), Sem.run P (execOp a.eval oi) w = Result.ok (Next.value v) w := by (intro w'; go_simp; with_reducible rfl))
    (ha : a.put N v = a' := by (simp only [Act.put, List.setIfInBounds_toArray, List.set_cons_zero, List.set_cons_succ, i64_w, i32_w]; rfl)) : wpAnyLast P md ops Q S ds (fuel + 1) l a w :=
  pure_ l' hi hN (any_of hT.out hc) hQ (Or.inl ⟨hw, hy⟩) ha h
theorem tk_ {P : Program} {ops : Array Oper} {Q : Exit → Act → World → Prop} {md : Region.Mode} {S : World → Prop} {ds : List Nat} {T : Bool × List (List Nat × List Nat)} {B : List Nat} {i : Nat} {N : Option Tmp} {oi : Oper} {v : Value} {fuel : Nat} {l : Array Bool} {a : Act} {w : World} (l' : Array Bool)
    (hi : ops[i]? = some oi) (hN : oi.dst = N) (hT : Aside0 (rtab md ops = T)) (hB : Aside0 (waitsOk T.snd B = true)) (hS : S w) (hy : ∀ (w : World), S w → Sem.run P (execOp a.eval oi) w = Result.ok (Next.value v) w) {a' : Act} (h : wpAnyLast P md ops Q S ds fuel l' a' w)
    (hc : takeW T B ds l.toList l'.toList i = true := by kernel_rfl) (hQ : ∀ (c : List PanicEntry) (a : Act) (w : World), Q (Exit.panic c) (a.put oi.dst v) w → Q (Exit.panic c) a w := by exact fun _ _ _ h => h)
    (hw : Region.wanted oi (yielded ops a.tmps) = true := by rfl)
    (ha : a.put N v = a' := by (simp only [Act.put, List.setIfInBounds_toArray, List.set_cons_zero, List.set_cons_succ, i64_w, i32_w]; rfl)) : wpAnyLast P md ops Q S ds (fuel + 1) l a w :=
  take_ l' hi hN (take_ofW hT.out hB.out hc) hQ (Or.inl ⟨hw, hy⟩) hS ha h

theorem bB_ {w w' w1 : World} {g : Nat} {o : Obj} (hB : Aside0 (w'.heap[g]? = some o)) (hb : Below w.heap.size w w1) (h : w'.heap[g]? = some o → w.heap[g]? = some o := by intro h_; (with_reducible repeat (first | refine blk_drewN ?_ _ | refine blk_drew ?_ | refine blk_alloc ?_ _)); exact h_) : Aside0 (w1.heap[g]? = some o) := Aside0.mk (blk_below (h hB.out) hb)
theorem bk_ {w w' : World} {g : Nat} {o : Obj} (hB : Aside0 (w'.heap[g]? = some o)) (h : w'.heap[g]? = some o → w.heap[g]? = some o := by intro h_; (with_reducible repeat (first | refine blk_drewN ?_ _ | refine blk_drew ?_ | refine blk_alloc ?_ _)); exact h_) : w.heap[g]? = some o := h hB.out
theorem hB_ {B : Nat} {w w1 w2 : World} (h : Aside0 (Below B w w1)) (g : Below B w w1 → Below B w w2 := by intro h_; repeat (first | (with_reducible first | exact h_ | apply below_alloc | apply pw_below_drewN | apply below_drew1 | refine below_set ?_ (Aside0.out (by assumption))) | exact h_)) : Below B w w2 := g h.out
theorem rR_ {α : Type} {d : Kd α} {e base : Nat} {ok : Nat → Prop} {w w' : World} {v : Value} {xs : List α} (hO : Aside0 (d.R e w' base ok v xs)) (h : d.R e w' base ok v xs → d.R e w base ok v xs := by intro h_; (with_reducible repeat (first | apply Kd.R_alloc | apply Kd.R_drewN | apply Kd.R_drew)); exact h_) : d.R e w base ok v xs := h hO.out
theorem vV_ {α : Type} {d : Kd α} {e base : Nat} {ok : Nat → Prop} {w w' : World} {v : Value} {xs : List α} (hO : Aside0 (d.V e w' base ok v xs)) (h : d.V e w' base ok v xs → d.V e w base ok v xs := by intro h_; (with_reducible repeat (first | apply Kd.V_alloc | apply Kd.V_drewN | apply Kd.V_drew)); exact h_) : d.V e w base ok v xs := h hO.out
theorem am_ {p : Prop} (h : p := by (try simp only [List.map_toArray, List.map_cons, List.map_nil]); first | done | rfl | (simp only [List.length_drop, List.length_take]; rfl)) : p := h

theorem er_ {p : Prop} (h : p := by first | rfl | (simp [errW_none, errW_some] <;> rfl) | (simp [*, errW_none, errW_some] <;> rfl)) : p := h
theorem rs_ {p : Prop} (h : p := by first | rfl | (simp; done) | (simp [*]; done)) : p := h
theorem cC_ {α : Type} {d : Kd α} {w w1 w2 : World} {A : Option Addr} {n : Nat} {xs : List α} (hR : Aside0 (d.C w A n xs)) (hB : Aside0 (Below w.heap.size w w1)) (h : d.C w1 A n xs → d.C w2 A n xs := by intro h_; repeat (first | exact h_ | (with_reducible refine Kd.C_alloc ?_ _) | (with_reducible refine Kd.C_drewN ?_ _) | (with_reducible refine Kd.C_drew ?_))) : d.C w2 A n xs := h (Kd.C_below hR.out hB.out)
theorem gG_ {w w1 w2 : World} {g : Nat} (hg : g = w2.heap.size) (h : Aside0 (Below w.heap.size w w1)) (k : Below w.heap.size w w1 → Below w.heap.size w w2 := by intro h_; repeat (first | (with_reducible first | exact h_ | apply below_alloc | apply pw_below_drewN | apply below_drew1 | refine below_set ?_ (Aside0.out (by assumption))) | exact h_)) : Aside0 (w.heap.size ≤ g) := ⟨by rw [hg]; exact below_size (k h.out)⟩
theorem nL_ {w w' : World} {g g' : Nat} {o : Obj} (hg : g' = w.heap.size) (hB : Aside0 (w'.heap[g]? = some o)) (h : w'.heap[g]? = some o → w.heap[g]? = some o := by intro h_; (with_reducible repeat (first | refine blk_drewN ?_ _ | refine blk_drew ?_ | refine blk_alloc ?_ _)); exact h_) : Aside0 (g ≠ g') := ⟨by rw [hg]; exact Nat.ne_of_lt (blk_lt (h hB.out))⟩
theorem nG_ {w w' : World} {g g' : Nat} {o : Obj} (hg : g' = w.heap.size) (hB : Aside0 (w'.heap[g]? = some o)) (h : w'.heap[g]? = some o → w.heap[g]? = some o := by intro h_; (with_reducible repeat (first | refine blk_drewN ?_ _ | refine blk_drew ?_ | refine blk_alloc ?_ _)); exact h_) : Aside0 (g' ≠ g) := ⟨by rw [hg]; exact Nat.ne_of_gt (blk_lt (h hB.out))⟩
theorem cz2_ {w : World} {g : Nat} {t : TypeId} {v0 v1 : Value} (h : Aside0 (w.heap[g]? = some (.cells #[v0, v1] t (0, 0)))) : w.cell? ⟨g, 0, none⟩ = some v0 ∧ w.cell? ⟨g, 1, none⟩ = some v1 ∧ w.frozen? ⟨g, 0, none⟩ = false ∧ w.frozen? ⟨g, 1, none⟩ = false := ⟨(blk_cell h.out 0).trans rfl, (blk_cell h.out 1).trans rfl, blk_frozen h.out 0, blk_frozen h.out 1⟩
theorem cz7_ {w : World} {g : Nat} {t : TypeId} {v0 v1 v2 v3 v4 v5 v6 : Value} (h : Aside0 (w.heap[g]? = some (.cells #[v0, v1, v2, v3, v4, v5, v6] t (0, 0)))) : w.cell? ⟨g, 0, none⟩ = some v0 ∧ w.cell? ⟨g, 1, none⟩ = some v1 ∧ w.cell? ⟨g, 2, none⟩ = some v2 ∧ w.cell? ⟨g, 3, none⟩ = some v3 ∧ w.cell? ⟨g, 4, none⟩ = some v4 ∧ w.cell? ⟨g, 5, none⟩ = some v5 ∧ w.cell? ⟨g, 6, none⟩ = some v6 ∧ w.frozen? ⟨g, 0, none⟩ = false ∧ w.frozen? ⟨g, 1, none⟩ = false ∧ w.frozen? ⟨g, 2, none⟩ = false ∧ w.frozen? ⟨g, 3, none⟩ = false ∧ w.frozen? ⟨g, 4, none⟩ = false ∧ w.frozen? ⟨g, 5, none⟩ = false ∧ w.frozen? ⟨g, 6, none⟩ = false := ⟨(blk_cell h.out 0).trans rfl, (blk_cell h.out 1).trans rfl, (blk_cell h.out 2).trans rfl, (blk_cell h.out 3).trans rfl, (blk_cell h.out 4).trans rfl, (blk_cell h.out 5).trans rfl, (blk_cell h.out 6).trans rfl, blk_frozen h.out 0, blk_frozen h.out 1, blk_frozen h.out 2, blk_frozen h.out 3, blk_frozen h.out 4, blk_frozen h.out 5, blk_frozen h.out 6⟩

theorem pn_ {P : Program} {ops : Array Oper} {Q : Exit → Act → World → Prop} {md : Region.Mode} {S : World → Prop} {ds : List Nat} {T : Bool × List (List Nat × List Nat)} {i : Nat} {N : Option Tmp} {oi : Oper} {fuel : Nat} {l : Array Bool} {a : Act} {w : World} (l' : Array Bool)
  (hT : Aside0 (rtab md ops = T)) {a' : Act} (h : wpAnyLast P md ops Q S ds fuel l' a' w) (hi : ops[i]? = some oi := by rfl) (hN : oi.dst = N := by rfl) (hc : anyT T l.toList l'.toList i = true := by kernel_rfl)
  (hQ : ∀ (c : List PanicEntry) (a : Act) (w : World), Q (Exit.panic c) (a.put oi.dst undef) w → Q (Exit.panic c) a w := by exact fun _ _ _ h => h) (hw : Region.wanted oi (yielded ops a.tmps) = false := by rfl)
  (ha : a.put N undef = a' := by (simp only [Act.put, List.setIfInBounds_toArray, List.set_cons_zero, List.set_cons_succ, i64_w, i32_w]; rfl)) : wpAnyLast P md ops Q S ds (fuel + 1) l a w :=
  pure_ l' hi hN (any_of hT.out hc) hQ (Or.inr ⟨hw, rfl⟩) ha h
theorem pw_ {P : Program} {ops : Array Oper} {Q : Exit → Act → World → Prop} {md : Region.Mode} {S : World → Prop} {ds : List Nat} {T : Bool × List (List Nat × List Nat)} {i : Nat} {N : Option Tmp} {oi : Oper} {fuel : Nat} {l : Array Bool} {a : Act} {w : World} (l' : Array Bool)
  (hT : Aside0 (rtab md ops = T)) {a' : Act} (h : wpAnyLast P md ops Q S ds fuel l' a' w) (hi : ops[i]? = some oi := by rfl) (hN : oi.dst = N := by rfl) (hc : anyT T l.toList l'.toList i = true := by kernel_rfl)
  (hQ : ∀ (c : List PanicEntry) (a : Act) (w : World), Q (Exit.panic c) (a.put oi.dst undef) w → Q (Exit.panic c) a w := by exact fun _ _ _ h => h) (hw : Region.wanted oi (yielded ops a.tmps) = false := by rfl)
  (ha : a.put N undef = a' := by (simp only [Act.put, List.setIfInBounds_toArray, List.set_cons_zero, List.set_cons_succ, i64_w, i32_w, IntKind.wrap_u32, Int.add_emod_emod, Int.emod_add_emod]; rfl)) : wpAnyLast P md ops Q S ds (fuel + 1) l a w :=
  pure_ l' hi hN (any_of hT.out hc) hQ (Or.inr ⟨hw, rfl⟩) ha h
theorem pv_ {P : Program} {ops : Array Oper} {Q : Exit → Act → World → Prop} {md : Region.Mode} {S : World → Prop} {ds : List Nat} {T : Bool × List (List Nat × List Nat)} {i : Nat} {N : Option Tmp} {oi : Oper} {v : Value} {fuel : Nat} {l : Array Bool} {a : Act} {w : World} (l' : Array Bool)
  (hT : Aside0 (rtab md ops = T)) {a' : Act} (h : wpAnyLast P md ops Q S ds fuel l' a' w) (hi : ops[i]? = some oi := by rfl) (hN : oi.dst = N := by rfl) (hc : anyT T l.toList l'.toList i = true := by kernel_rfl)
  (hQ : ∀ (c : List PanicEntry) (a : Act) (w : World), Q (Exit.panic c) (a.put oi.dst v) w → Q (Exit.panic c) a w := by exact fun _ _ _ h => h) (hw : Region.wanted oi (yielded ops a.tmps) = true := by rfl)
  (hy : ∀ (w : World), Sem.run P (execOp a.eval oi) w = Result.ok (Next.value v) w := by (intro w'; go_simp; with_reducible rfl))
  (ha : a.put N v = a' := by (simp only [Act.put, List.setIfInBounds_toArray, List.set_cons_zero, List.set_cons_succ, i64_w, i32_w, IntKind.wrap_u32, Int.add_emod_emod, Int.emod_add_emod]; rfl)) : wpAnyLast P md ops Q S ds (fuel + 1) l a w :=
  pure_ l' hi hN (any_of hT.out hc) hQ (Or.inl ⟨hw, hy⟩) ha h
theorem tv_ {P : Program} {ops : Array Oper} {Q : Exit → Act → World → Prop} {md : Region.Mode} {S : World → Prop} {ds : List Nat} {T : Bool × List (List Nat × List Nat)} {B : List Nat} {i : Nat} {N : Option Tmp} {oi : Oper} {v : Value} {fuel : Nat} {l : Array Bool} {a : Act} {w : World} (l' : Array Bool)
  (hi : ops[i]? = some oi) (hN : oi.dst = N) (hT : Aside0 (rtab md ops = T)) (hB : Aside0 (waitsOk T.snd B = true)) (hS : S w) (hy : ∀ (w : World), S w → Sem.run P (execOp a.eval oi) w = Result.ok (Next.value v) w) {a' : Act} (h : wpAnyLast P md ops Q S ds fuel l' a' w)
  (hc : takeW T B ds l.toList l'.toList i = true := by kernel_rfl) (hQ : ∀ (c : List PanicEntry) (a : Act) (w : World), Q (Exit.panic c) (a.put oi.dst v) w → Q (Exit.panic c) a w := by exact fun _ _ _ h => h)
  (hw : Region.wanted oi (yielded ops a.tmps) = true := by rfl)
  (ha : a.put N v = a' := by (simp only [Act.put, List.setIfInBounds_toArray, List.set_cons_zero, List.set_cons_succ, i64_w, i32_w, IntKind.wrap_u32, Int.add_emod_emod, Int.emod_add_emod]; rfl)) : wpAnyLast P md ops Q S ds (fuel + 1) l a w :=
  take_ l' hi hN (take_ofW hT.out hB.out hc) hQ (Or.inl ⟨hw, hy⟩) hS ha h
theorem hS_ {w w1 w2 w3 : World} (h : Aside0 (Below w.heap.size w w1)) (hb : Below w2.heap.size w2 w3) (k : Below w.heap.size w w1 → Below w.heap.size w w2 := by intro h_; repeat (first | (with_reducible first | exact h_ | apply below_alloc | apply pw_below_drewN | apply below_drew1 | refine below_set ?_ (Aside0.out (by assumption))) | exact h_)) : Aside0 (Below w.heap.size w w3) := Aside0.mk (below_step (k h.out) hb)
theorem fB_ {w w' : World} {g : Nat} {o : Obj} (hB : Aside0 (w'.heap[g]? = some o)) (k : Nat) (hk : w.heap.size ≤ k) (h : w'.heap[g]? = some o → w.heap[g]? = some o := by intro h_; (with_reducible repeat (first | refine blk_drewN ?_ _ | refine blk_drew ?_ | refine blk_alloc ?_ _)); exact h_) : k ≠ g := Kd.freshB (h hB.out) k hk

theorem vB_ {α : Type} {d : Kd α} {e base : Nat} {ok : Nat → Prop} {w w' w1 : World} {v : Value} {xs : List α} (hO : Aside0 (d.V e w' base ok v xs)) (hb : Below w.heap.size w w1) (h : d.V e w' base ok v xs → d.V e w base ok v xs := by intro h_; (with_reducible repeat (first | apply Kd.V_alloc | apply Kd.V_drewN | apply Kd.V_drew)); exact h_) : Aside0 (d.V e w1 base ok v xs) := Aside0.mk (Kd.V_below (h hO.out) hb)
theorem rB_ {α : Type} {d : Kd α} {e base : Nat} {ok : Nat → Prop} {w w' w1 : World} {v : Value} {xs : List α} (hO : Aside0 (d.R e w' base ok v xs)) (hb : Below w.heap.size w w1) (h : d.R e w' base ok v xs → d.R e w base ok v xs := by intro h_; (with_reducible repeat (first | apply Kd.R_alloc | apply Kd.R_drewN | apply Kd.R_drew)); exact h_) : Aside0 (d.R e w1 base ok v xs) := Aside0.mk (Kd.R_below (h hO.out) hb)
theorem cD_ {α : Type} {d : Kd α} {w1 w2 : World} {A : Option Addr} {n : Nat} {xs : List α} (hR : d.C w1 A n xs) (h : d.C w1 A n xs → d.C w2 A n xs := by intro h_; repeat (first | exact h_ | (with_reducible refine Kd.C_alloc ?_ _) | (with_reducible refine Kd.C_drewN ?_ _) | (with_reducible refine Kd.C_drew ?_))) : d.C w2 A n xs := h hR

theorem vE_ {α : Type} {d : Kd α} {e base g : Nat} {ok : Nat → Prop} {w w' w1 : World} {v : Value} {xs : List α} (hO : Aside0 (d.V e w' base ok v xs)) (hg : g = w.heap.size) (hb : Below w.heap.size w w1) (h : d.V e w' base ok v xs → d.V e w base ok v xs := by intro h_; (with_reducible repeat (first | apply Kd.V_alloc | apply Kd.V_drewN | apply Kd.V_drew)); exact h_) : Aside0 (d.V e w1 base (fun k => ok k ∧ k ≠ g) v xs) := Aside0.mk (Kd.V_below (Kd.V_elderB (h hO.out) g (Nat.le_of_eq hg.symm)) hb)
theorem bi_ {α β : Type} {o : Option α} {f : α → Option β} {b : β} (h : o.bind f = some b) : ∃ a, o = some a ∧ f a = some b := Option.bind_eq_some_iff.mp h
theorem om_ {p q : Prop} (h : Aside0 p) (k : p → q := by intro h_; omega) : q := k h.out
theorem om2_ {p p' q : Prop} (h : Aside0 p) (h' : Aside0 p') (k : p → p' → q := by intro h_ h_'; omega) : q := k h.out h'.out
theorem dn_ {p : Prop} (h : p := by repeat (first | exact Drawn0.refl _ | apply Drawn0.step)) : p := h
theorem on_ {P : Program} {ops : Array Oper} {Q : Exit → Act → World → Prop} {md : Region.Mode} {S : World → Prop} {ds : List Nat} {T : Bool × List (List Nat × List Nat)} {i : Nat} {N : Option Tmp} {oi : Oper} {fuel : Nat} {l : Array Bool} {a : Act} {w : World} (l' : Array Bool) (hT : Aside0 (rtab md ops = T))
  (h : ∀ K : Act → World → Prop, Shut (∀ a' w', S w' → (S w' → wpAnyLast P md ops Q S ds fuel l' a' w') → K a' w') → if Region.wanted oi (yielded ops a.tmps) = true then Oper.wp P oi a w K Q else K (a.put N undef) w)
  (hi : ops[i]? = some oi := by rfl) (hN : oi.dst = N := by rfl) (hc : (readyT T.2 l.toList == [i] && l.toList.set i true == l'.toList) = true := by kernel_rfl) (hd : i ∉ ds := by decide) : wpAnyLast P md ops Q S ds (fuel + 1) l a w := one_ l' hi hN (one_of hT.out hc) hd h
theorem gL_ {P : Program} {ops : Array Oper} {Q : Exit → Act → World → Prop} {rest : List Oper} {oi : Oper} {a : Act} {w : World} (N : Option Tmp) {f : FuncId} {fn : Func} {az : Array Operand} {ts : Array TypeId} (hf : P.funcs[f]? = some fn) (args : Array Value)
  (h : Calls P f args w fun e w' => ∃ v, e = .returned v ∧ wpList P ops Q rest (a.put N v) w') (hd : oi.dst = N := by rfl) (hg : oi.guard = none := by rfl) (hname : (fn.name == "runtime.NumGoroutine") = false := by kernel_rfl) (hb : fn.body.isSome = true := by rfl)
  (hop : oi.op = .call { callee := .value (.func f), args := az, argTypes := ts } := by rfl) (hargs : az.map a.eval = args := by (try simp only [List.map_toArray, List.map_cons, List.map_nil]); first | done | rfl | (simp only [List.length_drop, List.length_take]; rfl)) : wpList P ops Q (oi :: rest) a w := goesL_ N hd hg hf hname hb args hop hargs h
theorem bx_ {P : Program} {ops : Array Oper} {Q : Exit → Act → World → Prop} {rest : List Oper} {o : Oper} {a : Act} {W : World} {N : Tmp} {cs : Array Value} {t : TypeId}
  (h : ∀ g, g = W.heap.size → ∀ w1, Aside0 (w1.heap[g]? = some (.cells cs t (0, 0))) → Below W.heap.size W w1 → wpList P ops Q rest (a.put o.dst (.pointer (some ⟨g, 0, none⟩))) w1) (hd : o.dst = some N := by rfl) (hg : o.guard = none := by rfl)
  (hrun : (execOp a.eval o).run P W = .ok (.value (.pointer (some ⟨W.heap.size, 0, none⟩))) (W.alloc (.cells cs t (0, 0))) := by first | (go_simp; done) | (go_simp; rfl)) : wpList P ops Q (o :: rest) a W := box_event hg hd hrun (fun g e w1 hc hb => h g e w1 ⟨hc⟩ hb)
theorem cl7_ {w : World} {g : Nat} {t : TypeId} {v0 v1 v2 v3 v4 v5 v6 : Value} (h : Aside0 (w.heap[g]? = some (.cells #[v0, v1, v2, v3, v4, v5, v6] t (0, 0)))) : w.cell? ⟨g, 0, none⟩ = some v0 ∧ w.cell? ⟨g, 1, none⟩ = some v1 ∧ w.cell? ⟨g, 2, none⟩ = some v2 ∧ w.cell? ⟨g, 3, none⟩ = some v3 ∧ w.cell? ⟨g, 4, none⟩ = some v4 ∧ w.cell? ⟨g, 5, none⟩ = some v5 ∧ w.cell? ⟨g, 6, none⟩ = some v6 := ⟨(blk_cell h.out 0).trans rfl, (blk_cell h.out 1).trans rfl, (blk_cell h.out 2).trans rfl, (blk_cell h.out 3).trans rfl, (blk_cell h.out 4).trans rfl, (blk_cell h.out 5).trans rfl, (blk_cell h.out 6).trans rfl⟩
theorem ck7_ {w : World} {g : Nat} {t : TypeId} {v0 v1 v2 v3 v4 v5 v6 : Value} {q : Prop} (h : Aside0 (w.heap[g]? = some (.cells #[v0, v1, v2, v3, v4, v5, v6] t (0, 0)))) (z : q) : w.cell? ⟨g, 0, none⟩ = some v0 ∧ w.cell? ⟨g, 1, none⟩ = some v1 ∧ w.cell? ⟨g, 2, none⟩ = some v2 ∧ w.cell? ⟨g, 3, none⟩ = some v3 ∧ w.cell? ⟨g, 4, none⟩ = some v4 ∧ w.cell? ⟨g, 5, none⟩ = some v5 ∧ w.cell? ⟨g, 6, none⟩ = some v6 ∧ q := ⟨(blk_cell h.out 0).trans rfl, (blk_cell h.out 1).trans rfl, (blk_cell h.out 2).trans rfl, (blk_cell h.out 3).trans rfl, (blk_cell h.out 4).trans rfl, (blk_cell h.out 5).trans rfl, (blk_cell h.out 6).trans rfl, z⟩

theorem gM_ {P : Program} {ops : Array Oper} {Q : Exit → Act → World → Prop} {rest : List Oper} {oi : Oper} {a : Act} {w : World} (N : Option Tmp) {f : FuncId} {fn : Func} {az : Array Operand} {ts : Array TypeId} {args : Array Value} {R : Ending → World → Prop} (hf : P.funcs[f]? = some fn)
  (hc : Calls P f args w R) (h : ∀ e w', R e w' → ∃ v, e = .returned v ∧ wpList P ops Q rest (a.put N v) w') (hd : oi.dst = N := by rfl) (hg : oi.guard = none := by rfl)
  (hop : oi.op = .call { callee := .value (.func f), args := az, argTypes := ts } := by rfl) (hargs : az.map a.eval = args := by (try simp only [List.map_toArray, List.map_cons, List.map_nil]); first | done | rfl | (simp only [List.length_drop, List.length_take]; rfl))
  (hname : (fn.name == "runtime.NumGoroutine") = false := by kernel_rfl) (hb : fn.body.isSome = true := by rfl) : wpList P ops Q (oi :: rest) a w := goesL_ N hd hg hf hname hb args hop hargs (hc.mono h)
theorem gN_ {P : Program} {ops : Array Oper} {Q : Exit → Act → World → Prop} {oi : Oper} {N : Option Tmp} {a : Act} {w : World} {K : Act → World → Prop} {f : FuncId} {fn : Func} {az : Array Operand} {ts : Array TypeId} {args : Array Value} {R : Ending → World → Prop} (hf : P.funcs[f]? = some fn)
  (hc : Calls P f args w R) (h : ∀ e w', R e w' → ∃ v, e = .returned v ∧ K (a.put N v) w') (hw : Region.wanted oi (yielded ops a.tmps) = true := by rfl) (hN : oi.dst = N := by rfl) (hop : oi.op = .call { callee := .value (.func f), args := az, argTypes := ts } := by rfl)
  (hargs : az.map a.eval = args := by (try simp only [List.map_toArray, List.map_cons, List.map_nil]); first | done | rfl | (simp only [List.length_drop, List.length_take]; rfl))
  (hname : (fn.name == "runtime.NumGoroutine") = false := by kernel_rfl) (hb : fn.body.isSome = true := by rfl) : if Region.wanted oi (yielded ops a.tmps) = true then Oper.wp P oi a w K Q else K (a.put N undef) w := goes_ hf hname hb args hw hN hop hargs (hc.mono h)

theorem bp_ {w w' : World} {g : Nat} {o : Obj} (h : w'.heap[g]? = some o) (k : w'.heap[g]? = some o → w.heap[g]? = some o := by intro h_; (with_reducible repeat (first | refine blk_drewN ?_ _ | refine blk_drew ?_ | refine blk_alloc ?_ _)); exact h_) : w.heap[g]? = some o := k h
theorem nl_ {p : Prop} (h : p := by first | exact Kd.R_nil _ _ _ _ _ | exact Kd.N_nil _ _ _ _ _ | exact Kd.V_nil _ _ _ _ _ | exact Kd.Q_nil _ _ _ _ _ | exact Kd.S_nil _ _ _ _ _) : p := h
theorem nf_ {α : Type} {a b r : α} (H : (if false = true then a else b) = r) : b = r := by rw [if_neg (show ¬ (false = true) by decide)] at H; exact H
theorem pf_ {p : Prop} [Decidable p] {α : Type} {a b r : α} (c : p) (H : (if p then a else b) = r) : a = r := by rw [if_pos c] at H; exact H
theorem rp_ {p q : Prop} {α : Type} {y z : α} (e : y = z) (H : p) (k : y = z → p → q := by intro e_ H_; first | (rw [e_]; with_reducible exact H_) | (have H2_ := (Option.bind_some _ _).symm.trans H_; rw [e_]; with_reducible exact H2_) | (have H2_ := (Option.bind_some _ _).symm.trans H_; with_reducible exact H2_) | with_reducible exact H_ | (rw [e_]; exact H_) | exact H_) : q := k e H
theorem gd_ {P : Program} {ops : Array Oper} {Q : Exit → Act → World → Prop} {rest : List Oper} {o : Oper} {a : Act} {W : World} (N : Tmp) (h : wpList P ops Q (o :: rest) a W) (hN : o.dst = some N := by rfl) : wpList P ops Q (o :: rest) a W := h
abbrev P7_ (w : World) (g : Nat) (v0 v1 v2 v3 v4 v5 v6 : Value) (q : Prop) : Prop := w.cell? ⟨g, 0, none⟩ = some v0 ∧ w.cell? ⟨g, 1, none⟩ = some v1 ∧ w.cell? ⟨g, 2, none⟩ = some v2 ∧ w.cell? ⟨g, 3, none⟩ = some v3 ∧ w.cell? ⟨g, 4, none⟩ = some v4 ∧ w.cell? ⟨g, 5, none⟩ = some v5 ∧ w.cell? ⟨g, 6, none⟩ = some v6 ∧ q
abbrev L7_ (w : World) (g : Nat) (v0 v1 v2 v3 v4 v5 v6 : Value) : Prop := w.cell? ⟨g, 0, none⟩ = some v0 ∧ w.cell? ⟨g, 1, none⟩ = some v1 ∧ w.cell? ⟨g, 2, none⟩ = some v2 ∧ w.cell? ⟨g, 3, none⟩ = some v3 ∧ w.cell? ⟨g, 4, none⟩ = some v4 ∧ w.cell? ⟨g, 5, none⟩ = some v5 ∧ w.cell? ⟨g, 6, none⟩ = some v6
theorem bS7_ {w : World} {g : Nat} {t : TypeId} {o0 o1 o2 o3 o4 o5 o6 v0 v1 v2 v3 v4 v5 v6 : Value} (h : w.heap[g]? = some (.cells #[o0, o1, o2, o3, o4, o5, o6] t (0, 0))) : (((((((w.setCell ⟨g, 0, none⟩ v0).setCell ⟨g, 1, none⟩ v1).setCell ⟨g, 2, none⟩ v2).setCell ⟨g, 3, none⟩ v3).setCell ⟨g, 4, none⟩ v4).setCell ⟨g, 5, none⟩ v5).setCell ⟨g, 6, none⟩ v6).heap[g]? = some (.cells #[v0, v1, v2, v3, v4, v5, v6] t (0, 0)) := (blk_put (cs := #[v0, v1, v2, v3, v4, v5, o6]) (cs' := #[v0, v1, v2, v3, v4, v5, v6]) (blk_put (cs := #[v0, v1, v2, v3, v4, o5, o6]) (cs' := #[v0, v1, v2, v3, v4, v5, o6]) (blk_put (cs := #[v0, v1, v2, v3, o4, o5, o6]) (cs' := #[v0, v1, v2, v3, v4, o5, o6]) (blk_put (cs := #[v0, v1, v2, o3, o4, o5, o6]) (cs' := #[v0, v1, v2, v3, o4, o5, o6]) (blk_put (cs := #[v0, v1, o2, o3, o4, o5, o6]) (cs' := #[v0, v1, v2, o3, o4, o5, o6]) (blk_put (cs := #[v0, o1, o2, o3, o4, o5, o6]) (cs' := #[v0, v1, o2, o3, o4, o5, o6]) (blk_put (cs := #[o0, o1, o2, o3, o4, o5, o6]) (cs' := #[v0, o1, o2, o3, o4, o5, o6]) h 0 v0 rfl) 1 v1 rfl) 2 v2 rfl) 3 v3 rfl) 4 v4 rfl) 5 v5 rfl) 6 v6 rfl)
theorem bF7_ {w : World} {g b : Nat} {t : TypeId} {cs : Array Value} {v0 v1 v2 v3 v4 v5 v6 : Value} (h : w.heap[g]? = some (.cells cs t (0, 0))) (hn : g ≠ b) : (((((((w.setCell ⟨b, 0, none⟩ v0).setCell ⟨b, 1, none⟩ v1).setCell ⟨b, 2, none⟩ v2).setCell ⟨b, 3, none⟩ v3).setCell ⟨b, 4, none⟩ v4).setCell ⟨b, 5, none⟩ v5).setCell ⟨b, 6, none⟩ v6).heap[g]? = some (.cells cs t (0, 0)) := (blk_far (p := ⟨b, 6, none⟩) (blk_far (p := ⟨b, 5, none⟩) (blk_far (p := ⟨b, 4, none⟩) (blk_far (p := ⟨b, 3, none⟩) (blk_far (p := ⟨b, 2, none⟩) (blk_far (p := ⟨b, 1, none⟩) (blk_far (p := ⟨b, 0, none⟩) h hn v0) hn v1) hn v2) hn v3) hn v4) hn v5) hn v6)
theorem puU_ {P : Program} {ops : Array Oper} {Q : Exit → Act → World → Prop} {md : Region.Mode} {S : World → Prop} {ds : List Nat} {T : Bool × List (List Nat × List Nat)} (i n : Nat) {oi : Oper} {v : Value} {fuel : Nat} {l : Array Bool} {a : Act} {w : World} (l' : Array Bool)
    (hT : Aside0 (rtab md ops = T)) {a' : Act} (h : wpAnyLast P md ops Q S ds fuel l' a' w) (hi : ops[i]? = some oi := by rfl) (hN : oi.dst = some n := by rfl) (hc : anyT T l.toList l'.toList i = true := by kernel_rfl)
    (hQ : ∀ (c : List PanicEntry) (a : Act) (w : World), Q (Exit.panic c) (a.put oi.dst v) w → Q (Exit.panic c) a w := by exact fun _ _ _ h => h) (hw : Region.wanted oi (yielded ops a.tmps) = true := by rfl)
    (hy : ∀ (w : World), Sem.run P (execOp a.eval oi) w = Result.ok (Next.value v) w := by (intro w'; go_simp; with_reducible rfl))
    (ha : a.put (some n) v = a' := by (simp only [Act.put, List.setIfInBounds_toArray, List.set_cons_zero, List.set_cons_succ, i64_w, i32_w]; rfl)) : wpAnyLast P md ops Q S ds (fuel + 1) l a w :=
  pure_ l' hi hN (any_of hT.out hc) hQ (Or.inl ⟨hw, hy⟩) ha h
theorem pnU_ {P : Program} {ops : Array Oper} {Q : Exit → Act → World → Prop} {md : Region.Mode} {S : World → Prop} {ds : List Nat} {T : Bool × List (List Nat × List Nat)} (i n : Nat) {oi : Oper} {fuel : Nat} {l : Array Bool} {a : Act} {w : World} (l' : Array Bool)
  (hT : Aside0 (rtab md ops = T)) {a' : Act} (h : wpAnyLast P md ops Q S ds fuel l' a' w) (hi : ops[i]? = some oi := by rfl) (hN : oi.dst = some n := by rfl) (hc : anyT T l.toList l'.toList i = true := by kernel_rfl)
  (hQ : ∀ (c : List PanicEntry) (a : Act) (w : World), Q (Exit.panic c) (a.put oi.dst undef) w → Q (Exit.panic c) a w := by exact fun _ _ _ h => h) (hw : Region.wanted oi (yielded ops a.tmps) = false := by rfl)
  (ha : a.put (some n) undef = a' := by (simp only [Act.put, List.setIfInBounds_toArray, List.set_cons_zero, List.set_cons_succ, i64_w, i32_w]; rfl)) : wpAnyLast P md ops Q S ds (fuel + 1) l a w :=
  pure_ l' hi hN (any_of hT.out hc) hQ (Or.inr ⟨hw, rfl⟩) ha h
theorem pvU_ {P : Program} {ops : Array Oper} {Q : Exit → Act → World → Prop} {md : Region.Mode} {S : World → Prop} {ds : List Nat} {T : Bool × List (List Nat × List Nat)} (i n : Nat) {oi : Oper} {v : Value} {fuel : Nat} {l : Array Bool} {a : Act} {w : World} (l' : Array Bool)
  (hT : Aside0 (rtab md ops = T)) {a' : Act} (h : wpAnyLast P md ops Q S ds fuel l' a' w) (hi : ops[i]? = some oi := by rfl) (hN : oi.dst = some n := by rfl) (hc : anyT T l.toList l'.toList i = true := by kernel_rfl)
  (hQ : ∀ (c : List PanicEntry) (a : Act) (w : World), Q (Exit.panic c) (a.put oi.dst v) w → Q (Exit.panic c) a w := by exact fun _ _ _ h => h) (hw : Region.wanted oi (yielded ops a.tmps) = true := by rfl)
  (hy : ∀ (w : World), Sem.run P (execOp a.eval oi) w = Result.ok (Next.value v) w := by (intro w'; go_simp; with_reducible rfl))
  (ha : a.put (some n) v = a' := by (simp only [Act.put, List.setIfInBounds_toArray, List.set_cons_zero, List.set_cons_succ, i64_w, i32_w, IntKind.wrap_u32, Int.add_emod_emod, Int.emod_add_emod]; rfl)) : wpAnyLast P md ops Q S ds (fuel + 1) l a w :=
  pure_ l' hi hN (any_of hT.out hc) hQ (Or.inl ⟨hw, hy⟩) ha h
theorem pwU_ {P : Program} {ops : Array Oper} {Q : Exit → Act → World → Prop} {md : Region.Mode} {S : World → Prop} {ds : List Nat} {T : Bool × List (List Nat × List Nat)} (i n : Nat) {oi : Oper} {fuel : Nat} {l : Array Bool} {a : Act} {w : World} (l' : Array Bool)
  (hT : Aside0 (rtab md ops = T)) {a' : Act} (h : wpAnyLast P md ops Q S ds fuel l' a' w) (hi : ops[i]? = some oi := by rfl) (hN : oi.dst = some n := by rfl) (hc : anyT T l.toList l'.toList i = true := by kernel_rfl)
  (hQ : ∀ (c : List PanicEntry) (a : Act) (w : World), Q (Exit.panic c) (a.put oi.dst undef) w → Q (Exit.panic c) a w := by exact fun _ _ _ h => h) (hw : Region.wanted oi (yielded ops a.tmps) = false := by rfl)
  (ha : a.put (some n) undef = a' := by (simp only [Act.put, List.setIfInBounds_toArray, List.set_cons_zero, List.set_cons_succ, i64_w, i32_w, IntKind.wrap_u32, Int.add_emod_emod, Int.emod_add_emod]; rfl)) : wpAnyLast P md ops Q S ds (fuel + 1) l a w :=
  pure_ l' hi hN (any_of hT.out hc) hQ (Or.inr ⟨hw, rfl⟩) ha h
theorem tkU_ {P : Program} {ops : Array Oper} {Q : Exit → Act → World → Prop} {md : Region.Mode} {S : World → Prop} {ds : List Nat} {T : Bool × List (List Nat × List Nat)} {B : List Nat} (i n : Nat) {oi : Oper} {v : Value} {fuel : Nat} {l : Array Bool} {a : Act} {w : World} (l' : Array Bool)
    (hi : ops[i]? = some oi) (hN : oi.dst = some n) (hT : Aside0 (rtab md ops = T)) (hB : Aside0 (waitsOk T.snd B = true)) (hS : S w) (hy : ∀ (w : World), S w → Sem.run P (execOp a.eval oi) w = Result.ok (Next.value v) w) {a' : Act} (h : wpAnyLast P md ops Q S ds fuel l' a' w)
    (hc : takeW T B ds l.toList l'.toList i = true := by kernel_rfl) (hQ : ∀ (c : List PanicEntry) (a : Act) (w : World), Q (Exit.panic c) (a.put oi.dst v) w → Q (Exit.panic c) a w := by exact fun _ _ _ h => h)
    (hw : Region.wanted oi (yielded ops a.tmps) = true := by rfl)
    (ha : a.put (some n) v = a' := by (simp only [Act.put, List.setIfInBounds_toArray, List.set_cons_zero, List.set_cons_succ, i64_w, i32_w]; rfl)) : wpAnyLast P md ops Q S ds (fuel + 1) l a w :=
  take_ l' hi hN (take_ofW hT.out hB.out hc) hQ (Or.inl ⟨hw, hy⟩) hS ha h
theorem tvU_ {P : Program} {ops : Array Oper} {Q : Exit → Act → World → Prop} {md : Region.Mode} {S : World → Prop} {ds : List Nat} {T : Bool × List (List Nat × List Nat)} {B : List Nat} (i n : Nat) {oi : Oper} {v : Value} {fuel : Nat} {l : Array Bool} {a : Act} {w : World} (l' : Array Bool)
  (hi : ops[i]? = some oi) (hN : oi.dst = some n) (hT : Aside0 (rtab md ops = T)) (hB : Aside0 (waitsOk T.snd B = true)) (hS : S w) (hy : ∀ (w : World), S w → Sem.run P (execOp a.eval oi) w = Result.ok (Next.value v) w) {a' : Act} (h : wpAnyLast P md ops Q S ds fuel l' a' w)
  (hc : takeW T B ds l.toList l'.toList i = true := by kernel_rfl) (hQ : ∀ (c : List PanicEntry) (a : Act) (w : World), Q (Exit.panic c) (a.put oi.dst v) w → Q (Exit.panic c) a w := by exact fun _ _ _ h => h)
  (hw : Region.wanted oi (yielded ops a.tmps) = true := by rfl)
  (ha : a.put (some n) v = a' := by (simp only [Act.put, List.setIfInBounds_toArray, List.set_cons_zero, List.set_cons_succ, i64_w, i32_w, IntKind.wrap_u32, Int.add_emod_emod, Int.emod_add_emod]; rfl)) : wpAnyLast P md ops Q S ds (fuel + 1) l a w :=
  take_ l' hi hN (take_ofW hT.out hB.out hc) hQ (Or.inl ⟨hw, hy⟩) hS ha h

end Go.Proofs.Ytepgjabpoabjnaa.PGaugeOrder
