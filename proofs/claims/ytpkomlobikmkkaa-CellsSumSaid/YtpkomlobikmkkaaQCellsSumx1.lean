/- The walk of CellsSum, part of it: what the Go functions answer; no condition. -/
import Derived.Test.YtpkomlobikmkkaaQCellsSumx0
namespace Go.Proofs.Ytpkomlobikmkkaa.PCellsSum
open Go.RowKit Go.Proofs.YtpkomlobikmkkaaW.PrintWords Go.Proofs.YtpkomlobikmkkaaW.PrintLast Go.Proofs.YtpkomlobikmkkaaW.PrintMore
attribute [local go_sem] max2_int min2_int max_two min_two max_three min_three max_four min_four   -- for this text's walks alone
set_option linter.unusedVariables false
set_option linter.unusedSimpArgs false

/-! ### cells_is: function 35 -/
def cells_is.f (l0 : List Int) (a1 : Int) : Option (Bool) := if a1 ≥ 0 then (some (decide (a1 < (l0.length : Int)))) else (some false)
set_option maxHeartbeats 8000000 in
set_option maxRecDepth 100000 in
theorem cells_is.calls (A0 : Option Addr) (c0 : Nat) (l0 : List Int) (a1 : Int) (r : Bool) (w : World) (hr0 : Kd.C (Kd.int .u64) w A0 l0.length l0) (hc0 : l0.length ≤ c0) (h : cells_is.f l0 a1 = some r) :
    Calls Try.prog 35 #[.slice A0 l0.length c0, .int .i64 a1] w fun e w' => e = .returned (.bool r) ∧ Drawn0 w w' := by
  have HR0 := Aside0.mk hr0
  have HC0 := Aside0.mk hc0
  clear hr0 hc0
  have H : (if a1 ≥ 0 then (some (decide (a1 < (l0.length : Int)))) else (some false)) = some r := h
  clear h
  by_cases c3 : a1 ≥ 0
  · rw [if_pos c3] at H
    have c3b0 : decide (0 ≤ a1) = true := decide_eq_true c3
    clear c3
    obtain rfl := Option.some.inj H
    go_enter Try.func35, Try.ntmps35
    go_wp2
    go_ret
    exact ⟨by first | rfl | (simp; done) | (simp [*]; done), by repeat (first | exact Drawn0.refl _ | apply Drawn0.step)⟩
  · rw [if_neg c3] at H
    have c3b0 : decide (0 ≤ a1) = false := decide_eq_false c3
    clear c3
    obtain rfl := Option.some.inj H
    go_enter Try.func35, Try.ntmps35
    go_wp2
    go_ret
    exact ⟨by first | rfl | (simp; done) | (simp [*]; done), by repeat (first | exact Drawn0.refl _ | apply Drawn0.step)⟩

theorem owned_heap {w : World} {base e g n : Nat} {xs : List Value} (h : w.ownsRow base e 1 (.slice (some ⟨g, 0, none⟩) n n) n xs) : ∃ cur : List Value, w.heap[g]? = some (.cells cur.toArray e (0, 0)) ∧ cur.length = n := by
  obtain ⟨_, h⟩ := h
  rcases h with ⟨h, _⟩ | ⟨g', cap, cur, he, _, hh, _, _, hc, _⟩
  · cases h
  · simp only [Value.slice.injEq, Option.some.injEq, Addr.mk.injEq] at he
    obtain ⟨⟨rfl, _⟩, _, rfl⟩ := he
    exact ⟨cur.toList, by simpa using hh, by simpa using hc⟩
theorem splice_all (L cs : List Value) (h : L.length = cs.length) : splice L 0 cs = cs := by
  unfold splice; simp [← h]
theorem below_of_grown {w w' : World} (h : w.grownBy w' none) : Below w.heap.size w w' := pw_below_grown (Below.refl _ _) none (Nat.le_refl _) h (fun k e => by cases e)
theorem nums_at {w w2 : World} {A0 : Option Addr} {l0 : List Int} (hr0 : Kd.C (Kd.int .u64) w A0 l0.length l0) (hb : Below w.heap.size w w2) (h0 : 0 < (nums .u64 l0).length) : ∃ ad, A0 = some ad ∧ ∀ j v, (nums .u64 l0)[j]? = some v → w2.cell? (ad.add j) = some v := by
  rw [nums_length] at h0
  obtain ⟨ad, rfl, _⟩ := Kd.at_int hr0 0 (by omega) (by omega)
  refine ⟨ad, rfl, fun j v hj => ?_⟩
  have hj' : j < l0.length := by have := (List.getElem?_eq_some_iff.1 hj).1; rwa [nums_length] at this
  obtain ⟨ad', e, hc⟩ := Kd.at_int hr0 (j : Int) (by omega) (by omega)
  injection e with e
  subst e
  rw [Int.toNat_natCast] at hc
  rw [(hb.cell (World.block_lt_of_cell? w _ hc)).trans hc]
  simp only [nums, List.getElem?_map, List.getElem?_eq_getElem hj', Option.map_some, Option.some.injEq] at hj
  rw [← hj]
  simp [rd, List.getD_eq_getElem?_getD, hj']
theorem nums_get (l0 : List Int) {a1 : Int} (h0 : 0 ≤ a1) (h1 : a1 < (l0.length : Int)) : (nums .u64 l0).toArray[a1.toNat]? = some (.int .u64 (rd l0 a1)) := by
  have hj : a1.toNat < l0.length := by omega
  simp [nums, rd, List.getD_eq_getElem?_getD, hj]
theorem fin_row {W : World} {g n base e : Nat} {cs : List Value} {xs : List Int} (hh : W.heap[g]? = some (.cells cs.toArray e (0, 0))) (hcs : cs = nums .u64 xs) (hn : xs.length = n) (hm : n ≤ maxLen) (hg : base ≤ g) : Kd.R (Kd.int .u64) e W base (fun _ => True) (.slice (some ⟨g, 0, none⟩) n n) xs := by
  subst hcs
  subst hn
  refine Kd.R_of_own (enc := Value.int .u64) ⟨by simp [encs], .inr ⟨g, xs.length, (nums .u64 xs).toArray, rfl, hg, hh, Nat.le_refl _, hm, by simp [nums], ?_⟩⟩ (fun _ _ => trivial)
  simp [nums, encs]
  exact List.take_of_length_le (by simp)
theorem nums_one (l0 : List Int) : ∀ v ∈ nums .u64 l0, v.oneCell' = true := by
  intro v hv
  simp only [nums, List.mem_map] at hv
  obtain ⟨x, _, rfl⟩ := hv
  rfl
set_option maxHeartbeats 4000000 in
set_option maxRecDepth 100000 in
theorem turn_store (A0 : Option Addr) (c0 : Nat) (l0 : List Int) (a1 a2 : Int) (b : Nat) (w : World) (hr0 : Kd.C (Kd.int .u64) w A0 l0.length l0) (hb : w.cell? ⟨b, 0, none⟩ = some (.int .u64 a2)) (h0 : 0 ≤ a1) (h1 : a1 < (l0.length : Int)) (hsz : l0.length * 8 ≤ 281474976710656) :
    Calls Try.prog 36 #[.slice A0 l0.length c0, .int .i64 a1, .func (.func 37) #[] #[.pointer (some ⟨b, 0, none⟩)]] w fun e w' => ∃ v, e = .returned v ∧ Kd.R (Kd.int .u64) 23 w' w.heap.size (fun _ => True) v (l0.set a1.toNat a2) ∧ Below w.heap.size w w' := by
  have hinfo : (Try.prog.info? 23).map (fun i => (i.zero, i.size, i.bytes)) = some (some (.int .u64 0), 1, 8) := by kernel_rfl
  obtain ⟨i23, hi, hi2⟩ := Option.map_eq_some_iff.1 hinfo
  clear hinfo
  simp only [Prod.mk.injEq] at hi2
  obtain ⟨hz, hs, hby⟩ := hi2
  have hb2 : i23.bytes * l0.length ≤ 281474976710656 := by rw [hby]; omega
  have hb3 : l0.length ≤ maxLen := by unfold maxLen; omega
  have HI := Aside0.mk hi
  have HZ := Aside0.mk hz
  have HS := Aside0.mk hs
  have HB2 := Aside0.mk hb2
  have HB3 := Aside0.mk hb3
  have HR := Aside0.mk hr0
  have HSZ : Aside0 ((Try.prog.info? 23).map (·.size) = some 1) := ⟨by rw [hi]; simp [hs]⟩
  clear hi hz hs hby hb2 hb3 hr0
  go_enter Try.func36, Try.ntmps36
  go_wp2_with (first | go_in | (at_make; refine wpList_make_full _ rfl (.tmp 14) (.tmp 14) 22 rfl w.heap.size 23 i23 (.int .u64 0) 1 Try.underlying22 HI.out HZ.out HS.out .i64 .i64 l0.length l0.length l0.length rfl rfl rfl rfl HB2.out HB3.out (Nat.le_refl _) ?_; intro w2 HO HG; have HB2_ := Aside0.mk (below_of_grown HG); obtain ⟨cur, hcur, hlen⟩ := owned_heap HO; have HCUR := Aside0.mk hcur; have HLEN := Aside0.mk hlen; clear HO HG hcur hlen) | ((with_reducible refine gate_dst (N := 18) rfl ?_); refine wpList_copy_splice rfl (.tmp 16) (.tmp 17) 22 22 rfl 23 Try.underlying22 HSZ.out (some ⟨w.heap.size, 0, none⟩) A0 l0.length l0.length l0.length c0 rfl rfl w.heap.size 0 cur 23 HCUR.out (nums .u64 l0) (by rw [nums_length]; exact (Nat.min_self _).symm) (fun h => ⟨rfl, nums_at HR.out HB2_.out h⟩) (by rw [nums_length, HLEN.out]; omega) (nums_one l0) w.heap.size w HB2_.out (Nat.le_refl _) ?_; intro w3 hh3 hb3; rw [splice_all _ _ (by rw [nums_length, HLEN.out])] at hh3; have HB3_ := Aside0.mk hb3; have HH3 := Aside0.mk hh3.out; have hc1 := (blk_cell hh3.out a1.toNat).trans (nums_get l0 h0 h1); have hf1 := blk_frozen hh3.out a1.toNat; have hcb := pw_cell_below hb3 hb; clear hb3 hh3))
  go_ret
  refine ⟨_, rfl, ?_, ?_⟩
  · refine fin_row (cs := nums .u64 (l0.set a1.toNat a2)) ?_ rfl (by simp) HB3.out (Nat.le_refl _)
    have := blk_set HH3.out a1.toNat (.int .u64 a2)
    rw [show (nums .u64 (l0.set a1.toNat a2)).toArray = (nums .u64 l0).toArray.setIfInBounds a1.toNat (.int .u64 a2) by simp [nums, List.map_set]]
    first | exact this | simpa using this
  · exact HB3_.out.setCell (Nat.le_refl _) _
set_option maxHeartbeats 4000000 in
set_option maxRecDepth 100000 in
theorem turn_add (A0 : Option Addr) (c0 : Nat) (l0 : List Int) (a1 a2 : Int) (b : Nat) (w : World) (hr0 : Kd.C (Kd.int .u64) w A0 l0.length l0) (hb : w.cell? ⟨b, 0, none⟩ = some (.int .u64 a2)) (h0 : 0 ≤ a1) (h1 : a1 < (l0.length : Int)) (hsz : l0.length * 8 ≤ 281474976710656) :
    Calls Try.prog 36 #[.slice A0 l0.length c0, .int .i64 a1, .func (.func 38) #[] #[.pointer (some ⟨b, 0, none⟩)]] w fun e w' => ∃ v, e = .returned v ∧ Kd.R (Kd.int .u64) 23 w' w.heap.size (fun _ => True) v (l0.set a1.toNat (IntKind.u64.wrap (rd l0 a1 + a2))) ∧ Below w.heap.size w w' := by
  have hinfo : (Try.prog.info? 23).map (fun i => (i.zero, i.size, i.bytes)) = some (some (.int .u64 0), 1, 8) := by kernel_rfl
  obtain ⟨i23, hi, hi2⟩ := Option.map_eq_some_iff.1 hinfo
  clear hinfo
  simp only [Prod.mk.injEq] at hi2
  obtain ⟨hz, hs, hby⟩ := hi2
  have hb2 : i23.bytes * l0.length ≤ 281474976710656 := by rw [hby]; omega
  have hb3 : l0.length ≤ maxLen := by unfold maxLen; omega
  have HI := Aside0.mk hi
  have HZ := Aside0.mk hz
  have HS := Aside0.mk hs
  have HB2 := Aside0.mk hb2
  have HB3 := Aside0.mk hb3
  have HR := Aside0.mk hr0
  have HSZ : Aside0 ((Try.prog.info? 23).map (·.size) = some 1) := ⟨by rw [hi]; simp [hs]⟩
  clear hi hz hs hby hb2 hb3 hr0
  go_enter Try.func36, Try.ntmps36
  go_wp2_with (first | go_in | (at_make; refine wpList_make_full _ rfl (.tmp 14) (.tmp 14) 22 rfl w.heap.size 23 i23 (.int .u64 0) 1 Try.underlying22 HI.out HZ.out HS.out .i64 .i64 l0.length l0.length l0.length rfl rfl rfl rfl HB2.out HB3.out (Nat.le_refl _) ?_; intro w2 HO HG; have HB2_ := Aside0.mk (below_of_grown HG); obtain ⟨cur, hcur, hlen⟩ := owned_heap HO; have HCUR := Aside0.mk hcur; have HLEN := Aside0.mk hlen; clear HO HG hcur hlen) | ((with_reducible refine gate_dst (N := 18) rfl ?_); refine wpList_copy_splice rfl (.tmp 16) (.tmp 17) 22 22 rfl 23 Try.underlying22 HSZ.out (some ⟨w.heap.size, 0, none⟩) A0 l0.length l0.length l0.length c0 rfl rfl w.heap.size 0 cur 23 HCUR.out (nums .u64 l0) (by rw [nums_length]; exact (Nat.min_self _).symm) (fun h => ⟨rfl, nums_at HR.out HB2_.out h⟩) (by rw [nums_length, HLEN.out]; omega) (nums_one l0) w.heap.size w HB2_.out (Nat.le_refl _) ?_; intro w3 hh3 hb3; rw [splice_all _ _ (by rw [nums_length, HLEN.out])] at hh3; have HB3_ := Aside0.mk hb3; have HH3 := Aside0.mk hh3.out; have hc1 := (blk_cell hh3.out a1.toNat).trans (nums_get l0 h0 h1); have hf1 := blk_frozen hh3.out a1.toNat; have hcb := pw_cell_below hb3 hb; clear hb3 hh3))
  go_ret
  refine ⟨_, rfl, ?_, ?_⟩
  · refine fin_row (cs := nums .u64 (l0.set a1.toNat (IntKind.u64.wrap (rd l0 a1 + a2)))) ?_ rfl (by simp) HB3.out (Nat.le_refl _)
    have := blk_set HH3.out a1.toNat (.int .u64 (IntKind.u64.wrap (rd l0 a1 + a2)))
    rw [show (nums .u64 (l0.set a1.toNat (IntKind.u64.wrap (rd l0 a1 + a2)))).toArray = (nums .u64 l0).toArray.setIfInBounds a1.toNat (.int .u64 (IntKind.u64.wrap (rd l0 a1 + a2))) by simp [nums, List.map_set]]
    first | exact this | simpa using this
  · exact HB3_.out.setCell (Nat.le_refl _) _
set_option maxHeartbeats 4000000 in
set_option maxRecDepth 100000 in
theorem turn_out (A0 : Option Addr) (c0 : Nat) (l0 : List Int) (a1 : Int) (fv : Value) (w : World) (hc : l0.length ≤ maxLen) (h : a1 < 0 ∨ (0 ≤ a1 ∧ (l0.length : Int) ≤ a1)) :
    Calls Try.prog 36 #[.slice A0 l0.length c0, .int .i64 a1, fv] w fun e w' => e = .returned (.slice A0 l0.length c0) ∧ Drawn0 w w' := by
  unfold maxLen at hc
  rcases h with h | ⟨h1, h2⟩
  · go_enter Try.func36, Try.ntmps36
    go_wp2_with (first | go_in)
    go_ret
    exact ⟨rfl, by repeat (first | exact Drawn0.refl _ | apply Drawn0.step)⟩
  · have hd : decide (a1 < (l0.length : Int)) = false := decide_eq_false (by omega)
    clear h2
    go_enter Try.func36, Try.ntmps36
    go_wp2_with (first | go_in)
    go_ret
    exact ⟨rfl, by repeat (first | exact Drawn0.refl _ | apply Drawn0.step)⟩

/-! ### cells_Store: function 18 -/
def cells_Store.f (l0 : List Int) (a1 : Int) (a2 : Int) : Option (List Int) := if a1 < 0 then (some l0) else (if a1 ≥ (l0.length : Int) then (some l0) else (if l0.length * 8 ≤ 281474976710656 then (some (l0.set a1.toNat a2)) else none))
set_option maxHeartbeats 4000000 in
set_option maxRecDepth 100000 in
theorem cells_Store.calls (P0_ : Nat → Prop) (A0 : Option Addr) (c0 : Nat) (l0 : List Int) (a1 : Int) (a2 : Int) (r : List Int) (w : World) (hs0 : Kd.V (Kd.int .u64) 23 w w.heap.size (fun k_ => P0_ k_) (.slice A0 l0.length c0) l0) (h : cells_Store.f l0 a1 a2 = some r) :
    Calls Try.prog 18 #[.slice A0 l0.length c0, .int .i64 a1, .int .u64 a2] w fun e w' => ∃ v0_ : Value, e = .returned (v0_) ∧ Kd.V (Kd.int .u64) 23 w' w.heap.size (fun k_ => (P0_ k_ ∨ w.heap.size ≤ k_)) v0_ r ∧ Below w.heap.size w w' := by
  have HS0 := Aside0.mk hs0
  have HR0 := Aside0.mk (Kd.V_reads' hs0).2.2
  have HM0 : Aside0 (l0.length ≤ maxLen) := ⟨(Kd.V_reads' hs0).2.2.2.1⟩
  clear hs0
  unfold cells_Store.f at h
  by_cases c1 : a1 < 0
  · rw [if_pos c1] at h
    obtain rfl := Option.some.inj h
    clear h
    go_enter Try.func18, Try.ntmps18
    go_wp2_with (first | (go_at_call 36; refine (turn_out A0 c0 l0 a1 _ _ HM0.out (.inl c1)).mono ?_; rintro e w' ⟨rfl, ⟨nd, rfl⟩⟩))
    go_ret
    exact ⟨_, rfl, Kd.V_drewN (Kd.V_alloc (Kd.V_mono HS0.out (fun _ h => .inl h)) _) _, pw_below_drewN (below_alloc (Below.refl _ _) _) _⟩
  rw [if_neg c1] at h
  by_cases c2 : a1 ≥ (l0.length : Int)
  · rw [if_pos c2] at h
    obtain rfl := Option.some.inj h
    clear h
    have c1' : 0 ≤ a1 := by omega
    clear c1
    go_enter Try.func18, Try.ntmps18
    go_wp2_with (first | (go_at_call 36; refine (turn_out A0 c0 l0 a1 _ _ HM0.out (.inr ⟨c1', c2⟩)).mono ?_; rintro e w' ⟨rfl, ⟨nd, rfl⟩⟩))
    go_ret
    exact ⟨_, rfl, Kd.V_drewN (Kd.V_alloc (Kd.V_mono HS0.out (fun _ h => .inl h)) _) _, pw_below_drewN (below_alloc (Below.refl _ _) _) _⟩
  rw [if_neg c2] at h
  by_cases c3 : l0.length * 8 ≤ 281474976710656
  · rw [if_pos c3] at h
    obtain rfl := Option.some.inj h
    clear h
    go_enter Try.func18, Try.ntmps18
    go_wp2_with (first | (go_at_call 36; refine (turn_store A0 c0 l0 a1 a2 _ _ (Kd.C_alloc HR0.out _) (by simp) (by omega) (by omega) c3).mono ?_; rintro e w' ⟨v, rfl, hR, hB⟩; have HR1 := Aside0.mk hR; have HB1 := Aside0.mk hB; clear hR hB))
    go_ret
    exact ⟨_, rfl, Kd.R_V (Kd.R_newM (M := fun k_ => (P0_ k_ ∨ w.heap.size ≤ k_)) HR1.out (by simp) (fun k h => .inr h) |> fun z => Kd.R_mono z (fun k h => h.1)), below_step (below_alloc (Below.refl _ _) _) HB1.out⟩
  · rw [if_neg c3] at h
    cases h

/-! ### cells_Swap: function 13 -/
def cells_Swap.f (l0 : List Int) (a1 : Int) (a2 : Int) (a3 : Int) : Option (List Int × Bool) := (cells_is.f l0 a1).bind fun t101 => (if t101 = true then (if 0 ≤ a1 then (if a1 < (l0.length : Int) then (if (rd l0 a1) = a2 then ((cells_Store.f l0 a1 a3).bind fun t103 => (some (t103, true))) else (some (l0, false))) else (none)) else (none)) else (some (l0, false)))
set_option maxHeartbeats 8000000 in
set_option maxRecDepth 100000 in
theorem cells_Swap.calls (P0_ : Nat → Prop) (A0 : Option Addr) (c0 : Nat) (l0 : List Int) (a1 : Int) (a2 : Int) (a3 : Int) (r1 : List Int) (r2 : Bool) (w : World) (hs0 : Kd.V (Kd.int .u64) 23 w w.heap.size (fun k_ => P0_ k_) (.slice A0 l0.length c0) l0) (h : cells_Swap.f l0 a1 a2 a3 = some (r1, r2)) :
    Calls Try.prog 13 #[.slice A0 l0.length c0, .int .i64 a1, .int .u64 a2, .int .u64 a3] w fun e w' => ∃ v0_ : Value, e = .returned (.tuple #[v0_, .bool r2]) ∧ Kd.V (Kd.int .u64) 23 w' w.heap.size (fun k_ => (P0_ k_ ∨ w.heap.size ≤ k_)) v0_ r1 ∧ Below w.heap.size w w' := by
  have HO0 := Aside0.mk (show Kd.V (Kd.int .u64) 23 w w.heap.size (fun k_ => (P0_ k_ ∨ w.heap.size ≤ k_)) (.slice A0 l0.length c0) l0 from Kd.V_mono hs0 (fun k_ hk => .inl hk))
  have HB := Aside0.mk (Below.refl w.heap.size w)
  have H : ((cells_is.f l0 a1).bind fun t101 => (if t101 = true then (if 0 ≤ a1 then (if a1 < (l0.length : Int) then (if (rd l0 a1) = a2 then ((cells_Store.f l0 a1 a3).bind fun t103 => (some (t103, true))) else (some (l0, false))) else (none)) else (none)) else (some (l0, false)))) = some (r1, r2) := h
  clear h
  replace H := Option.bind_eq_some_iff.mp H
  obtain ⟨t101, A50, H⟩ := H
  replace H : (if t101 = true then (if 0 ≤ a1 then (if a1 < (l0.length : Int) then (if (rd l0 a1) = a2 then ((cells_Store.f l0 a1 a3).bind fun t103 => (some (t103, true))) else (some (l0, false))) else (none)) else (none)) else (some (l0, false))) = some (r1, r2) := H
  have A5 := Aside0.mk A50
  clear A50
  by_cases c6 : t101 = true
  · subst c6
    have H1 : (if 0 ≤ a1 then (if a1 < (l0.length : Int) then (if (rd l0 a1) = a2 then ((cells_Store.f l0 a1 a3).bind fun t103 => (some (t103, true))) else (some (l0, false))) else (none)) else (none)) = some (r1, r2) := by rw [if_pos rfl] at H; exact H
    clear H
    have H := H1
    clear H1
    by_cases c7 : 0 ≤ a1
    · rw [if_pos c7] at H
      have c7b0 : decide (0 ≤ a1) = true := decide_eq_true c7
      clear c7
      by_cases c8 : a1 < (l0.length : Int)
      · rw [if_pos c8] at H
        have c8b0 : decide (a1 < (l0.length : Int)) = true := decide_eq_true c8
        clear c8
        by_cases c9 : (rd l0 a1) = a2
        · rw [if_pos c9] at H
          have c9b0 : ((rd l0 a1) == a2) = true := beq_iff_eq.mpr c9
          have c9b1 : ((rd l0 a1) != a2) = false := bne_eq_false_iff_eq.mpr c9
          clear c9
          replace H := Option.bind_eq_some_iff.mp H
          obtain ⟨t103, A100, H⟩ := H
          replace H : (some (t103, true)) = some (r1, r2) := H
          have A10 := Aside0.mk A100
          clear A100
          simp only [Option.some.injEq, Prod.mk.injEq] at H
          obtain ⟨rfl, rfl⟩ := H
          go_enter Try.func13, Try.ntmps13
          go_wp2_with (first | ((with_reducible refine gate_callee (f := 35) rfl ?_); refine goesL_ (some 12) rfl rfl Try.func35 (by kernel_rfl) rfl #[.slice A0 l0.length c0, .int .i64 a1] rfl (by (try simp only [List.map_toArray, List.map_cons, List.map_nil]); first | done | rfl | (simp only [List.length_drop, List.length_take]; rfl)) ?_; (with_reducible refine (cells_is.calls _ _ l0 a1 true _ ?side1 ?side2 A5.out).mono ?_); (case side1 => repeat (first | exact (Kd.V_reads' HO0.out).2.2 | (with_reducible refine Kd.C_alloc ?_ _) | (with_reducible refine Kd.C_drewN ?_ _) | (with_reducible refine Kd.C_drew ?_))); (case side2 => exact (Kd.V_reads' HO0.out).2.1); rintro e w' ⟨rfl, ⟨nd, rfl⟩⟩; refine ⟨_, rfl, ?_⟩; have p102 : 0 ≤ (a1 : Int) := of_decide_eq_true (by first | (with_reducible assumption) | assumption); have q102 : a1 < (l0.length : Int) := of_decide_eq_true (by first | (with_reducible assumption) | assumption); obtain ⟨ad102, e102, hx102_0⟩ := Kd.at_int (Kd.V_reads' HO0.out).2.2 a1 p102 q102; cases e102; replace p102 := eq_true p102; replace q102 := eq_true q102) | ((with_reducible refine gate_callee (f := 18) rfl ?_); refine goesL_ (some 26) rfl rfl Try.func18 (by kernel_rfl) rfl #[.slice (some ad102) l0.length c0, .int .i64 a1, .int .u64 a3] rfl (by (try simp only [List.map_toArray, List.map_cons, List.map_nil]); first | done | rfl | (simp only [List.length_drop, List.length_take]; rfl)) ?_; (with_reducible refine (cells_Store.calls (fun k_ => (P0_ k_ ∨ w.heap.size ≤ k_)) _ _ l0 a1 a3 t103 _ ?side1 A10.out).mono ?_); (case side1 => exact HO0.out); rintro e w11 ⟨v104, rfl, ho0, hb⟩; refine ⟨_, rfl, ?_⟩; have n0_ := Aside0.mk (Kd.V_below (by (with_reducible repeat (first | apply Kd.V_alloc | apply Kd.V_drewN | apply Kd.V_drew)); exact HO0.out) hb); have n1_ := Aside0.mk (Kd.V_lower (Kd.V_mono (ok' := fun k_ => (P0_ k_ ∨ w.heap.size ≤ k_)) ho0 (fun k_ hk_ => Or.elim hk_ (fun hs_ => hs_) (fun hn_ => (.inr (Nat.le_trans (below_size (by repeat (first | (with_reducible first | exact HB.out | apply below_alloc | apply pw_below_drewN | apply below_drew1) | exact HB.out))) hn_))))) (below_size (by repeat (first | (with_reducible first | exact HB.out | apply below_alloc | apply pw_below_drewN | apply below_drew1) | exact HB.out)))); have n2_ := Aside0.mk (below_step (by repeat (first | (with_reducible first | exact HB.out | apply below_alloc | apply pw_below_drewN | apply below_drew1) | exact HB.out)) hb); clear HO0; clear HB; have HO0 := n0_; have HO105 := n1_; have HB := n2_; clear n0_ n1_ n2_; (try clear hb); (try clear hb2); (try clear hk); (try clear hi); (try clear ho0)))
          go_ret2
          exact ⟨_, by first | rfl | (simp [errW_none, errW_some] <;> rfl) | (simp [*, errW_none, errW_some] <;> rfl), by (with_reducible repeat (first | apply Kd.V_alloc | apply Kd.V_drewN | apply Kd.V_drew)); exact HO105.out, by repeat (first | (with_reducible first | exact HB.out | apply below_alloc | apply pw_below_drewN | apply below_drew1) | exact HB.out)⟩
        · rw [if_neg c9] at H
          have c9b0 : ((rd l0 a1) == a2) = false := beq_eq_false_iff_ne.mpr c9
          have c9b1 : ((rd l0 a1) != a2) = true := bne_iff_ne.mpr c9
          simp only [Option.some.injEq, Prod.mk.injEq] at H
          obtain ⟨rfl, rfl⟩ := H
          go_enter Try.func13, Try.ntmps13
          go_wp2_with (first | ((with_reducible refine gate_callee (f := 35) rfl ?_); refine goesL_ (some 12) rfl rfl Try.func35 (by kernel_rfl) rfl #[.slice A0 l0.length c0, .int .i64 a1] rfl (by (try simp only [List.map_toArray, List.map_cons, List.map_nil]); first | done | rfl | (simp only [List.length_drop, List.length_take]; rfl)) ?_; (with_reducible refine (cells_is.calls _ _ l0 a1 true _ ?side1 ?side2 A5.out).mono ?_); (case side1 => repeat (first | exact (Kd.V_reads' HO0.out).2.2 | (with_reducible refine Kd.C_alloc ?_ _) | (with_reducible refine Kd.C_drewN ?_ _) | (with_reducible refine Kd.C_drew ?_))); (case side2 => exact (Kd.V_reads' HO0.out).2.1); rintro e w' ⟨rfl, ⟨nd, rfl⟩⟩; refine ⟨_, rfl, ?_⟩; have p102 : 0 ≤ (a1 : Int) := of_decide_eq_true (by first | (with_reducible assumption) | assumption); have q102 : a1 < (l0.length : Int) := of_decide_eq_true (by first | (with_reducible assumption) | assumption); obtain ⟨ad102, e102, hx102_0⟩ := Kd.at_int (Kd.V_reads' HO0.out).2.2 a1 p102 q102; cases e102; replace p102 := eq_true p102; replace q102 := eq_true q102))
          go_ret2
          exact ⟨_, by first | rfl | (simp [errW_none, errW_some] <;> rfl) | (simp [*, errW_none, errW_some] <;> rfl), by (with_reducible repeat (first | apply Kd.V_alloc | apply Kd.V_drewN | apply Kd.V_drew)); exact HO0.out, by repeat (first | (with_reducible first | exact HB.out | apply below_alloc | apply pw_below_drewN | apply below_drew1) | exact HB.out)⟩
      · rw [if_neg c8] at H
        exact absurd H (by simp)
    · rw [if_neg c7] at H
      exact absurd H (by simp)
  · replace c6 := Bool.eq_false_iff.mpr c6
    subst c6
    have H1 : (some (l0, false)) = some (r1, r2) := by rw [if_neg (show ¬ (false = true) by decide)] at H; exact H
    clear H
    have H := H1
    clear H1
    simp only [Option.some.injEq, Prod.mk.injEq] at H
    obtain ⟨rfl, rfl⟩ := H
    go_enter Try.func13, Try.ntmps13
    go_wp2_with (first | ((with_reducible refine gate_callee (f := 35) rfl ?_); refine goesL_ (some 12) rfl rfl Try.func35 (by kernel_rfl) rfl #[.slice A0 l0.length c0, .int .i64 a1] rfl (by (try simp only [List.map_toArray, List.map_cons, List.map_nil]); first | done | rfl | (simp only [List.length_drop, List.length_take]; rfl)) ?_; (with_reducible refine (cells_is.calls _ _ l0 a1 false _ ?side1 ?side2 A5.out).mono ?_); (case side1 => repeat (first | exact (Kd.V_reads' HO0.out).2.2 | (with_reducible refine Kd.C_alloc ?_ _) | (with_reducible refine Kd.C_drewN ?_ _) | (with_reducible refine Kd.C_drew ?_))); (case side2 => exact (Kd.V_reads' HO0.out).2.1); rintro e w' ⟨rfl, ⟨nd, rfl⟩⟩; refine ⟨_, rfl, ?_⟩))
    go_ret2
    exact ⟨_, by first | rfl | (simp [errW_none, errW_some] <;> rfl) | (simp [*, errW_none, errW_some] <;> rfl), by (with_reducible repeat (first | apply Kd.V_alloc | apply Kd.V_drewN | apply Kd.V_drew)); exact HO0.out, by repeat (first | (with_reducible first | exact HB.out | apply below_alloc | apply pw_below_drewN | apply below_drew1) | exact HB.out)⟩

/-! ### cells_Load: function 15 -/
def cells_Load.f (l0 : List Int) (a1 : Int) : Option (Int) := (cells_is.f l0 a1).bind fun t106 => (if t106 = true then (if 0 ≤ a1 then (if a1 < (l0.length : Int) then (some (rd l0 a1)) else (none)) else (none)) else (some 0))
set_option maxHeartbeats 8000000 in
set_option maxRecDepth 100000 in
theorem cells_Load.calls (A0 : Option Addr) (c0 : Nat) (l0 : List Int) (a1 : Int) (r : Int) (w : World) (hr0 : Kd.C (Kd.int .u64) w A0 l0.length l0) (hc0 : l0.length ≤ c0) (h : cells_Load.f l0 a1 = some r) :
    Calls Try.prog 15 #[.slice A0 l0.length c0, .int .i64 a1] w fun e w' => e = .returned (.int .u64 r) ∧ Drawn0 w w' := by
  have HR0 := Aside0.mk hr0
  have HC0 := Aside0.mk hc0
  clear hr0 hc0
  have H : ((cells_is.f l0 a1).bind fun t106 => (if t106 = true then (if 0 ≤ a1 then (if a1 < (l0.length : Int) then (some (rd l0 a1)) else (none)) else (none)) else (some 0))) = some r := h
  clear h
  replace H := Option.bind_eq_some_iff.mp H
  obtain ⟨t106, A30, H⟩ := H
  replace H : (if t106 = true then (if 0 ≤ a1 then (if a1 < (l0.length : Int) then (some (rd l0 a1)) else (none)) else (none)) else (some 0)) = some r := H
  have A3 := Aside0.mk A30
  clear A30
  by_cases c4 : t106 = true
  · subst c4
    have H1 : (if 0 ≤ a1 then (if a1 < (l0.length : Int) then (some (rd l0 a1)) else (none)) else (none)) = some r := by rw [if_pos rfl] at H; exact H
    clear H
    have H := H1
    clear H1
    by_cases c5 : 0 ≤ a1
    · rw [if_pos c5] at H
      have c5b0 : decide (0 ≤ a1) = true := decide_eq_true c5
      clear c5
      by_cases c6 : a1 < (l0.length : Int)
      · rw [if_pos c6] at H
        have c6b0 : decide (a1 < (l0.length : Int)) = true := decide_eq_true c6
        clear c6
        obtain rfl := Option.some.inj H
        go_enter Try.func15, Try.ntmps15
        go_wp2_with (first | ((with_reducible refine gate_callee (f := 35) rfl ?_); refine goesL_ (some 7) rfl rfl Try.func35 (by kernel_rfl) rfl #[.slice A0 l0.length c0, .int .i64 a1] rfl (by (try simp only [List.map_toArray, List.map_cons, List.map_nil]); first | done | rfl | (simp only [List.length_drop, List.length_take]; rfl)) ?_; (with_reducible refine (cells_is.calls _ _ l0 a1 true _ ?side1 ?side2 A3.out).mono ?_); (case side1 => repeat (first | exact HR0.out | (with_reducible refine Kd.C_alloc ?_ _) | (with_reducible refine Kd.C_drewN ?_ _) | (with_reducible refine Kd.C_drew ?_))); (case side2 => exact HC0.out); rintro e w' ⟨rfl, ⟨nd, rfl⟩⟩; refine ⟨_, rfl, ?_⟩; have p107 : 0 ≤ (a1 : Int) := of_decide_eq_true (by first | (with_reducible assumption) | assumption); have q107 : a1 < (l0.length : Int) := of_decide_eq_true (by first | (with_reducible assumption) | assumption); obtain ⟨ad107, e107, hx107_0⟩ := Kd.at_int HR0.out a1 p107 q107; cases e107; replace p107 := eq_true p107; replace q107 := eq_true q107))
        go_ret
        exact ⟨by first | rfl | (simp; done) | (simp [*]; done), by repeat (first | exact Drawn0.refl _ | apply Drawn0.step)⟩
      · rw [if_neg c6] at H
        exact absurd H (by simp)
    · rw [if_neg c5] at H
      exact absurd H (by simp)
  · replace c4 := Bool.eq_false_iff.mpr c4
    subst c4
    have H1 : (some 0) = some r := by rw [if_neg (show ¬ (false = true) by decide)] at H; exact H
    clear H
    have H := H1
    clear H1
    obtain rfl := Option.some.inj H
    go_enter Try.func15, Try.ntmps15
    go_wp2_with (first | ((with_reducible refine gate_callee (f := 35) rfl ?_); refine goesL_ (some 7) rfl rfl Try.func35 (by kernel_rfl) rfl #[.slice A0 l0.length c0, .int .i64 a1] rfl (by (try simp only [List.map_toArray, List.map_cons, List.map_nil]); first | done | rfl | (simp only [List.length_drop, List.length_take]; rfl)) ?_; (with_reducible refine (cells_is.calls _ _ l0 a1 false _ ?side1 ?side2 A3.out).mono ?_); (case side1 => repeat (first | exact HR0.out | (with_reducible refine Kd.C_alloc ?_ _) | (with_reducible refine Kd.C_drewN ?_ _) | (with_reducible refine Kd.C_drew ?_))); (case side2 => exact HC0.out); rintro e w' ⟨rfl, ⟨nd, rfl⟩⟩; refine ⟨_, rfl, ?_⟩))
    go_ret
    exact ⟨by first | rfl | (simp; done) | (simp [*]; done), by repeat (first | exact Drawn0.refl _ | apply Drawn0.step)⟩

/-! ### lodgerref02_Same: function 17 -/
def lodgerref02_Same.l0 : Nat → List Int → List Int → Int → Option (Bool)
  | 0, _, _, _ => none
  | k + 1, x0, x1, x5 => if x5 < (x0.length : Int) then (if 0 ≤ x5 then (if x5 < (x1.length : Int) then (if (rd x0 x5) = (rd x1 x5) then (lodgerref02_Same.l0 k x0 x1 (wrap64 (x5 + 1))) else (some false)) else (none)) else (none)) else (some true)
def lodgerref02_Same.f (k : Nat) (l0 : List Int) (l1 : List Int) : Option (Bool) := if (l0.length : Int) = (l1.length : Int) then (lodgerref02_Same.l0 k l0 l1 0) else (some false)
theorem lodgerref02_Same.mono_l : ∀ k, (∀ y0 y1 y2, LeO (lodgerref02_Same.l0 k y0 y1 y2) (lodgerref02_Same.l0 (k + 1) y0 y1 y2))
  | 0 => fun _ _ _ r h => by simp [lodgerref02_Same.l0] at h
  | k + 1 => by
    have ih0 := lodgerref02_Same.mono_l k
    · intro y0 y1 y2
      unfold lodgerref02_Same.l0
      repeat' first
      | (with_reducible exact ih0 _ _ _)
      | (with_reducible exact LeO.refl _)
      | (with_reducible exact LeO.none _)
      | (with_reducible refine LeO.ite ?_ ?_)
      | (with_reducible refine LeO.bind ?_ (fun _ => ?_))
      | exact ih0 _ _ _
      | exact LeO.none _
      | refine LeO.ite ?_ ?_
      | refine LeO.bind ?_ (fun _ => ?_)
theorem lodgerref02_Same.mono : ∀ a0 a1 k, LeO (lodgerref02_Same.f k a0 a1) (lodgerref02_Same.f (k + 1) a0 a1) := by
  intro a0 a1 k
  have ih0 := lodgerref02_Same.mono_l k
  unfold lodgerref02_Same.f
  repeat' first
      | (with_reducible exact ih0 _ _ _)
      | (with_reducible exact LeO.refl _)
      | (with_reducible exact LeO.none _)
      | (with_reducible refine LeO.ite ?_ ?_)
      | (with_reducible refine LeO.bind ?_ (fun _ => ?_))
      | exact ih0 _ _ _
      | exact LeO.none _
      | refine LeO.ite ?_ ?_
      | refine LeO.bind ?_ (fun _ => ?_)
set_option maxHeartbeats 8000000 in
set_option maxRecDepth 100000 in
theorem lodgerref02_Same.calls (k : Nat) (A0 : Option Addr) (c0 : Nat) (l0 : List Int) (A1 : Option Addr) (c1 : Nat) (l1 : List Int) (r : Bool) (w : World) (hr0 : Kd.C (Kd.int .u64) w A0 l0.length l0) (hc0 : l0.length ≤ c0) (hr1 : Kd.C (Kd.int .u64) w A1 l1.length l1) (hc1 : l1.length ≤ c1) (h : lodgerref02_Same.f k l0 l1 = some r) :
    Calls Try.prog 17 #[.slice A0 l0.length c0, .slice A1 l1.length c1] w fun e w' => e = .returned (.bool r) ∧ Drawn0 w w' := by
  have HR0 := Aside0.mk hr0
  have HC0 := Aside0.mk hc0
  clear hr0 hc0
  have HR1 := Aside0.mk hr1
  have HC1 := Aside0.mk hc1
  clear hr1 hc1
  have H : (if (l0.length : Int) = (l1.length : Int) then (lodgerref02_Same.l0 k l0 l1 0) else (some false)) = some r := h
  clear h
  by_cases c3 : (l0.length : Int) = (l1.length : Int)
  · rw [if_pos c3] at H
    have c3b0 : ((l0.length : Int) == (l1.length : Int)) = true := beq_iff_eq.mpr c3
    have c3b1 : ((l0.length : Int) != (l1.length : Int)) = false := bne_eq_false_iff_eq.mpr c3
    have c3b2 : (l0.length == l1.length) = true := by first | simpa using c3 | (simp at c3 ⊢; omega)
    clear c3
    have H' := Aside0.mk H
    clear H
    go_enter Try.func17, Try.ntmps17
    go_wp2
    repeat (go_quiet (fail); try go_wp2)
    go_loopg [5] k (fun kq v5 w' => ∃ (x5_1 : Int), v5 = .int .i64 x5_1 ∧ Aside0 (lodgerref02_Same.l0 kq l0 l1 x5_1 = some r) ∧ Aside0 (kq ≤ k) ∧ Drawn0 w w')
    case atStart => exact ⟨(0), (by first | rfl | (simp; done) | (simp [*]; done)), H', ⟨Nat.le_refl _⟩, by repeat (first | exact Drawn0.refl _ | apply Drawn0.step)⟩
    case round =>
      clear H'
      try clear c1
      try clear p2
      try clear c3
      try clear c3b0
      try clear c3b1
      try clear c3b2
      obtain ⟨x5_1, rfl, HA, HK1, ⟨m1, rfl⟩⟩ := hrel
      cases gk with
      | zero => exact absurd HA.out (by simp [lodgerref02_Same.l0])
      | succ k1 =>
        have H := HA.out
        clear HA
        simp only [lodgerref02_Same.l0] at H
        by_cases c4 : x5_1 < (l0.length : Int)
        · rw [if_pos c4] at H
          have c4b0 : decide (x5_1 < (l0.length : Int)) = true := decide_eq_true c4
          clear c4
          by_cases c5 : 0 ≤ x5_1
          · rw [if_pos c5] at H
            have c5b0 : decide (0 ≤ x5_1) = true := decide_eq_true c5
            clear c5
            by_cases c6 : x5_1 < (l1.length : Int)
            · rw [if_pos c6] at H
              have c6b0 : decide (x5_1 < (l1.length : Int)) = true := decide_eq_true c6
              clear c6
              by_cases c7 : (rd l0 x5_1) = (rd l1 x5_1)
              · rw [if_pos c7] at H
                have c7b0 : ((rd l0 x5_1) == (rd l1 x5_1)) = true := beq_iff_eq.mpr c7
                have c7b1 : ((rd l0 x5_1) != (rd l1 x5_1)) = false := bne_eq_false_iff_eq.mpr c7
                clear c7
                have H' := Aside0.mk H
                clear H
                have p108 : 0 ≤ (x5_1 : Int) := of_decide_eq_true (by first | (with_reducible assumption) | assumption)
                have q108 : x5_1 < (l0.length : Int) := of_decide_eq_true (by first | (with_reducible assumption) | assumption)
                obtain ⟨ad108, e108, hx108_0⟩ := Kd.at_int HR0.out x5_1 p108 q108
                cases e108
                replace p108 := eq_true p108
                replace q108 := eq_true q108
                have p109 : 0 ≤ (x5_1 : Int) := of_decide_eq_true (by first | (with_reducible assumption) | assumption)
                have q109 : x5_1 < (l1.length : Int) := of_decide_eq_true (by first | (with_reducible assumption) | assumption)
                obtain ⟨ad109, e109, hx109_0⟩ := Kd.at_int HR1.out x5_1 p109 q109
                cases e109
                replace p109 := eq_true p109
                replace q109 := eq_true q109
                go_wp2
                repeat (go_quiet (fail); try go_wp2)
                go_roundg k1
                case measure => have := HK1.out; omega
                case rel => exact ⟨(wrap64 (x5_1 + 1)), (by first | rfl | (simp; done) | (simp [*]; done)), H', ⟨by have := HK1.out; omega⟩, by repeat (first | exact Drawn0.refl _ | apply Drawn0.step)⟩
              · rw [if_neg c7] at H
                have c7b0 : ((rd l0 x5_1) == (rd l1 x5_1)) = false := beq_eq_false_iff_ne.mpr c7
                have c7b1 : ((rd l0 x5_1) != (rd l1 x5_1)) = true := bne_iff_ne.mpr c7
                obtain rfl := Option.some.inj H
                have p108 : 0 ≤ (x5_1 : Int) := of_decide_eq_true (by first | (with_reducible assumption) | assumption)
                have q108 : x5_1 < (l0.length : Int) := of_decide_eq_true (by first | (with_reducible assumption) | assumption)
                obtain ⟨ad108, e108, hx108_0⟩ := Kd.at_int HR0.out x5_1 p108 q108
                cases e108
                replace p108 := eq_true p108
                replace q108 := eq_true q108
                have p109 : 0 ≤ (x5_1 : Int) := of_decide_eq_true (by first | (with_reducible assumption) | assumption)
                have q109 : x5_1 < (l1.length : Int) := of_decide_eq_true (by first | (with_reducible assumption) | assumption)
                obtain ⟨ad109, e109, hx109_0⟩ := Kd.at_int HR1.out x5_1 p109 q109
                cases e109
                replace p109 := eq_true p109
                replace q109 := eq_true q109
                go_wp2
                repeat (go_quiet (fail); try go_wp2)
                go_ret
                exact ⟨by first | rfl | (simp; done) | (simp [*]; done), by repeat (first | exact Drawn0.refl _ | apply Drawn0.step)⟩
            · rw [if_neg c6] at H
              exact absurd H (by simp)
          · rw [if_neg c5] at H
            exact absurd H (by simp)
        · rw [if_neg c4] at H
          have c4b0 : decide (x5_1 < (l0.length : Int)) = false := decide_eq_false c4
          clear c4
          obtain rfl := Option.some.inj H
          go_wp2
          repeat (go_quiet (fail); try go_wp2)
          go_ret
          exact ⟨by first | rfl | (simp; done) | (simp [*]; done), by repeat (first | exact Drawn0.refl _ | apply Drawn0.step)⟩
  · rw [if_neg c3] at H
    have c3b0 : ((l0.length : Int) == (l1.length : Int)) = false := beq_eq_false_iff_ne.mpr c3
    have c3b1 : ((l0.length : Int) != (l1.length : Int)) = true := bne_iff_ne.mpr c3
    have c3b2 : (l0.length == l1.length) = false := by first | simpa using c3 | (simp at c3 ⊢; omega)
    obtain rfl := Option.some.inj H
    go_enter Try.func17, Try.ntmps17
    go_wp2
    repeat (go_quiet (fail); try go_wp2)
    go_ret
    exact ⟨by first | rfl | (simp; done) | (simp [*]; done), by repeat (first | exact Drawn0.refl _ | apply Drawn0.step)⟩

/-! ### cells_Add: function 20 -/
def cells_Add.f (l0 : List Int) (a1 : Int) (a2 : Int) : Option (List Int) := if a1 < 0 then (some l0) else (if a1 ≥ (l0.length : Int) then (some l0) else (if l0.length * 8 ≤ 281474976710656 then (some (l0.set a1.toNat (IntKind.u64.wrap (rd l0 a1 + a2)))) else none))
set_option maxHeartbeats 4000000 in
set_option maxRecDepth 100000 in
theorem cells_Add.calls (P0_ : Nat → Prop) (A0 : Option Addr) (c0 : Nat) (l0 : List Int) (a1 : Int) (a2 : Int) (r : List Int) (w : World) (hs0 : Kd.V (Kd.int .u64) 23 w w.heap.size (fun k_ => P0_ k_) (.slice A0 l0.length c0) l0) (h : cells_Add.f l0 a1 a2 = some r) :
    Calls Try.prog 20 #[.slice A0 l0.length c0, .int .i64 a1, .int .u64 a2] w fun e w' => ∃ v0_ : Value, e = .returned (v0_) ∧ Kd.V (Kd.int .u64) 23 w' w.heap.size (fun k_ => (P0_ k_ ∨ w.heap.size ≤ k_)) v0_ r ∧ Below w.heap.size w w' := by
  have HS0 := Aside0.mk hs0
  have HR0 := Aside0.mk (Kd.V_reads' hs0).2.2
  have HM0 : Aside0 (l0.length ≤ maxLen) := ⟨(Kd.V_reads' hs0).2.2.2.1⟩
  clear hs0
  unfold cells_Add.f at h
  by_cases c1 : a1 < 0
  · rw [if_pos c1] at h
    obtain rfl := Option.some.inj h
    clear h
    go_enter Try.func20, Try.ntmps20
    go_wp2_with (first | (go_at_call 36; refine (turn_out A0 c0 l0 a1 _ _ HM0.out (.inl c1)).mono ?_; rintro e w' ⟨rfl, ⟨nd, rfl⟩⟩))
    go_ret
    exact ⟨_, rfl, Kd.V_drewN (Kd.V_alloc (Kd.V_mono HS0.out (fun _ h => .inl h)) _) _, pw_below_drewN (below_alloc (Below.refl _ _) _) _⟩
  rw [if_neg c1] at h
  by_cases c2 : a1 ≥ (l0.length : Int)
  · rw [if_pos c2] at h
    obtain rfl := Option.some.inj h
    clear h
    have c1' : 0 ≤ a1 := by omega
    clear c1
    go_enter Try.func20, Try.ntmps20
    go_wp2_with (first | (go_at_call 36; refine (turn_out A0 c0 l0 a1 _ _ HM0.out (.inr ⟨c1', c2⟩)).mono ?_; rintro e w' ⟨rfl, ⟨nd, rfl⟩⟩))
    go_ret
    exact ⟨_, rfl, Kd.V_drewN (Kd.V_alloc (Kd.V_mono HS0.out (fun _ h => .inl h)) _) _, pw_below_drewN (below_alloc (Below.refl _ _) _) _⟩
  rw [if_neg c2] at h
  by_cases c3 : l0.length * 8 ≤ 281474976710656
  · rw [if_pos c3] at h
    obtain rfl := Option.some.inj h
    clear h
    go_enter Try.func20, Try.ntmps20
    go_wp2_with (first | (go_at_call 36; refine (turn_add A0 c0 l0 a1 a2 _ _ (Kd.C_alloc HR0.out _) (by simp) (by omega) (by omega) c3).mono ?_; rintro e w' ⟨v, rfl, hR, hB⟩; have HR1 := Aside0.mk hR; have HB1 := Aside0.mk hB; clear hR hB))
    go_ret
    exact ⟨_, rfl, Kd.R_V (Kd.R_newM (M := fun k_ => (P0_ k_ ∨ w.heap.size ≤ k_)) HR1.out (by simp) (fun k h => .inr h) |> fun z => Kd.R_mono z (fun k h => h.1)), below_step (below_alloc (Below.refl _ _) _) HB1.out⟩
  · rw [if_neg c3] at h
    cases h

/-! ### cells_New: function 21 -/
def cells_New.f (a0 : Int) : Option (List Int) := if 0 ≤ a0 then (if (a0 : Int).toNat ≤ 35184372088832 then (some (List.replicate (a0 : Int).toNat 0)) else (none)) else (none)
set_option maxHeartbeats 8000000 in
set_option maxRecDepth 100000 in
theorem cells_New.calls (a0 : Int) (r : List Int) (w : World) (h : cells_New.f a0 = some r) :
    Calls Try.prog 21 #[.int .i64 a0] w fun e w' => ∃ v0_ : Value, e = .returned (v0_) ∧ Kd.R (Kd.int .u64) 23 w' w.heap.size (fun _ => True) v0_ r ∧ Below w.heap.size w w' := by
  have HB := Aside0.mk (Below.refl w.heap.size w)
  have H : (if 0 ≤ a0 then (if (a0 : Int).toNat ≤ 35184372088832 then (some (List.replicate (a0 : Int).toNat 0)) else (none)) else (none)) = some r := h
  clear h
  by_cases c2 : 0 ≤ a0
  · rw [if_pos c2] at H
    have c2b0 := eq_true c2
    have c2b1 : decide (0 ≤ a0) = true := decide_eq_true c2
    clear c2
    by_cases c3 : (a0 : Int).toNat ≤ 35184372088832
    · rw [if_pos c3] at H
      have c3b0 := eq_true c3
      have c3b1 : decide ((a0 : Int).toNat ≤ 35184372088832) = true := decide_eq_true c3
      clear c3
      obtain ⟨y110, hy110⟩ : ∃ y_ : List Int, y_ = (List.replicate (a0 : Int).toNat 0) := ⟨_, rfl⟩
      replace H : (some y110) = some r := by first | (rw [hy110]; with_reducible exact H) | (have H2_ := (Option.bind_some _ _).symm.trans H; rw [hy110]; with_reducible exact H2_) | (have H2_ := (Option.bind_some _ _).symm.trans H; with_reducible exact H2_) | with_reducible exact H | (rw [hy110]; exact H) | exact H
      have Ny110 := Aside0.mk hy110
      clear hy110
      obtain rfl := Option.some.inj H
      go_enter Try.func21, Try.ntmps21
      go_wp2_with (first | ((with_reducible refine gate_dst (N := 4) rfl ?_); refine Kd.R_make (Kd.int .u64) _ 23 rfl (N := 4) rfl 22 _ _ rfl a0 rfl rfl Try.underlying22 (.int .u64 0) 8 info23 rfl (by decide) (by omega) 0 (ok := fun _ => True) (okp := fun _ => True) rfl (fun _ hk => hk) trivial (of_decide_eq_true (by first | (with_reducible assumption) | assumption)) (Nat.le_trans (Nat.mul_le_mul_right _ (of_decide_eq_true (by first | (with_reducible assumption) | assumption) : a0.toNat ≤ 35184372088832)) (by omega)) (Below.refl _ _) (Nat.le_refl _) ?_; intro v111 w4 ho5 hb hg_ hnew_; clear hg_ hnew_; (first | rw [← Ny110.out] at ho5 | (simp only [Int.reduceToNat] at ho5; rw [← Ny110.out] at ho5)); have n0_ := Aside0.mk (Kd.R_lower ho5 (below_size (by repeat (first | (with_reducible first | exact HB.out | apply below_alloc | apply pw_below_drewN | apply below_drew1) | exact HB.out)))); have n1_ := Aside0.mk (below_step (by repeat (first | (with_reducible first | exact HB.out | apply below_alloc | apply pw_below_drewN | apply below_drew1) | exact HB.out)) hb); clear HB; have HO112 := n0_; have HB := n1_; clear n0_ n1_; clear hb ho5))
      go_ret
      exact ⟨_, by first | rfl | (simp [errW_none, errW_some] <;> rfl) | (simp [*, errW_none, errW_some] <;> rfl), by (with_reducible repeat (first | apply Kd.R_alloc | apply Kd.R_drewN | apply Kd.R_drew)); exact HO112.out, by repeat (first | (with_reducible first | exact HB.out | apply below_alloc | apply pw_below_drewN | apply below_drew1) | exact HB.out)⟩
    · rw [if_neg c3] at H
      exact absurd H (by simp)
  · rw [if_neg c2] at H
    exact absurd H (by simp)

/-! ### lodgerlaw02_awake: function 12 -/
def lodgerlaw02_awake.f (k : Nat)  : Option (Bool) := (cells_New.f 2).bind fun t113 => (if (t113.length : Int) = 2 then ((cells_Store.f t113 1 5).bind fun t116 => ((cells_Swap.f t116 1 5 6).bind fun bt119 => ((cells_Swap.f bt119.1 1 5 6).bind fun bt123 => ((cells_Add.f bt119.1 0 18446744073709551615).bind fun t127 => ((cells_Load.f t116 1).bind fun t130 => (if t130 = 5 then (if bt119.2 = true then (if bt123.2 = true then (some false) else ((cells_Load.f bt119.1 1).bind fun t131 => (if t131 = 6 then ((cells_Load.f t127 0).bind fun t132 => (if t132 = 18446744073709551615 then ((cells_Load.f t127 2).bind fun t133 => (if t133 = 0 then ((cells_Store.f t127 (-1) 9).bind fun t134 => ((lodgerref02_Same.f k t134 t127).bind fun t137 => (if t137 = true then ((cells_Add.f t127 0 2).bind fun t138 => ((cells_Load.f t138 0).bind fun t141 => (some (t141 == 1)))) else (some false)))) else (some false))) else (some false))) else (some false)))) else (some false)) else (some false))))))) else (some false))
theorem lodgerlaw02_awake.mono : ∀ k, LeO (lodgerlaw02_awake.f k ) (lodgerlaw02_awake.f (k + 1) ) := by
  intro  k
  unfold lodgerlaw02_awake.f
  repeat' first
      | (with_reducible exact lodgerref02_Same.mono _ _ _)
      | (with_reducible exact LeO.refl _)
      | (with_reducible exact LeO.none _)
      | (with_reducible refine LeO.ite ?_ ?_)
      | (with_reducible refine LeO.bind ?_ (fun _ => ?_))
      | exact lodgerref02_Same.mono _ _ _
      | exact LeO.none _
      | refine LeO.ite ?_ ?_
      | refine LeO.bind ?_ (fun _ => ?_)
set_option maxHeartbeats 8000000 in
set_option maxRecDepth 100000 in
theorem lodgerlaw02_awake.only {k : Nat} {r : Bool} (h : lodgerlaw02_awake.f k = some r) : r = true := by
  have e : lodgerlaw02_awake.f 500 = some true := by decide +kernel
  have h1 := at_rounds lodgerlaw02_awake.mono (Nat.le_max_left k 500) h
  rw [at_rounds lodgerlaw02_awake.mono (Nat.le_max_right k 500) e] at h1
  exact (Option.some.inj h1).symm
theorem lodgerlaw02_awake.calls (k : Nat)  (r : Bool) (w : World) (h : lodgerlaw02_awake.f k  = some r) :
    Calls Try.prog 12 #[] w fun e w' => e = .returned (.bool r) ∧ Below w.heap.size w w' := by
  have HB := Aside0.mk (Below.refl w.heap.size w)
  have hr_ := Aside0.mk (lodgerlaw02_awake.only h)
  have H : ((cells_New.f 2).bind fun t113 => (if (t113.length : Int) = 2 then ((cells_Store.f t113 1 5).bind fun t116 => ((cells_Swap.f t116 1 5 6).bind fun bt119 => ((cells_Swap.f bt119.1 1 5 6).bind fun bt123 => ((cells_Add.f bt119.1 0 18446744073709551615).bind fun t127 => ((cells_Load.f t116 1).bind fun t130 => (if t130 = 5 then (if bt119.2 = true then (if bt123.2 = true then (some false) else ((cells_Load.f bt119.1 1).bind fun t131 => (if t131 = 6 then ((cells_Load.f t127 0).bind fun t132 => (if t132 = 18446744073709551615 then ((cells_Load.f t127 2).bind fun t133 => (if t133 = 0 then ((cells_Store.f t127 (-1) 9).bind fun t134 => ((lodgerref02_Same.f k t134 t127).bind fun t137 => (if t137 = true then ((cells_Add.f t127 0 2).bind fun t138 => ((cells_Load.f t138 0).bind fun t141 => (some (t141 == 1)))) else (some false)))) else (some false))) else (some false))) else (some false)))) else (some false)) else (some false))))))) else (some false))) = some r := h
  clear h
  replace H := Option.bind_eq_some_iff.mp H
  obtain ⟨t113, A10, H⟩ := H
  replace H : (if (t113.length : Int) = 2 then ((cells_Store.f t113 1 5).bind fun t116 => ((cells_Swap.f t116 1 5 6).bind fun bt119 => ((cells_Swap.f bt119.1 1 5 6).bind fun bt123 => ((cells_Add.f bt119.1 0 18446744073709551615).bind fun t127 => ((cells_Load.f t116 1).bind fun t130 => (if t130 = 5 then (if bt119.2 = true then (if bt123.2 = true then (some false) else ((cells_Load.f bt119.1 1).bind fun t131 => (if t131 = 6 then ((cells_Load.f t127 0).bind fun t132 => (if t132 = 18446744073709551615 then ((cells_Load.f t127 2).bind fun t133 => (if t133 = 0 then ((cells_Store.f t127 (-1) 9).bind fun t134 => ((lodgerref02_Same.f k t134 t127).bind fun t137 => (if t137 = true then ((cells_Add.f t127 0 2).bind fun t138 => ((cells_Load.f t138 0).bind fun t141 => (some (t141 == 1)))) else (some false)))) else (some false))) else (some false))) else (some false)))) else (some false)) else (some false))))))) else (some false)) = some r := H
  have A1 := Aside0.mk A10
  clear A10
  by_cases c2 : (t113.length : Int) = 2
  · rw [if_pos c2] at H
    have c2b0 : ((t113.length : Int) == 2) = true := beq_iff_eq.mpr c2
    have c2b1 : ((t113.length : Int) != 2) = false := bne_eq_false_iff_eq.mpr c2
    clear c2
    replace H := Option.bind_eq_some_iff.mp H
    obtain ⟨t116, A30, H⟩ := H
    replace H : ((cells_Swap.f t116 1 5 6).bind fun bt119 => ((cells_Swap.f bt119.1 1 5 6).bind fun bt123 => ((cells_Add.f bt119.1 0 18446744073709551615).bind fun t127 => ((cells_Load.f t116 1).bind fun t130 => (if t130 = 5 then (if bt119.2 = true then (if bt123.2 = true then (some false) else ((cells_Load.f bt119.1 1).bind fun t131 => (if t131 = 6 then ((cells_Load.f t127 0).bind fun t132 => (if t132 = 18446744073709551615 then ((cells_Load.f t127 2).bind fun t133 => (if t133 = 0 then ((cells_Store.f t127 (-1) 9).bind fun t134 => ((lodgerref02_Same.f k t134 t127).bind fun t137 => (if t137 = true then ((cells_Add.f t127 0 2).bind fun t138 => ((cells_Load.f t138 0).bind fun t141 => (some (t141 == 1)))) else (some false)))) else (some false))) else (some false))) else (some false)))) else (some false)) else (some false)))))) = some r := H
    have A3 := Aside0.mk A30
    clear A30
    replace H := Option.bind_eq_some_iff.mp H
    obtain ⟨⟨t119, t122⟩, A40, H⟩ := H
    replace H : ((cells_Swap.f t119 1 5 6).bind fun bt123 => ((cells_Add.f t119 0 18446744073709551615).bind fun t127 => ((cells_Load.f t116 1).bind fun t130 => (if t130 = 5 then (if t122 = true then (if bt123.2 = true then (some false) else ((cells_Load.f t119 1).bind fun t131 => (if t131 = 6 then ((cells_Load.f t127 0).bind fun t132 => (if t132 = 18446744073709551615 then ((cells_Load.f t127 2).bind fun t133 => (if t133 = 0 then ((cells_Store.f t127 (-1) 9).bind fun t134 => ((lodgerref02_Same.f k t134 t127).bind fun t137 => (if t137 = true then ((cells_Add.f t127 0 2).bind fun t138 => ((cells_Load.f t138 0).bind fun t141 => (some (t141 == 1)))) else (some false)))) else (some false))) else (some false))) else (some false)))) else (some false)) else (some false))))) = some r := H
    have A4 := Aside0.mk A40
    clear A40
    replace H := Option.bind_eq_some_iff.mp H
    obtain ⟨⟨t123, t126⟩, A50, H⟩ := H
    replace H : ((cells_Add.f t119 0 18446744073709551615).bind fun t127 => ((cells_Load.f t116 1).bind fun t130 => (if t130 = 5 then (if t122 = true then (if t126 = true then (some false) else ((cells_Load.f t119 1).bind fun t131 => (if t131 = 6 then ((cells_Load.f t127 0).bind fun t132 => (if t132 = 18446744073709551615 then ((cells_Load.f t127 2).bind fun t133 => (if t133 = 0 then ((cells_Store.f t127 (-1) 9).bind fun t134 => ((lodgerref02_Same.f k t134 t127).bind fun t137 => (if t137 = true then ((cells_Add.f t127 0 2).bind fun t138 => ((cells_Load.f t138 0).bind fun t141 => (some (t141 == 1)))) else (some false)))) else (some false))) else (some false))) else (some false)))) else (some false)) else (some false)))) = some r := H
    have A5 := Aside0.mk A50
    clear A50
    replace H := Option.bind_eq_some_iff.mp H
    obtain ⟨t127, A60, H⟩ := H
    replace H : ((cells_Load.f t116 1).bind fun t130 => (if t130 = 5 then (if t122 = true then (if t126 = true then (some false) else ((cells_Load.f t119 1).bind fun t131 => (if t131 = 6 then ((cells_Load.f t127 0).bind fun t132 => (if t132 = 18446744073709551615 then ((cells_Load.f t127 2).bind fun t133 => (if t133 = 0 then ((cells_Store.f t127 (-1) 9).bind fun t134 => ((lodgerref02_Same.f k t134 t127).bind fun t137 => (if t137 = true then ((cells_Add.f t127 0 2).bind fun t138 => ((cells_Load.f t138 0).bind fun t141 => (some (t141 == 1)))) else (some false)))) else (some false))) else (some false))) else (some false)))) else (some false)) else (some false))) = some r := H
    have A6 := Aside0.mk A60
    clear A60
    replace H := Option.bind_eq_some_iff.mp H
    obtain ⟨t130, A70, H⟩ := H
    replace H : (if t130 = 5 then (if t122 = true then (if t126 = true then (some false) else ((cells_Load.f t119 1).bind fun t131 => (if t131 = 6 then ((cells_Load.f t127 0).bind fun t132 => (if t132 = 18446744073709551615 then ((cells_Load.f t127 2).bind fun t133 => (if t133 = 0 then ((cells_Store.f t127 (-1) 9).bind fun t134 => ((lodgerref02_Same.f k t134 t127).bind fun t137 => (if t137 = true then ((cells_Add.f t127 0 2).bind fun t138 => ((cells_Load.f t138 0).bind fun t141 => (some (t141 == 1)))) else (some false)))) else (some false))) else (some false))) else (some false)))) else (some false)) else (some false)) = some r := H
    have A7 := Aside0.mk A70
    clear A70
    by_cases c8 : t130 = 5
    · rw [if_pos c8] at H
      have c8b0 : (t130 == 5) = true := beq_iff_eq.mpr c8
      have c8b1 : (t130 != 5) = false := bne_eq_false_iff_eq.mpr c8
      clear c8
      by_cases c9 : t122 = true
      · subst c9
        have H1 : (if t126 = true then (some false) else ((cells_Load.f t119 1).bind fun t131 => (if t131 = 6 then ((cells_Load.f t127 0).bind fun t132 => (if t132 = 18446744073709551615 then ((cells_Load.f t127 2).bind fun t133 => (if t133 = 0 then ((cells_Store.f t127 (-1) 9).bind fun t134 => ((lodgerref02_Same.f k t134 t127).bind fun t137 => (if t137 = true then ((cells_Add.f t127 0 2).bind fun t138 => ((cells_Load.f t138 0).bind fun t141 => (some (t141 == 1)))) else (some false)))) else (some false))) else (some false))) else (some false)))) = some r := by rw [if_pos rfl] at H; exact H
        clear H
        have H := H1
        clear H1
        by_cases c10 : t126 = true
        · subst c10
          have H1 : (some false) = some r := by rw [if_pos rfl] at H; exact H
          rw [hr_.out] at H1
          exact absurd (Option.some.inj H1) (by decide)
        · replace c10 := Bool.eq_false_iff.mpr c10
          subst c10
          have H1 : ((cells_Load.f t119 1).bind fun t131 => (if t131 = 6 then ((cells_Load.f t127 0).bind fun t132 => (if t132 = 18446744073709551615 then ((cells_Load.f t127 2).bind fun t133 => (if t133 = 0 then ((cells_Store.f t127 (-1) 9).bind fun t134 => ((lodgerref02_Same.f k t134 t127).bind fun t137 => (if t137 = true then ((cells_Add.f t127 0 2).bind fun t138 => ((cells_Load.f t138 0).bind fun t141 => (some (t141 == 1)))) else (some false)))) else (some false))) else (some false))) else (some false))) = some r := by rw [if_neg (show ¬ (false = true) by decide)] at H; exact H
          clear H
          have H := H1
          clear H1
          replace H := Option.bind_eq_some_iff.mp H
          obtain ⟨t131, A190, H⟩ := H
          replace H : (if t131 = 6 then ((cells_Load.f t127 0).bind fun t132 => (if t132 = 18446744073709551615 then ((cells_Load.f t127 2).bind fun t133 => (if t133 = 0 then ((cells_Store.f t127 (-1) 9).bind fun t134 => ((lodgerref02_Same.f k t134 t127).bind fun t137 => (if t137 = true then ((cells_Add.f t127 0 2).bind fun t138 => ((cells_Load.f t138 0).bind fun t141 => (some (t141 == 1)))) else (some false)))) else (some false))) else (some false))) else (some false)) = some r := H
          have A19 := Aside0.mk A190
          clear A190
          by_cases c20 : t131 = 6
          · rw [if_pos c20] at H
            have c20b0 : (t131 == 6) = true := beq_iff_eq.mpr c20
            have c20b1 : (t131 != 6) = false := bne_eq_false_iff_eq.mpr c20
            clear c20
            replace H := Option.bind_eq_some_iff.mp H
            obtain ⟨t132, A210, H⟩ := H
            replace H : (if t132 = 18446744073709551615 then ((cells_Load.f t127 2).bind fun t133 => (if t133 = 0 then ((cells_Store.f t127 (-1) 9).bind fun t134 => ((lodgerref02_Same.f k t134 t127).bind fun t137 => (if t137 = true then ((cells_Add.f t127 0 2).bind fun t138 => ((cells_Load.f t138 0).bind fun t141 => (some (t141 == 1)))) else (some false)))) else (some false))) else (some false)) = some r := H
            have A21 := Aside0.mk A210
            clear A210
            by_cases c22 : t132 = 18446744073709551615
            · rw [if_pos c22] at H
              have c22b0 : (t132 == 18446744073709551615) = true := beq_iff_eq.mpr c22
              have c22b1 : (t132 != 18446744073709551615) = false := bne_eq_false_iff_eq.mpr c22
              clear c22
              replace H := Option.bind_eq_some_iff.mp H
              obtain ⟨t133, A230, H⟩ := H
              replace H : (if t133 = 0 then ((cells_Store.f t127 (-1) 9).bind fun t134 => ((lodgerref02_Same.f k t134 t127).bind fun t137 => (if t137 = true then ((cells_Add.f t127 0 2).bind fun t138 => ((cells_Load.f t138 0).bind fun t141 => (some (t141 == 1)))) else (some false)))) else (some false)) = some r := H
              have A23 := Aside0.mk A230
              clear A230
              by_cases c24 : t133 = 0
              · rw [if_pos c24] at H
                have c24b0 : (t133 == 0) = true := beq_iff_eq.mpr c24
                have c24b1 : (t133 != 0) = false := bne_eq_false_iff_eq.mpr c24
                clear c24
                replace H := Option.bind_eq_some_iff.mp H
                obtain ⟨t134, A250, H⟩ := H
                replace H : ((lodgerref02_Same.f k t134 t127).bind fun t137 => (if t137 = true then ((cells_Add.f t127 0 2).bind fun t138 => ((cells_Load.f t138 0).bind fun t141 => (some (t141 == 1)))) else (some false))) = some r := H
                have A25 := Aside0.mk A250
                clear A250
                replace H := Option.bind_eq_some_iff.mp H
                obtain ⟨t137, A260, H⟩ := H
                replace H : (if t137 = true then ((cells_Add.f t127 0 2).bind fun t138 => ((cells_Load.f t138 0).bind fun t141 => (some (t141 == 1)))) else (some false)) = some r := H
                have A26 := Aside0.mk A260
                clear A260
                by_cases c27 : t137 = true
                · subst c27
                  have H1 : ((cells_Add.f t127 0 2).bind fun t138 => ((cells_Load.f t138 0).bind fun t141 => (some (t141 == 1)))) = some r := by rw [if_pos rfl] at H; exact H
                  clear H
                  have H := H1
                  clear H1
                  replace H := Option.bind_eq_some_iff.mp H
                  obtain ⟨t138, A280, H⟩ := H
                  replace H : ((cells_Load.f t138 0).bind fun t141 => (some (t141 == 1))) = some r := H
                  have A28 := Aside0.mk A280
                  clear A280
                  replace H := Option.bind_eq_some_iff.mp H
                  obtain ⟨t141, A290, H⟩ := H
                  replace H : (some (t141 == 1)) = some r := H
                  have A29 := Aside0.mk A290
                  clear A290
                  first | (exfalso; rw [hr_.out] at H; exact absurd (Option.some.inj H) (by decide)) | (try clear hr_)
                  all_goals
                    obtain rfl := Option.some.inj H
                    go_enter Try.func12, Try.ntmps12
                    go_wp2_with (first | ((with_reducible refine gate_callee (f := 21) rfl ?_); refine goesL_ (some 8) rfl rfl Try.func21 (by kernel_rfl) rfl #[.int .i64 2] rfl (by (try simp only [List.map_toArray, List.map_cons, List.map_nil]); first | done | rfl | (simp only [List.length_drop, List.length_take]; rfl)) ?_; (with_reducible refine (cells_New.calls 2 t113 _ A1.out).mono ?_); rintro e w30 ⟨v114, rfl, ho0, hb⟩; refine ⟨_, rfl, ?_⟩; have n0_ := Aside0.mk (Kd.R_lower ho0 (below_size (by repeat (first | (with_reducible first | exact HB.out | apply below_alloc | apply pw_below_drewN | apply below_drew1) | exact HB.out)))); have n1_ := Aside0.mk (below_step (by repeat (first | (with_reducible first | exact HB.out | apply below_alloc | apply pw_below_drewN | apply below_drew1) | exact HB.out)) hb); clear HB; have HO115 := n0_; have HB := n1_; clear n0_ n1_; (try clear hb); (try clear hb2); (try clear hk); (try clear hi); (try clear ho0); obtain ⟨Ao31, co31, eo31⟩ := Kd.R_slice HO115.out; subst eo31) | ((with_reducible refine gate_callee (f := 18) rfl ?_); refine goesL_ (some 13) rfl rfl Try.func18 (by kernel_rfl) rfl #[.slice Ao31 t113.length co31, .int .i64 1, .int .u64 5] rfl (by (try simp only [List.map_toArray, List.map_cons, List.map_nil]); first | done | rfl | (simp only [List.length_drop, List.length_take]; rfl)) ?_; (with_reducible refine (cells_Store.calls (fun k_ => some k_ = (.slice Ao31 t113.length co31 : Value).ownBlock) _ _ t113 1 5 t116 _ ?side1 A3.out).mono ?_); (case side1 => exact Kd.R_V (Kd.R_tight rfl (HO115.out))); rintro e w32 ⟨v117, rfl, ho0, hb⟩; refine ⟨_, rfl, ?_⟩; have n0_ := Aside0.mk (Kd.R_below (by (with_reducible repeat (first | apply Kd.R_alloc | apply Kd.R_drewN | apply Kd.R_drew)); exact HO115.out) hb); have n1_ := Aside0.mk (Kd.V_lower (Kd.V_mono (ok' := fun k_ => True) ho0 (fun k_ hk_ => trivial)) (below_size (by repeat (first | (with_reducible first | exact HB.out | apply below_alloc | apply pw_below_drewN | apply below_drew1) | exact HB.out)))); have n2_ := Aside0.mk (below_step (by repeat (first | (with_reducible first | exact HB.out | apply below_alloc | apply pw_below_drewN | apply below_drew1) | exact HB.out)) hb); clear HO115; clear HB; have HO115 := n0_; have HO118 := n1_; have HB := n2_; clear n0_ n1_ n2_; (try clear hb); (try clear hb2); (try clear hk); (try clear hi); (try clear ho0); obtain ⟨Ao33, co33, eo33⟩ := Kd.V_slice HO118.out; subst eo33) | ((with_reducible refine gate_callee (f := 13) rfl ?_); refine goesL_ (some 16) rfl rfl Try.func13 (by kernel_rfl) rfl #[.slice Ao33 t116.length co33, .int .i64 1, .int .u64 5, .int .u64 6] rfl (by (try simp only [List.map_toArray, List.map_cons, List.map_nil]); first | done | rfl | (simp only [List.length_drop, List.length_take]; rfl)) ?_; (with_reducible refine (cells_Swap.calls (fun k_ => True) _ _ t116 1 5 6 t119 true _ ?side1 A4.out).mono ?_); (case side1 => exact HO118.out); rintro e w34 ⟨v120, rfl, ho0, hb⟩; refine ⟨_, rfl, ?_⟩; have n0_ := Aside0.mk (Kd.R_below (by (with_reducible repeat (first | apply Kd.R_alloc | apply Kd.R_drewN | apply Kd.R_drew)); exact HO115.out) hb); have n1_ := Aside0.mk (Kd.V_below (by (with_reducible repeat (first | apply Kd.V_alloc | apply Kd.V_drewN | apply Kd.V_drew)); exact HO118.out) hb); have n2_ := Aside0.mk (Kd.V_lower (Kd.V_mono (ok' := fun k_ => True) ho0 (fun k_ hk_ => trivial)) (below_size (by repeat (first | (with_reducible first | exact HB.out | apply below_alloc | apply pw_below_drewN | apply below_drew1) | exact HB.out)))); have n3_ := Aside0.mk (below_step (by repeat (first | (with_reducible first | exact HB.out | apply below_alloc | apply pw_below_drewN | apply below_drew1) | exact HB.out)) hb); clear HO115; clear HO118; clear HB; have HO115 := n0_; have HO118 := n1_; have HO121 := n2_; have HB := n3_; clear n0_ n1_ n2_ n3_; (try clear hb); (try clear hb2); (try clear hk); (try clear hi); (try clear ho0); obtain ⟨Ao35, co35, eo35⟩ := Kd.V_slice HO121.out; subst eo35) | ((with_reducible refine gate_callee (f := 13) rfl ?_); refine goesL_ (some 21) rfl rfl Try.func13 (by kernel_rfl) rfl #[.slice Ao35 t119.length co35, .int .i64 1, .int .u64 5, .int .u64 6] rfl (by (try simp only [List.map_toArray, List.map_cons, List.map_nil]); first | done | rfl | (simp only [List.length_drop, List.length_take]; rfl)) ?_; (with_reducible refine (cells_Swap.calls (fun k_ => True) _ _ t119 1 5 6 t123 false _ ?side1 A5.out).mono ?_); (case side1 => exact HO121.out); rintro e w36 ⟨v124, rfl, ho0, hb⟩; refine ⟨_, rfl, ?_⟩; have n0_ := Aside0.mk (Kd.R_below (by (with_reducible repeat (first | apply Kd.R_alloc | apply Kd.R_drewN | apply Kd.R_drew)); exact HO115.out) hb); have n1_ := Aside0.mk (Kd.V_below (by (with_reducible repeat (first | apply Kd.V_alloc | apply Kd.V_drewN | apply Kd.V_drew)); exact HO118.out) hb); have n2_ := Aside0.mk (Kd.V_below (by (with_reducible repeat (first | apply Kd.V_alloc | apply Kd.V_drewN | apply Kd.V_drew)); exact HO121.out) hb); have n3_ := Aside0.mk (Kd.V_lower (Kd.V_mono (ok' := fun k_ => True) ho0 (fun k_ hk_ => trivial)) (below_size (by repeat (first | (with_reducible first | exact HB.out | apply below_alloc | apply pw_below_drewN | apply below_drew1) | exact HB.out)))); have n4_ := Aside0.mk (below_step (by repeat (first | (with_reducible first | exact HB.out | apply below_alloc | apply pw_below_drewN | apply below_drew1) | exact HB.out)) hb); clear HO115; clear HO118; clear HO121; clear HB; have HO115 := n0_; have HO118 := n1_; have HO121 := n2_; have HO125 := n3_; have HB := n4_; clear n0_ n1_ n2_ n3_ n4_; (try clear hb); (try clear hb2); (try clear hk); (try clear hi); (try clear ho0)) | ((with_reducible refine gate_callee (f := 20) rfl ?_); refine goesL_ (some 25) rfl rfl Try.func20 (by kernel_rfl) rfl #[.slice Ao35 t119.length co35, .int .i64 0, .int .u64 18446744073709551615] rfl (by (try simp only [List.map_toArray, List.map_cons, List.map_nil]); first | done | rfl | (simp only [List.length_drop, List.length_take]; rfl)) ?_; (with_reducible refine (cells_Add.calls (fun k_ => True) _ _ t119 0 18446744073709551615 t127 _ ?side1 A6.out).mono ?_); (case side1 => exact HO121.out); rintro e w37 ⟨v128, rfl, ho0, hb⟩; refine ⟨_, rfl, ?_⟩; have n0_ := Aside0.mk (Kd.R_below (by (with_reducible repeat (first | apply Kd.R_alloc | apply Kd.R_drewN | apply Kd.R_drew)); exact HO115.out) hb); have n1_ := Aside0.mk (Kd.V_below (by (with_reducible repeat (first | apply Kd.V_alloc | apply Kd.V_drewN | apply Kd.V_drew)); exact HO118.out) hb); have n2_ := Aside0.mk (Kd.V_below (by (with_reducible repeat (first | apply Kd.V_alloc | apply Kd.V_drewN | apply Kd.V_drew)); exact HO121.out) hb); have n3_ := Aside0.mk (Kd.V_below (by (with_reducible repeat (first | apply Kd.V_alloc | apply Kd.V_drewN | apply Kd.V_drew)); exact HO125.out) hb); have n4_ := Aside0.mk (Kd.V_lower (Kd.V_mono (ok' := fun k_ => True) ho0 (fun k_ hk_ => trivial)) (below_size (by repeat (first | (with_reducible first | exact HB.out | apply below_alloc | apply pw_below_drewN | apply below_drew1) | exact HB.out)))); have n5_ := Aside0.mk (below_step (by repeat (first | (with_reducible first | exact HB.out | apply below_alloc | apply pw_below_drewN | apply below_drew1) | exact HB.out)) hb); clear HO115; clear HO118; clear HO121; clear HO125; clear HB; have HO115 := n0_; have HO118 := n1_; have HO121 := n2_; have HO125 := n3_; have HO129 := n4_; have HB := n5_; clear n0_ n1_ n2_ n3_ n4_ n5_; (try clear hb); (try clear hb2); (try clear hk); (try clear hi); (try clear ho0)) | ((with_reducible refine gate_callee (f := 15) rfl ?_); refine goesL_ (some 27) rfl rfl Try.func15 (by kernel_rfl) rfl #[.slice Ao33 t116.length co33, .int .i64 1] rfl (by (try simp only [List.map_toArray, List.map_cons, List.map_nil]); first | done | rfl | (simp only [List.length_drop, List.length_take]; rfl)) ?_; (with_reducible refine (cells_Load.calls _ _ t116 1 t130 _ ?side1 ?side2 A7.out).mono ?_); (case side1 => repeat (first | exact (Kd.V_reads' HO118.out).2.2 | (with_reducible refine Kd.C_alloc ?_ _) | (with_reducible refine Kd.C_drewN ?_ _) | (with_reducible refine Kd.C_drew ?_))); (case side2 => exact (Kd.V_reads' HO118.out).2.1); rintro e w' ⟨rfl, ⟨nd, rfl⟩⟩; refine ⟨_, rfl, ?_⟩) | (go_at_call 15; (with_reducible refine (cells_Load.calls _ _ t119 1 t131 _ ?side1 ?side2 A19.out).mono ?_); (case side1 => repeat (first | exact (Kd.V_reads' HO121.out).2.2 | (with_reducible refine Kd.C_alloc ?_ _) | (with_reducible refine Kd.C_drewN ?_ _) | (with_reducible refine Kd.C_drew ?_))); (case side2 => exact (Kd.V_reads' HO121.out).2.1); rintro e w' ⟨rfl, ⟨nd, rfl⟩⟩; obtain ⟨Ao38, co38, eo38⟩ := Kd.V_slice HO129.out; subst eo38) | (go_at_call 15; (with_reducible refine (cells_Load.calls _ _ t127 0 t132 _ ?side1 ?side2 A21.out).mono ?_); (case side1 => repeat (first | exact (Kd.V_reads' HO129.out).2.2 | (with_reducible refine Kd.C_alloc ?_ _) | (with_reducible refine Kd.C_drewN ?_ _) | (with_reducible refine Kd.C_drew ?_))); (case side2 => exact (Kd.V_reads' HO129.out).2.1); rintro e w' ⟨rfl, ⟨nd, rfl⟩⟩) | (go_at_call 15; (with_reducible refine (cells_Load.calls _ _ t127 2 t133 _ ?side1 ?side2 A23.out).mono ?_); (case side1 => repeat (first | exact (Kd.V_reads' HO129.out).2.2 | (with_reducible refine Kd.C_alloc ?_ _) | (with_reducible refine Kd.C_drewN ?_ _) | (with_reducible refine Kd.C_drew ?_))); (case side2 => exact (Kd.V_reads' HO129.out).2.1); rintro e w' ⟨rfl, ⟨nd, rfl⟩⟩) | (go_at_call 18; (with_reducible refine (cells_Store.calls (fun k_ => True) _ _ t127 (-1) 9 t134 _ ?side1 A25.out).mono ?_); (case side1 => exact HO129.out); rintro e w39 ⟨v135, rfl, ho0, hb⟩; have n0_ := Aside0.mk (Kd.R_below (by (with_reducible repeat (first | apply Kd.R_alloc | apply Kd.R_drewN | apply Kd.R_drew)); exact HO115.out) hb); have n1_ := Aside0.mk (Kd.V_below (by (with_reducible repeat (first | apply Kd.V_alloc | apply Kd.V_drewN | apply Kd.V_drew)); exact HO118.out) hb); have n2_ := Aside0.mk (Kd.V_below (by (with_reducible repeat (first | apply Kd.V_alloc | apply Kd.V_drewN | apply Kd.V_drew)); exact HO121.out) hb); have n3_ := Aside0.mk (Kd.V_below (by (with_reducible repeat (first | apply Kd.V_alloc | apply Kd.V_drewN | apply Kd.V_drew)); exact HO125.out) hb); have n4_ := Aside0.mk (Kd.V_below (by (with_reducible repeat (first | apply Kd.V_alloc | apply Kd.V_drewN | apply Kd.V_drew)); exact HO129.out) hb); have n5_ := Aside0.mk (Kd.V_lower (Kd.V_mono (ok' := fun k_ => True) ho0 (fun k_ hk_ => trivial)) (below_size (by repeat (first | (with_reducible first | exact HB.out | apply below_alloc | apply pw_below_drewN | apply below_drew1) | exact HB.out)))); have n6_ := Aside0.mk (below_step (by repeat (first | (with_reducible first | exact HB.out | apply below_alloc | apply pw_below_drewN | apply below_drew1) | exact HB.out)) hb); clear HO115; clear HO118; clear HO121; clear HO125; clear HO129; clear HB; have HO115 := n0_; have HO118 := n1_; have HO121 := n2_; have HO125 := n3_; have HO129 := n4_; have HO136 := n5_; have HB := n6_; clear n0_ n1_ n2_ n3_ n4_ n5_ n6_; (try clear hb); (try clear hb2); (try clear hk); (try clear hi); (try clear ho0); obtain ⟨Ao40, co40, eo40⟩ := Kd.V_slice HO136.out; subst eo40) | (go_at_call 17; (with_reducible refine (lodgerref02_Same.calls k _ _ t134 _ _ t127 true _ ?side1 ?side2 ?side3 ?side4 A26.out).mono ?_); (case side1 => repeat (first | exact (Kd.V_reads' HO136.out).2.2 | (with_reducible refine Kd.C_alloc ?_ _) | (with_reducible refine Kd.C_drewN ?_ _) | (with_reducible refine Kd.C_drew ?_))); (case side2 => exact (Kd.V_reads' HO136.out).2.1); (case side3 => repeat (first | exact (Kd.V_reads' HO129.out).2.2 | (with_reducible refine Kd.C_alloc ?_ _) | (with_reducible refine Kd.C_drewN ?_ _) | (with_reducible refine Kd.C_drew ?_))); (case side4 => exact (Kd.V_reads' HO129.out).2.1); rintro e w' ⟨rfl, ⟨nd, rfl⟩⟩) | (go_at_call 20; (with_reducible refine (cells_Add.calls (fun k_ => True) _ _ t127 0 2 t138 _ ?side1 A28.out).mono ?_); (case side1 => exact HO129.out); rintro e w41 ⟨v139, rfl, ho0, hb⟩; have n0_ := Aside0.mk (Kd.R_below (by (with_reducible repeat (first | apply Kd.R_alloc | apply Kd.R_drewN | apply Kd.R_drew)); exact HO115.out) hb); have n1_ := Aside0.mk (Kd.V_below (by (with_reducible repeat (first | apply Kd.V_alloc | apply Kd.V_drewN | apply Kd.V_drew)); exact HO118.out) hb); have n2_ := Aside0.mk (Kd.V_below (by (with_reducible repeat (first | apply Kd.V_alloc | apply Kd.V_drewN | apply Kd.V_drew)); exact HO121.out) hb); have n3_ := Aside0.mk (Kd.V_below (by (with_reducible repeat (first | apply Kd.V_alloc | apply Kd.V_drewN | apply Kd.V_drew)); exact HO125.out) hb); have n4_ := Aside0.mk (Kd.V_below (by (with_reducible repeat (first | apply Kd.V_alloc | apply Kd.V_drewN | apply Kd.V_drew)); exact HO129.out) hb); have n5_ := Aside0.mk (Kd.V_below (by (with_reducible repeat (first | apply Kd.V_alloc | apply Kd.V_drewN | apply Kd.V_drew)); exact HO136.out) hb); have n6_ := Aside0.mk (Kd.V_lower (Kd.V_mono (ok' := fun k_ => True) ho0 (fun k_ hk_ => trivial)) (below_size (by repeat (first | (with_reducible first | exact HB.out | apply below_alloc | apply pw_below_drewN | apply below_drew1) | exact HB.out)))); have n7_ := Aside0.mk (below_step (by repeat (first | (with_reducible first | exact HB.out | apply below_alloc | apply pw_below_drewN | apply below_drew1) | exact HB.out)) hb); clear HO115; clear HO118; clear HO121; clear HO125; clear HO129; clear HO136; clear HB; have HO115 := n0_; have HO118 := n1_; have HO121 := n2_; have HO125 := n3_; have HO129 := n4_; have HO136 := n5_; have HO140 := n6_; have HB := n7_; clear n0_ n1_ n2_ n3_ n4_ n5_ n6_ n7_; (try clear hb); (try clear hb2); (try clear hk); (try clear hi); (try clear ho0); obtain ⟨Ao42, co42, eo42⟩ := Kd.V_slice HO140.out; subst eo42) | (go_at_call 15; (with_reducible refine (cells_Load.calls _ _ t138 0 t141 _ ?side1 ?side2 A29.out).mono ?_); (case side1 => repeat (first | exact (Kd.V_reads' HO140.out).2.2 | (with_reducible refine Kd.C_alloc ?_ _) | (with_reducible refine Kd.C_drewN ?_ _) | (with_reducible refine Kd.C_drew ?_))); (case side2 => exact (Kd.V_reads' HO140.out).2.1); rintro e w' ⟨rfl, ⟨nd, rfl⟩⟩))
                    go_ret
                    exact ⟨by first | rfl | (simp [errW_none, errW_some] <;> rfl) | (simp [*, errW_none, errW_some] <;> rfl), by repeat (first | (with_reducible first | exact HB.out | apply below_alloc | apply pw_below_drewN | apply below_drew1) | exact HB.out)⟩
                · replace c27 := Bool.eq_false_iff.mpr c27
                  subst c27
                  have H1 : (some false) = some r := by rw [if_neg (show ¬ (false = true) by decide)] at H; exact H
                  rw [hr_.out] at H1
                  exact absurd (Option.some.inj H1) (by decide)
              · rw [if_neg c24] at H
                rw [hr_.out] at H
                exact absurd (Option.some.inj H) (by decide)
            · rw [if_neg c22] at H
              rw [hr_.out] at H
              exact absurd (Option.some.inj H) (by decide)
          · rw [if_neg c20] at H
            rw [hr_.out] at H
            exact absurd (Option.some.inj H) (by decide)
      · replace c9 := Bool.eq_false_iff.mpr c9
        subst c9
        have H1 : (some false) = some r := by rw [if_neg (show ¬ (false = true) by decide)] at H; exact H
        rw [hr_.out] at H1
        exact absurd (Option.some.inj H1) (by decide)
    · rw [if_neg c8] at H
      rw [hr_.out] at H
      exact absurd (Option.some.inj H) (by decide)
  · rw [if_neg c2] at H
    rw [hr_.out] at H
    exact absurd (Option.some.inj H) (by decide)

end Go.Proofs.Ytpkomlobikmkkaa.PCellsSum
