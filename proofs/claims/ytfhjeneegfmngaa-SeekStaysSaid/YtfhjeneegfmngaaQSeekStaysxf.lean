/- The walk of SeekStays, part of it: seek.further ranges over what seek.tops hands out; no condition. -/
import Derived.Test.YtfhjeneegfmngaaQSeekStaysx0
import Derived.Test.YtfhjeneegfmngaaQSeekStaysx1
import Derived.RangeFuncNested
import Derived.RangeFuncBound
import Derived.RangeFuncCalls
import Derived.RangeFuncLeaves
import Derived.Shelf.Abstract
import Derived.Shelf.RegionOpen
import Derived.OwnWalkIn
import Derived.TacticsInMore
import Derived.LoopNIn
import Derived.LoopIn
namespace Go.Proofs.Ytfhjeneegfmngaa.PSeekStays
open Go.RowKit Go.Proofs.YtfhjeneegfmngaaW.PrintWords Go.Proofs.YtfhjeneegfmngaaW.PrintLast Go.Proofs.YtfhjeneegfmngaaW.PrintMore
attribute [local go_sem] max2_int min2_int max_two min_two max_three min_three max_four min_four   -- for this text's walks alone
set_option linter.unusedVariables false
set_option linter.unusedSimpArgs false

open Go.Shelf
attribute [local go_sem] Oper.semAt_some
variable {tb_ : Int → Option Addr × Nat × Nat}

def hasb_ (wd t : Int) : Bool := (Go.bits .and .u64 (shr .u64 wd (IntKind.u64.wrap t)) 1) == 1
theorem hasb_eq (wd t : Int) : bits_Has.f wd t = some (hasb_ wd t) := by
  unfold bits_Has.f hasb_
  rw [if_pos (by simp [IntKind.wrap, IntKind.bits, IntKind.signed]; omega)]
/-- The tops that are handed out, from t on: of whom the word says nothing. -/
def ts_ (wd lo hi : Int) : Nat → Int → List Int
  | 0, _ => []
  | n + 1, t => if t * 64 < hi ∧ lo < hi then (if hasb_ wd t = true then ts_ wd lo hi n (t + 1) else t :: ts_ wd lo hi n (t + 1)) else []
theorem gdN (W : World) (n : Nat) : W.grownBy (W.drewN n) none := ⟨rfl, rfl, rfl, Nat.le_refl _, fun i hi _ => rfl⟩
theorem ts_end {wd lo hi t : Int} {m : Nat} (h : ¬ (t * 64 < hi ∧ lo < hi)) : ts_ wd lo hi m t = [] := by
  cases m with
  | zero => rfl
  | succ m => simp only [ts_]; rw [if_neg h]
set_option maxHeartbeats 8000000 in
set_option maxRecDepth 100000 in
theorem tops1_in (n : Nat) (hn : 1 ≤ n) (l bf bl bh bo n₀ : Nat) (fr lo hi wd t0 : Int) (F : Nat) (h0 : 0 ≤ t0) (h1 : t0 ≤ 1073741824) (h2 : 0 ≤ lo) (h2' : lo ≤ 68719476736) (h3 : hi ≤ 68719476736) (hF : hi ≤ 64 * (F : Int)) (ht0 : (if fr < wrap64 (Int.tdiv lo 64) then wrap64 (Int.tdiv lo 64) else fr) = t0)
    (J Jx : List Int → World → Prop) (W : World) (hJ : AbidesFrom W.heap.size J)
    (hY : ∀ pre x W, J pre W → pre.length < F → YieldAt Fence.wide (n - 1) Try.prog l #[.int .i64 x] W fun e W' =>
      (e = .returned (.bool true) ∧ J (pre ++ [x]) W' ∧ Below n₀ W W') ∨ (e = .returned (.bool false) ∧ Jx (pre ++ [x]) W'))
    (hcf : W.cell? ⟨bf, 0, none⟩ = some (.int .i64 fr)) (hcl : W.cell? ⟨bl, 0, none⟩ = some (.int .i64 lo)) (hch : W.cell? ⟨bh, 0, none⟩ = some (.int .i64 hi)) (hco : W.cell? ⟨bo, 13, none⟩ = some (.int .u64 wd))
    (lf : bf < n₀) (ll : bl < n₀) (lh : bh < n₀) (lo' : bo < n₀) (hW : J [] W) :
    CallsIn Fence.wide n Try.prog 46 #[.func (.yield l) #[] #[], .pointer (some ⟨bf, 0, none⟩), .pointer (some ⟨bl, 0, none⟩), .pointer (some ⟨bh, 0, none⟩), .pointer (some ⟨bo, 0, none⟩)] W fun e W' => (∃ v, e = .returned v) ∧
      ((∃ ys, ys = ts_ wd lo hi F t0 ∧ J ys W') ∨ (∃ pre, pre <+: ts_ wd lo hi F t0 ∧ Jx pre W')) := by
  refine callsIn_of_wp Try.func46 rfl trivial ?_ rfl
  simp only [Try.ntmps46, List.size_toArray, List.length_cons, List.length_nil, Nat.reduceAdd, Nat.reduceSub, Array.replicate_succ, Array.replicate_zero, List.push_toArray, List.append_toArray, List.nil_append, List.cons_append]
  have w1 : wrap64 (Int.tdiv lo 64) = lo / 64 := by rw [Int.tdiv_eq_ediv_of_nonneg h2]; unfold wrap64; omega
  rw [w1] at ht0
  gi_wp2
  all_goals
    gi_loopw [6] (fun p wr => ∃ (pre : List Int) (t : Int) (m : Nat), p = .int .i64 t ∧ ts_ wd lo hi F t0 = pre ++ ts_ wd lo hi m t ∧ pre.length + m ≤ F ∧ hi ≤ t * 64 + 64 * (m : Int) ∧ 0 ≤ t ∧ t ≤ 1073741825 ∧ J pre wr ∧ Below n₀ W wr) (fun p wr => (hi - intOf p * 64).toNat)
    case atStart =>
      exact ⟨[], t0, F, congrArg (Value.int .i64) (by split at ht0 <;> omega), rfl, by simp, by omega, h0, by omega, hW, Below.refl _ _⟩
    obtain ⟨pre, t, m, rfl, hx, hm, hmt, ht1, ht2, hJs, hB⟩ := hrel
    have kl := (hB.cell (p := ⟨bl, 0, none⟩) ll).trans hcl
    have kh := (hB.cell (p := ⟨bh, 0, none⟩) lh).trans hch
    have ko := (hB.cell (p := ⟨bo, 13, none⟩) lo').trans hco
    by_cases c1 : t * 64 < hi
    · by_cases c2 : lo < hi
      · obtain ⟨m, rfl⟩ : ∃ k, m = k + 1 := ⟨m - 1, by omega⟩
        cases c3 : hasb_ wd t with
        | true =>
          gi_wp2_with (refine ⟨trivial, ?_⟩; refine (callsIn_wide.2 (bits_Has.calls wd t true _ (by rw [hasb_eq, c3]))).mono ?_; rintro e w' ⟨rfl, ⟨nd, rfl⟩⟩)
          refine ⟨fun _ h => (by cases h), ?_⟩
          gi_wp2
          refine ⟨⟨pre, t + 1, m, rfl, ?_, by omega, by omega, by omega, by omega, hJ pre _ _ none hJs (gdN _ _) (fun _ h => by cases h), pw_below_drewN hB _⟩, ?_⟩
          · rw [hx]; simp only [ts_]; rw [if_pos ⟨c1, c2⟩, if_pos c3]
          · simp only [intOf]; omega
        | false =>
          gi_wp2_with (refine ⟨trivial, ?_⟩; refine (callsIn_wide.2 (bits_Has.calls wd t false _ (by rw [hasb_eq, c3]))).mono ?_; rintro e w' ⟨rfl, ⟨nd, rfl⟩⟩; obtain ⟨fn, tmps, assign, body, hy, hR⟩ := hY pre t (wr.drewN nd) (hJ pre _ _ none hJs (gdN _ _) (fun _ h => by cases h)) (by omega); try dsimp only at hy)
          refine hR.mono ?_
          rintro e W3 (⟨rfl, hJ3, hK3⟩ | ⟨rfl, hJx3⟩)
          · gi_wp2
            refine ⟨⟨pre ++ [t], t + 1, m, rfl, ?_, by simp; omega, by omega, by omega, by omega, hJ3, (pw_below_drewN hB nd).trans hK3⟩, ?_⟩
            · rw [hx]; simp only [ts_]; rw [if_pos ⟨c1, c2⟩, if_neg (by simp [c3])]; simp
            · simp only [intOf]; omega
          · gi_wp2
            refine bodyPost_ret (results_none rfl _ _ _) rfl ?_
            refine ⟨⟨_, rfl⟩, .inr ⟨pre ++ [t], ?_, hJx3⟩⟩
            rw [hx]; simp only [ts_]; rw [if_pos ⟨c1, c2⟩, if_neg (by simp [c3])]
            exact ⟨ts_ wd lo hi m (t + 1), by simp⟩
      · gi_wp2
        go_end0
        refine ⟨⟨_, rfl⟩, .inl ?_⟩
        have hz := ts_end (wd := wd) (m := m) (show ¬ (t * 64 < hi ∧ lo < hi) by omega)
        rw [hz]
        simpa using hJs
    · gi_wp2
      go_end0
      refine ⟨⟨_, rfl⟩, .inl ?_⟩
      have hz := ts_end (wd := wd) (m := m) (show ¬ (t * 64 < hi ∧ lo < hi) by omega)
      rw [hz]
      simpa using hJs


mutual
def seek_further.l0 : Nat → Int → Int → Int → Int → Int → List Int → Int → Int → Int → Int → Int → Int → Int → Int → Int → Bool → Int → Int → Int → Int → Int → Int → Int → Int → Bool → Int → Int → Int → Int → Int → Option (Int × Int × Int × Int × Int × Bool × Int × Int × Int × Int × Int × Int × Int × Int × Bool × Int × Int × Int × Int × Int)
 | 0, _, _, _, _, _, _, _, _, _, _, _, _, _, _, _, _, _, _, _, _, _, _, _, _, _, _, _, _, _, _ => none
 | k + 1, x7, x44, x45, x117000, x117001, x117002, x117003, x117004, x117005, x117006, x118000, x118001, x118002, x118003, x118004, x118005, x118006, x118007, x118008, x118009, x118010, x118011, x118012, x118013, x118014, x118015, x118016, x118017, x118018, x118019 => if (wrap64 (x7 * 64)) < x45 then (seek_further.j1 k x7 x44 x45 (decide (x44 < x45)) x117000 x117001 x117002 x117003 x117004 x117005 x117006 x118000 x118001 x118002 x118003 x118004 x118005 x118006 x118007 x118008 x118009 x118010 x118011 x118012 x118013 x118014 x118015 x118016 x118017 x118018 x118019) else (seek_further.j1 k x7 x44 x45 false x117000 x117001 x117002 x117003 x117004 x117005 x117006 x118000 x118001 x118002 x118003 x118004 x118005 x118006 x118007 x118008 x118009 x118010 x118011 x118012 x118013 x118014 x118015 x118016 x118017 x118018 x118019)
def seek_further.j1 : Nat → Int → Int → Int → Bool → Int → Int → List Int → Int → Int → Int → Int → Int → Int → Int → Int → Int → Bool → Int → Int → Int → Int → Int → Int → Int → Int → Bool → Int → Int → Int → Int → Int → Option (Int × Int × Int × Int × Int × Bool × Int × Int × Int × Int × Int × Int × Int × Int × Bool × Int × Int × Int × Int × Int)
 | 0, _, _, _, _, _, _, _, _, _, _, _, _, _, _, _, _, _, _, _, _, _, _, _, _, _, _, _, _, _, _, _ => none
 | k + 1, x7, x44, x45, x58, x117000, x117001, x117002, x117003, x117004, x117005, x117006, x118000, x118001, x118002, x118003, x118004, x118005, x118006, x118007, x118008, x118009, x118010, x118011, x118012, x118013, x118014, x118015, x118016, x118017, x118018, x118019 => if x58 = true then ((bits_Has.f x118013 x7).bind fun t121 => (if t121 = true then (seek_further.l0 k (wrap64 (x7 + 1)) x44 x45 x117000 x117001 x117002 x117003 x117004 x117005 x117006 x118000 x118001 x118002 x118003 x118004 x118005 x118006 x118007 x118008 x118009 x118010 x118011 x118012 x118013 x118014 x118015 x118016 x118017 x118018 x118019) else (some (x118000, x118001, x118002, x118003, x118004, x118005, x118006, x118007, x118008, x118009, x118010, x118011, x118012, x118013, x118014, x118015, wrap64 (x7 + 1), x118017, x118018, x118019)))) else (if (wrap64 (x118010 + 1)) ≥ x117003 then (some (x118000, x118001, x118002, x118003, x118004, x118005, x118006, x118007, 6, x118009, wrap64 (x118010 + 1), x118011, x118012, 0, x118014, 0, 0, x118017, x118018, x118019)) else (some (x118000, x118001, x118002, x118003, x118004, x118005, x118006, x118007, x118008, x118009, wrap64 (x118010 + 1), x118011, x118012, 0, x118014, x118015, 0, x118017, x118018, x118019)))
end
def seek_further.f (k : Nat) (a0_0 a0_1 : Int) (l0_2 : List Int) (a0_3 a0_4 : Int) (a0_5 a0_6 : Int) (a1_0 a1_1 : Int) (a1_2 a1_3 a1_4 : Int) (a1_5 : Bool) (a1_6 a1_7 : Int) (a1_8 a1_9 : Int) (a1_10 a1_11 : Int) (a1_12 a1_13 : Int) (a1_14 : Bool) (a1_15 a1_16 : Int) (a1_17 a1_18 : Int) (a1_19 a2 : Int) : Option (Int × Int × Int × Int × Int × Bool × Int × Int × Int × Int × Int × Int × Int × Int × Bool × Int × Int × Int × Int × Int) := (seek_leaves.f a0_0 a0_1 l0_2 a0_3 a0_4 a0_5 a0_6 a1_0 a1_1 a1_2 a1_3 a1_4 a1_5 a1_6 a1_7 a1_8 a1_9 a1_10 a1_11 a1_12 a1_13 a1_14 a1_15 a1_16 a1_17 a1_18 a1_19).bind fun bt119 => (if 0 ≤ a2 ∧ a2 ≤ 1073741824 ∧ 0 ≤ bt119.1 ∧ bt119.1 ≤ 68719476736 ∧ bt119.2 ≤ 68719476736 then (seek_further.l0 k (mx a2 (wrap64 (Int.tdiv bt119.1 64))) bt119.1 bt119.2 a0_0 a0_1 l0_2 a0_3 a0_4 a0_5 a0_6 a1_0 a1_1 a1_2 a1_3 a1_4 a1_5 a1_6 a1_7 a1_8 a1_9 a1_10 a1_11 a1_12 a1_13 a1_14 a1_15 a1_16 a1_17 a1_18 a1_19) else none)
theorem seek_further.mono_l : ∀ k, (∀ y0 y1 y2 y3 y4 y5 y6 y7 y8 y9 y10 y11 y12 y13 y14 y15 y16 y17 y18 y19 y20 y21 y22 y23 y24 y25 y26 y27 y28 y29, LeO (seek_further.l0 k y0 y1 y2 y3 y4 y5 y6 y7 y8 y9 y10 y11 y12 y13 y14 y15 y16 y17 y18 y19 y20 y21 y22 y23 y24 y25 y26 y27 y28 y29) (seek_further.l0 (k + 1) y0 y1 y2 y3 y4 y5 y6 y7 y8 y9 y10 y11 y12 y13 y14 y15 y16 y17 y18 y19 y20 y21 y22 y23 y24 y25 y26 y27 y28 y29)) ∧ (∀ y0 y1 y2 y3 y4 y5 y6 y7 y8 y9 y10 y11 y12 y13 y14 y15 y16 y17 y18 y19 y20 y21 y22 y23 y24 y25 y26 y27 y28 y29 y30, LeO (seek_further.j1 k y0 y1 y2 y3 y4 y5 y6 y7 y8 y9 y10 y11 y12 y13 y14 y15 y16 y17 y18 y19 y20 y21 y22 y23 y24 y25 y26 y27 y28 y29 y30) (seek_further.j1 (k + 1) y0 y1 y2 y3 y4 y5 y6 y7 y8 y9 y10 y11 y12 y13 y14 y15 y16 y17 y18 y19 y20 y21 y22 y23 y24 y25 y26 y27 y28 y29 y30))
 | 0 => ⟨fun _ _ _ _ _ _ _ _ _ _ _ _ _ _ _ _ _ _ _ _ _ _ _ _ _ _ _ _ _ _ r h => by simp [seek_further.l0] at h, fun _ _ _ _ _ _ _ _ _ _ _ _ _ _ _ _ _ _ _ _ _ _ _ _ _ _ _ _ _ _ _ r h => by simp [seek_further.j1] at h⟩
 | k + 1 => by
  obtain ⟨ih0, ih1⟩ := seek_further.mono_l k
  refine ⟨?_, ?_⟩
  ·intro y0 y1 y2 y3 y4 y5 y6 y7 y8 y9 y10 y11 y12 y13 y14 y15 y16 y17 y18 y19 y20 y21 y22 y23 y24 y25 y26 y27 y28 y29
   unfold seek_further.l0
   repeat' (with_reducible first | apply ih0 | apply ih1 | exact LeO.refl _ | exact LeO.none _ | refine LeO.ite ?_ ?_ | refine LeO.bind ?_ (fun _ => ?_))
  ·intro y0 y1 y2 y3 y4 y5 y6 y7 y8 y9 y10 y11 y12 y13 y14 y15 y16 y17 y18 y19 y20 y21 y22 y23 y24 y25 y26 y27 y28 y29 y30
   unfold seek_further.j1
   repeat' (with_reducible first | apply ih0 | apply ih1 | exact LeO.refl _ | exact LeO.none _ | refine LeO.ite ?_ ?_ | refine LeO.bind ?_ (fun _ => ?_))
theorem seek_further.mono : ∀ a0 a1 a2 a3 a4 a5 a6 a7 a8 a9 a10 a11 a12 a13 a14 a15 a16 a17 a18 a19 a20 a21 a22 a23 a24 a25 a26 a27 k, LeO (seek_further.f k a0 a1 a2 a3 a4 a5 a6 a7 a8 a9 a10 a11 a12 a13 a14 a15 a16 a17 a18 a19 a20 a21 a22 a23 a24 a25 a26 a27) (seek_further.f (k + 1) a0 a1 a2 a3 a4 a5 a6 a7 a8 a9 a10 a11 a12 a13 a14 a15 a16 a17 a18 a19 a20 a21 a22 a23 a24 a25 a26 a27) := by
 intro a0 a1 a2 a3 a4 a5 a6 a7 a8 a9 a10 a11 a12 a13 a14 a15 a16 a17 a18 a19 a20 a21 a22 a23 a24 a25 a26 a27 k
 obtain ⟨ih0, ih1⟩ := seek_further.mono_l k
 unfold seek_further.f
 repeat' (with_reducible first | apply ih0 | apply ih1 | exact LeO.refl _ | exact LeO.none _ | refine LeO.ite ?_ ?_ | refine LeO.bind ?_ (fun _ => ?_))

theorem seek_further.l0_ts (a0_0 a0_1 : Int) (l0_2 : List Int) (a0_3 a0_4 a0_5 a0_6 : Int) (a1_0 a1_1 a1_2 a1_3 a1_4 : Int) (a1_5 : Bool) (a1_6 a1_7 a1_8 a1_9 a1_10 a1_11 a1_12 a1_13 : Int) (a1_14 : Bool) (a1_15 a1_16 a1_17 a1_18 a1_19 : Int) (r : Int × Int × Int × Int × Int × Bool × Int × Int × Int × Int × Int × Int × Int × Int × Bool × Int × Int × Int × Int × Int) : ∀ (k : Nat) (t lo hi : Int) (m : Nat), seek_further.l0 k t lo hi a0_0 a0_1 l0_2 a0_3 a0_4 a0_5 a0_6 a1_0 a1_1 a1_2 a1_3 a1_4 a1_5 a1_6 a1_7 a1_8 a1_9 a1_10 a1_11 a1_12 a1_13 a1_14 a1_15 a1_16 a1_17 a1_18 a1_19 = some r → 0 ≤ t → t ≤ 1073741825 → hi ≤ 68719476736 → hi ≤ t * 64 + 64 * (m : Int) →
    r = (match ts_ a1_13 lo hi m t with | x :: _ => (a1_0, a1_1, a1_2, a1_3, a1_4, a1_5, a1_6, a1_7, a1_8, a1_9, a1_10, a1_11, a1_12, a1_13, a1_14, a1_15, wrap64 (x + 1), a1_17, a1_18, a1_19) | [] => if (wrap64 (a1_10 + 1)) ≥ a0_3 then (a1_0, a1_1, a1_2, a1_3, a1_4, a1_5, a1_6, a1_7, 6, a1_9, wrap64 (a1_10 + 1), a1_11, a1_12, 0, a1_14, 0, 0, a1_17, a1_18, a1_19) else (a1_0, a1_1, a1_2, a1_3, a1_4, a1_5, a1_6, a1_7, a1_8, a1_9, wrap64 (a1_10 + 1), a1_11, a1_12, 0, a1_14, a1_15, 0, a1_17, a1_18, a1_19)) := by
  intro k
  induction k using Nat.strongRecOn with
  | _ k ih =>
    intro t lo hi m h h0 h1 h2 h3
    cases k with
    | zero => simp [seek_further.l0] at h
    | succ k =>
      simp only [seek_further.l0] at h
      rw [show wrap64 (t * 64) = t * 64 by unfold wrap64; omega] at h
      have tl : ∀ b, seek_further.j1 k t lo hi b a0_0 a0_1 l0_2 a0_3 a0_4 a0_5 a0_6 a1_0 a1_1 a1_2 a1_3 a1_4 a1_5 a1_6 a1_7 a1_8 a1_9 a1_10 a1_11 a1_12 a1_13 a1_14 a1_15 a1_16 a1_17 a1_18 a1_19 = some r → (b = true → t * 64 < hi ∧ lo < hi) → (b = false → ¬ (t * 64 < hi ∧ lo < hi)) → r = (match ts_ a1_13 lo hi m t with | x :: _ => (a1_0, a1_1, a1_2, a1_3, a1_4, a1_5, a1_6, a1_7, a1_8, a1_9, a1_10, a1_11, a1_12, a1_13, a1_14, a1_15, wrap64 (x + 1), a1_17, a1_18, a1_19) | [] => if (wrap64 (a1_10 + 1)) ≥ a0_3 then (a1_0, a1_1, a1_2, a1_3, a1_4, a1_5, a1_6, a1_7, 6, a1_9, wrap64 (a1_10 + 1), a1_11, a1_12, 0, a1_14, 0, 0, a1_17, a1_18, a1_19) else (a1_0, a1_1, a1_2, a1_3, a1_4, a1_5, a1_6, a1_7, a1_8, a1_9, wrap64 (a1_10 + 1), a1_11, a1_12, 0, a1_14, a1_15, 0, a1_17, a1_18, a1_19)) := by
        intro b hj hb1 hb2
        cases k with
        | zero => simp [seek_further.j1] at hj
        | succ k =>
          simp only [seek_further.j1] at hj
          cases b with
          | true =>
            obtain ⟨c1, c2⟩ := hb1 rfl
            obtain ⟨m, rfl⟩ : ∃ j, m = j + 1 := ⟨m - 1, by omega⟩
            rw [if_pos rfl, hasb_eq, Option.bind_some] at hj
            simp only [ts_]
            rw [if_pos ⟨c1, c2⟩]
            cases c3 : hasb_ a1_13 t with
            | true =>
              rw [c3, if_pos rfl, show wrap64 (t + 1) = t + 1 by unfold wrap64; omega] at hj
              rw [if_pos rfl]
              exact ih k (by omega) (t + 1) lo hi m hj (by omega) (by omega) h2 (by omega)
            | false =>
              rw [c3, if_neg (by simp)] at hj
              rw [if_neg (by simp)]
              exact (Option.some.inj hj).symm
          | false =>
            rw [if_neg (by simp)] at hj
            rw [ts_end (hb2 rfl)]
            by_cases c : (wrap64 (a1_10 + 1)) ≥ a0_3
            · rw [if_pos c] at hj; simp only; rw [if_pos c]; exact (Option.some.inj hj).symm
            · rw [if_neg c] at hj; simp only; rw [if_neg c]; exact (Option.some.inj hj).symm
      by_cases c1 : t * 64 < hi
      · rw [if_pos c1] at h
        exact tl _ h (fun hb => ⟨c1, of_decide_eq_true hb⟩) (fun hb hc => absurd hc.2 (of_decide_eq_false hb))
      · rw [if_neg c1] at h
        exact tl _ h (fun hb => by cases hb) (fun _ hc => c1 hc.1)
theorem runI_ {F : Fence} {n : Nat} {P : Program} {ops : Array Oper} {rest : List Oper} {o : Oper} {a : Act} {Q : Exit → Act → World → Prop} {w w1 : World} {v : Value} (hg : o.guard = none) (hF : ∀ f, F.fn f) (hnd : ∀ c, o.op ≠ .defer c) (hrun : (execOp a.eval o).run P w = .ok (.value v) w1) (h : wpListIn F n P ops Q rest (a.put o.dst v) w1) : wpListIn F n P ops Q (o :: rest) a w := by
  refine wpListIn_plain hg fun K hK => ?_
  refine ⟨fun f _ => hF f, ?_⟩
  rw [Oper.semAt_plain F _ _ hnd, hrun]
  exact hK _ _ h
theorem gdI_ {F : Fence} {n : Nat} {P : Program} {ops : Array Oper} {rest : List Oper} {o : Oper} {a : Act} {Q : Exit → Act → World → Prop} {w : World} (N : Tmp) (h : wpListIn F n P ops Q (o :: rest) a w) (hN : o.dst = some N := by rfl) : wpListIn F n P ops Q (o :: rest) a w := h
theorem gsI_ {F : Fence} {n : Nat} {P : Program} {ops : Array Oper} {rest : List Oper} {o : Oper} {a : Act} {Q : Exit → Act → World → Prop} {w : World} {ty : TypeId} {x y : Operand} (ho : o.op = .store ty x y) (h : wpListIn F n P ops Q (o :: rest) a w) : wpListIn F n P ops Q (o :: rest) a w := h
theorem bxI_ {F : Fence} {n : Nat} {P : Program} {ops : Array Oper} {rest : List Oper} {o : Oper} {a : Act} {Q : Exit → Act → World → Prop} {W : World} (cs : Array Value) (t : TypeId) (hF : ∀ f, F.fn f)
    (h : ∀ g, g = W.heap.size → ∀ w1, Aside0 (w1.heap[g]? = some (.cells cs t (0, 0))) → Below W.heap.size W w1 → wpListIn F n P ops Q rest (a.put o.dst (.pointer (some ⟨g, 0, none⟩))) w1) (hg : o.guard = none := by rfl) (hnd : ∀ c, o.op ≠ .defer c := by intro c hc; cases hc)
    (hrun : (execOp a.eval o).run P W = .ok (.value (.pointer (some ⟨W.heap.size, 0, none⟩))) (W.alloc (.cells cs t (0, 0))) := by first | (go_simp; done) | (go_simp; rfl)) : wpListIn F n P ops Q (o :: rest) a W :=
  runI_ hg hF hnd hrun (h _ rfl _ ⟨blk_new W _⟩ (below_alloc (Below.refl _ _) _))
theorem ldI_ {F : Fence} {n : Nat} {P : Program} {ops : Array Oper} {rest : List Oper} {o : Oper} {a : Act} {Q : Exit → Act → World → Prop} {w : World} {ty : TypeId} {x : Operand} {g : Nat} {t : TypeId} {cs : Array Value} {d : TypeDesc} (hF : ∀ f, F.fn f) (hg : Aside0 (w.heap[g]? = some (.cells cs t (0, 0)))) (hu : P.underlying ty = some d)
    (h : wpListIn F n P ops Q rest (a.put o.dst (.agg cs)) w) (hgd : o.guard = none := by rfl) (ho : o.op = .load ty x := by rfl) (hx : a.eval x = .pointer (some ⟨g, 0, none⟩) := by rfl)
    (hd : (match d with | .struct _ | .array _ _ => true | _ => false) = true := by rfl) (hi : (P.info? ty).map (·.size) = some cs.size := by kernel_rfl) : wpListIn F n P ops Q (o :: rest) a w := by
  refine runI_ hgd hF (fun c hc => by rw [ho] at hc; cases hc) ?_ h
  unfold execOp
  simp only [ho, hx, Instr.loadAt, Instr.sureAddr, Sem.run_bind, Sem.run_pure, Result.andThen_ok, run_loadVar_row w g t ty cs (0, 0) d hg.out hu hd hi]
theorem stI_ {F : Fence} {n : Nat} {P : Program} {ops : Array Oper} {rest : List Oper} {o : Oper} {a : Act} {Q : Exit → Act → World → Prop} {w : World} {ty : TypeId} {x y : Operand} {g : Nat} {t : TypeId} {old cells : Array Value} (hF : ∀ f, F.fn f) (hg : Aside0 (w.heap[g]? = some (.cells old t (0, 0))))
    (h : wpListIn F n P ops Q rest (a.put o.dst undef) (w.setRow g cells)) (hgd : o.guard = none := by rfl) (ho : o.op = .store ty x y := by rfl) (hx : a.eval x = .pointer (some ⟨g, 0, none⟩) := by rfl) (hy : a.eval y = .agg cells := by rfl)
    (hi : (P.info? ty).map (·.size) = some cells.size := by kernel_rfl) (hold : old.size = cells.size := by rfl) (h1 : cells.all (·.oneCell') = true := by first | rfl | (simp [Value.oneCell']; done)) : wpListIn F n P ops Q (o :: rest) a w := by
  refine wpListIn_plain hgd fun K hK => ?_
  refine ⟨fun f _ => hF f, ?_⟩
  rw [Oper.semAt_plain F _ _ (fun c hc => by rw [ho] at hc; cases hc)]
  unfold execOp
  simp only [ho, hx, hy, Instr.storeAt, Instr.sureAddr, Sem.run_bind, Sem.run_pure, Result.andThen_ok, run_storeVar_row w g t ty old cells hg.out hi hold h1]
  exact hK _ _ h
theorem koRow {W : World} {g : Nat} {t : TypeId} {cs cs' : Array Value} {fr : Nat × Nat} (h : W.heap[g]? = some (.cells cs t fr)) : KeepsOthers W (W.setRow g cs') :=
  ⟨by simp, fun k o hk ho => by
    have hne : k ≠ g := by
      intro e
      subst e
      rw [h] at hk
      cases hk
      cases ho
    rw [setRow_other W g k cs' hne]; exact hk⟩
theorem tops1_stops (n : Nat) (hn : 1 ≤ n) (bf bl bh bo n₀ : Nat) (fr lo hi wd t0 : Int) (F : Nat) (h0 : 0 ≤ t0) (h1 : t0 ≤ 1073741824) (h2 : 0 ≤ lo) (h2' : lo ≤ 68719476736) (h3 : hi ≤ 68719476736) (hF : hi ≤ 64 * (F : Int)) (ht0 : (if fr < wrap64 (Int.tdiv lo 64) then wrap64 (Int.tdiv lo 64) else fr) = t0) (w : World)
    (hcf : w.cell? ⟨bf, 0, none⟩ = some (.int .i64 fr)) (hcl : w.cell? ⟨bl, 0, none⟩ = some (.int .i64 lo)) (hch : w.cell? ⟨bh, 0, none⟩ = some (.int .i64 hi)) (hco : w.cell? ⟨bo, 13, none⟩ = some (.int .u64 wd)) :
    SeqStopsK Fence.wide n Try.prog 46 #[.pointer (some ⟨bf, 0, none⟩), .pointer (some ⟨bl, 0, none⟩), .pointer (some ⟨bh, 0, none⟩), .pointer (some ⟨bo, 0, none⟩)] (fun x : Int => #[.int .i64 x]) (Below w.heap.size) (fun ys => ys = ts_ wd lo hi F t0) (fun pre => pre <+: ts_ wd lo hi F t0) F w :=
  fun l J Jx W hW hJ hJx hY hJ0 => by
    have kf := World.block_lt_of_cell? w _ hcf
    have kl := World.block_lt_of_cell? w _ hcl
    have kh := World.block_lt_of_cell? w _ hch
    have ko := World.block_lt_of_cell? w _ hco
    exact tops1_in n hn l bf bl bh bo w.heap.size fr lo hi wd t0 F h0 h1 h2 h2' h3 hF ht0 J Jx W hJ hY ((hW.cell (p := ⟨bf, 0, none⟩) kf).trans hcf) ((hW.cell (p := ⟨bl, 0, none⟩) kl).trans hcl) ((hW.cell (p := ⟨bh, 0, none⟩) kh).trans hch) ((hW.cell (p := ⟨bo, 13, none⟩) ko).trans hco) kf kl kh ko hJ0
set_option maxHeartbeats 8000000 in
set_option maxRecDepth 100000 in
theorem seek_further.calls (k : Nat) (a0_0 a0_1 : Int) (A0_2 : Option Addr) (c0_2 : Nat) (l0_2 : List Int) (a0_3 a0_4 a0_5 a0_6 : Int) (a1_0 a1_1 a1_2 a1_3 a1_4 : Int) (a1_5 : Bool) (a1_6 a1_7 a1_8 a1_9 a1_10 a1_11 a1_12 a1_13 : Int) (a1_14 : Bool) (a1_15 a1_16 a1_17 a1_18 a1_19 : Int) (a2 : Int) (r1 r2 r3 r4 r5 : Int) (r6 : Bool) (r7 r8 r9 r10 r11 r12 r13 r14 : Int) (r15 : Bool) (r16 r17 r18 r19 r20 : Int) (w : World) (hr0_2 : Kd.C (Kd.int .i64) w A0_2 l0_2.length l0_2) (hc0_2 : l0_2.length ≤ c0_2) (h : seek_further.f k a0_0 a0_1 l0_2 a0_3 a0_4 a0_5 a0_6 a1_0 a1_1 a1_2 a1_3 a1_4 a1_5 a1_6 a1_7 a1_8 a1_9 a1_10 a1_11 a1_12 a1_13 a1_14 a1_15 a1_16 a1_17 a1_18 a1_19 a2 = some (r1, r2, r3, r4, r5, r6, r7, r8, r9, r10, r11, r12, r13, r14, r15, r16, r17, r18, r19, r20)) :
    Calls Try.prog 29 #[.agg #[.int .u32 a0_0, .int .i64 a0_1, .slice A0_2 l0_2.length c0_2, .int .i64 a0_3, .int .i64 a0_4, .int .i64 a0_5, .int .i64 a0_6], .agg #[.int .i64 a1_0, .int .u32 a1_1, rho_ tb_ a1_2, .int .i64 a1_3, .int .u32 a1_4, .bool a1_5, rho_ tb_ a1_6, rho_ tb_ a1_7, .int .i64 a1_8, .int .i64 a1_9, .int .i64 a1_10, .int .i64 a1_11, .int .i64 a1_12, .int .u64 a1_13, .bool a1_14, rho_ tb_ a1_15, .int .i64 a1_16, .int .i64 a1_17, .int .i64 a1_18, .int .i64 a1_19], .int .i64 a2] w fun e w' => e = .returned (.agg #[.int .i64 r1, .int .u32 r2, rho_ tb_ r3, .int .i64 r4, .int .u32 r5, .bool r6, rho_ tb_ r7, rho_ tb_ r8, .int .i64 r9, .int .i64 r10, .int .i64 r11, .int .i64 r12, .int .i64 r13, .int .u64 r14, .bool r15, rho_ tb_ r16, .int .i64 r17, .int .i64 r18, .int .i64 r19, .int .i64 r20]) ∧ Below w.heap.size w w' := by
  have hu27 := Try.underlying27
  have hu41 := Try.underlying41
  have HR0_2 := Aside0.mk hr0_2
  have HC0_2 := Aside0.mk hc0_2
  clear hr0_2 hc0_2
  unfold seek_further.f at h
  obtain ⟨⟨lo, hi⟩, A4, h⟩ := Option.bind_eq_some_iff.mp h
  by_cases cg : 0 ≤ a2 ∧ a2 ≤ 1073741824 ∧ 0 ≤ lo ∧ lo ≤ 68719476736 ∧ hi ≤ 68719476736
  rotate_left
  · rw [if_neg cg] at h; cases h
  rw [if_pos cg] at h
  obtain ⟨g1, g2, g3', g4', g5'⟩ := cg
  have w1 : wrap64 (Int.tdiv lo 64) = lo / 64 := by rw [Int.tdiv_eq_ediv_of_nonneg g3']; unfold wrap64; omega
  have hmx : mx a2 (wrap64 (Int.tdiv lo 64)) = (if a2 < wrap64 (Int.tdiv lo 64) then wrap64 (Int.tdiv lo 64) else a2) := rfl
  obtain ⟨t0, ht0⟩ : ∃ t0, (if a2 < wrap64 (Int.tdiv lo 64) then wrap64 (Int.tdiv lo 64) else a2) = t0 := ⟨_, rfl⟩
  rw [hmx, ht0] at h
  have ht1 : 0 ≤ t0 ∧ t0 ≤ 1073741824 := by rw [w1] at ht0; split at ht0 <;> omega
  have hr := seek_further.l0_ts a0_0 a0_1 l0_2 a0_3 a0_4 a0_5 a0_6 a1_0 a1_1 a1_2 a1_3 a1_4 a1_5 a1_6 a1_7 a1_8 a1_9 a1_10 a1_11 a1_12 a1_13 a1_14 a1_15 a1_16 a1_17 a1_18 a1_19 _ k t0 lo hi 1073741824 h ht1.1 (by omega) g5' (by omega)
  have HB := Aside0.mk (Below.refl w.heap.size w)
  refine (callsIn_wide (n := 6)).1 ?_
  refine callsIn_of_wp_marks Try.func29 rfl trivial ?_ rfl
  simp only [Try.ntmps29, List.size_toArray, List.length_cons, List.length_nil, Nat.reduceAdd, Nat.reduceSub, Array.replicate_succ, Array.replicate_zero, List.push_toArray, List.append_toArray, List.nil_append, List.cons_append]
  gi_wp2_with (first
    | ((with_reducible refine gdI_ 3 ?_); refine bxI_ #[.int .u32 a0_0, .int .i64 a0_1, .slice A0_2 l0_2.length c0_2, .int .i64 a0_3, .int .i64 a0_4, .int .i64 a0_5, .int .i64 a0_6] 27 (fun _ => trivial) ?_; intro g3 hg w3 B3 hb; have G3 := gG_ hg HB; replace HB := hS_ HB hb; clear hb hg)
    | ((with_reducible refine gdI_ 4 ?_); refine bxI_ #[.int .i64 a1_0, .int .u32 a1_1, rho_ tb_ a1_2, .int .i64 a1_3, .int .u32 a1_4, .bool a1_5, rho_ tb_ a1_6, rho_ tb_ a1_7, .int .i64 a1_8, .int .i64 a1_9, .int .i64 a1_10, .int .i64 a1_11, .int .i64 a1_12, .int .u64 a1_13, .bool a1_14, rho_ tb_ a1_15, .int .i64 a1_16, .int .i64 a1_17, .int .i64 a1_18, .int .i64 a1_19] 41 (fun _ => trivial) ?_; intro g4 hg w4 B4 hb; have G4 := gG_ hg HB; have N34 := nL_ hg B3; replace B3 := bB_ B3 hb; replace HB := hS_ HB hb; clear hb hg)
    | ((with_reducible refine gdI_ 6 ?_); refine bxI_ #[.int .i64 0, .int .u32 0, rho_ tb_ 0, .int .i64 0, .int .u32 0, .bool false, rho_ tb_ 0, rho_ tb_ 0, .int .i64 0, .int .i64 0, .int .i64 0, .int .i64 0, .int .i64 0, .int .u64 0, .bool false, rho_ tb_ 0, .int .i64 0, .int .i64 0, .int .i64 0, .int .i64 0] 41 (fun _ => trivial) ?_; intro g6 hg w6 B6 hb; have G6 := gG_ hg HB; have N36 := nL_ hg B3; have N46 := nL_ hg B4; replace B3 := bB_ B3 hb; replace B4 := bB_ B4 hb; replace HB := hS_ HB hb; clear hb hg)
    | ((with_reducible refine gdI_ 8 ?_); refine ldI_ (fun _ => trivial) B3 hu27 ?_)
    | ((with_reducible refine gdI_ 9 ?_); refine ldI_ (fun _ => trivial) B4 hu41 ?_)
    | (refine ⟨trivial, ?_⟩; refine (callsIn_wide.2 (seek_tops.calls (tb_ := tb_) a0_0 a0_1 A0_2 c0_2 l0_2 a0_3 a0_4 a0_5 a0_6 a1_0 a1_1 a1_2 a1_3 a1_4 a1_5 a1_6 a1_7 a1_8 a1_9 a1_10 a1_11 a1_12 a1_13 a1_14 a1_15 a1_16 a1_17 a1_18 a1_19 a2 lo hi _ (cC_ HR0_2 HB) HC0_2.out A4)).mono ?_; rintro e w7 ⟨bf, bl, bh, bo, rfl, kf, kl, kh, ko, hb⟩; replace B3 := bB_ B3 hb; replace B4 := bB_ B4 hb; replace B6 := bB_ B6 hb; replace HB := hS_ HB hb; clear hb))
  have hF2 : ∀ (l : Nat) f, (Fence.wide.inRound l).fn f := fun _ _ => trivial
  refine wpIn_rangeFunc_ownF rfl (by omega) (gf := 46) (lb := #[.pointer (some ⟨bf, 0, none⟩), .pointer (some ⟨bl, 0, none⟩), .pointer (some ⟨bh, 0, none⟩), .pointer (some ⟨bo, 0, none⟩)]) rfl trivial (enters_of Try.func46 (by kernel_rfl) rfl)
    (tops1_stops 5 (by omega) bf bl bh bo 0 a2 lo hi a1_13 t0 1073741824 ht1.1 ht1.2 g3' g4' g5' (by omega) ht0 w7 kf kl kh ko) belowK_t (belowK_b (Nat.le_refl _)) (Below.refl _ _) (fun _ => rfl)
    (fun pre W => (pre = [] ∧ W.heap[g3]? = some (.cells #[.int .u32 a0_0, .int .i64 a0_1, .slice A0_2 l0_2.length c0_2, .int .i64 a0_3, .int .i64 a0_4, .int .i64 a0_5, .int .i64 a0_6] 27 (0, 0)) ∧ W.heap[g4]? = some (.cells #[.int .i64 a1_0, .int .u32 a1_1, rho_ tb_ a1_2, .int .i64 a1_3, .int .u32 a1_4, .bool a1_5, rho_ tb_ a1_6, rho_ tb_ a1_7, .int .i64 a1_8, .int .i64 a1_9, .int .i64 a1_10, .int .i64 a1_11, .int .i64 a1_12, .int .u64 a1_13, .bool a1_14, rho_ tb_ a1_15, .int .i64 a1_16, .int .i64 a1_17, .int .i64 a1_18, .int .i64 a1_19] 41 (0, 0)) ∧ W.heap[g6]? = some (.cells #[.int .i64 0, .int .u32 0, rho_ tb_ 0, .int .i64 0, .int .u32 0, .bool false, rho_ tb_ 0, rho_ tb_ 0, .int .i64 0, .int .i64 0, .int .i64 0, .int .i64 0, .int .i64 0, .int .u64 0, .bool false, rho_ tb_ 0, .int .i64 0, .int .i64 0, .int .i64 0, .int .i64 0] 41 (0, 0))) ∧ Below w.heap.size w W)
    (fun c pre W => (c = .ret ∧ ∃ x, pre = [x] ∧ W.heap[g6]? = some (.cells #[.int .i64 a1_0, .int .u32 a1_1, rho_ tb_ a1_2, .int .i64 a1_3, .int .u32 a1_4, .bool a1_5, rho_ tb_ a1_6, rho_ tb_ a1_7, .int .i64 a1_8, .int .i64 a1_9, .int .i64 a1_10, .int .i64 a1_11, .int .i64 a1_12, .int .u64 a1_13, .bool a1_14, rho_ tb_ a1_15, .int .i64 (wrap64 (x + 1)), .int .i64 a1_17, .int .i64 a1_18, .int .i64 a1_19] 41 (0, 0))) ∧ Below w.heap.size w W)
    (OwnFrom.and (Own.from (fun s A B row hs hg hr => ⟨hs.1, (grownBy_keeps_cells hg hr hs.2.1 rfl).trans hs.2.1, (grownBy_keeps_cells hg hr hs.2.2.1 rfl).trans hs.2.2.1, (grownBy_keeps_cells hg hr hs.2.2.2 rfl).trans hs.2.2.2⟩) _) (ownFrom_below (Nat.le_refl _) HB.out.size))
    (fun c => OwnFrom.and (Own.from (fun s A B row hs hg hr => ⟨hs.1, hs.2.elim fun x hx => ⟨x, hx.1, (grownBy_keeps_cells hg hr hx.2 rfl).trans hx.2⟩⟩) _) (ownFrom_below (Nat.le_refl _) HB.out.size))
    ⟨⟨rfl, B3.out, B4.out, B6.out⟩, HB.out⟩
    (fun x => { tmps := #[.agg #[.int .u32 a0_0, .int .i64 a0_1, .slice A0_2 l0_2.length c0_2, .int .i64 a0_3, .int .i64 a0_4, .int .i64 a0_5, .int .i64 a0_6], .agg #[.int .i64 a1_0, .int .u32 a1_1, rho_ tb_ a1_2, .int .i64 a1_3, .int .u32 a1_4, .bool a1_5, rho_ tb_ a1_6, rho_ tb_ a1_7, .int .i64 a1_8, .int .i64 a1_9, .int .i64 a1_10, .int .i64 a1_11, .int .i64 a1_12, .int .u64 a1_13, .bool a1_14, rho_ tb_ a1_15, .int .i64 a1_16, .int .i64 a1_17, .int .i64 a1_18, .int .i64 a1_19], .int .i64 a2, .pointer (some ⟨g3, 0, none⟩), .pointer (some ⟨g4, 0, none⟩), undef, .pointer (some ⟨g6, 0, none⟩), .int .i64 x, .agg #[.int .u32 a0_0, .int .i64 a0_1, .slice A0_2 l0_2.length c0_2, .int .i64 a0_3, .int .i64 a0_4, .int .i64 a0_5, .int .i64 a0_6], .agg #[.int .i64 a1_0, .int .u32 a1_1, rho_ tb_ a1_2, .int .i64 a1_3, .int .u32 a1_4, .bool a1_5, rho_ tb_ a1_6, rho_ tb_ a1_7, .int .i64 a1_8, .int .i64 a1_9, .int .i64 a1_10, .int .i64 a1_11, .int .i64 a1_12, .int .u64 a1_13, .bool a1_14, rho_ tb_ a1_15, .int .i64 a1_16, .int .i64 a1_17, .int .i64 a1_18, .int .i64 a1_19], .int .i64 a2, .func (.func 46) #[] #[.pointer (some ⟨bf, 0, none⟩), .pointer (some ⟨bl, 0, none⟩), .pointer (some ⟨bh, 0, none⟩), .pointer (some ⟨bo, 0, none⟩)], .int .i64 x, undef, undef, undef, undef, undef, undef, undef, undef, undef, undef, undef, undef, undef, undef, undef, undef, undef, undef], defers := [] }) ?assign ?body ?done ?stop
  case assign =>
    intro l x W K hK
    gi_wp2
    exact hK
  case body =>
    rintro l pre x W ⟨⟨rfl, C3, C4, C6⟩, hB⟩ _
    have c16 : W.cell? ⟨g4, 16, none⟩ = some (.int .i64 a1_16) := (blk_cell C4 16).trans rfl
    have f16 := blk_frozen C4 16
    have D4 := Aside0.mk (blk_put (cs := #[.int .i64 a1_0, .int .u32 a1_1, rho_ tb_ a1_2, .int .i64 a1_3, .int .u32 a1_4, .bool a1_5, rho_ tb_ a1_6, rho_ tb_ a1_7, .int .i64 a1_8, .int .i64 a1_9, .int .i64 a1_10, .int .i64 a1_11, .int .i64 a1_12, .int .u64 a1_13, .bool a1_14, rho_ tb_ a1_15, .int .i64 a1_16, .int .i64 a1_17, .int .i64 a1_18, .int .i64 a1_19]) (cs' := #[.int .i64 a1_0, .int .u32 a1_1, rho_ tb_ a1_2, .int .i64 a1_3, .int .u32 a1_4, .bool a1_5, rho_ tb_ a1_6, rho_ tb_ a1_7, .int .i64 a1_8, .int .i64 a1_9, .int .i64 a1_10, .int .i64 a1_11, .int .i64 a1_12, .int .u64 a1_13, .bool a1_14, rho_ tb_ a1_15, .int .i64 (wrap64 (x + 1)), .int .i64 a1_17, .int .i64 a1_18, .int .i64 a1_19]) C4 16 (.int .i64 (wrap64 (x + 1))) rfl)
    have D6 := Aside0.mk (blk_far (p := ⟨g4, 16, none⟩) C6 N46.out.symm (.int .i64 (wrap64 (x + 1))))
    gi_wp2_with (first
      | ((with_reducible refine gdI_ 16 ?_); refine ldI_ (hF2 l) D4 hu41 ?_)
      | ((with_reducible refine gsI_ (ty := 41) rfl ?_); refine stI_ (hF2 l) D6 ?_))
    refine ⟨(KeepsOthers.setCell _ _ _).trans (koRow D6.out), ⟨rfl, x, rfl, setRow_heap _ _ _ _ _ _ D6.out⟩, below_setRow (below_set hB G4.out) G6.out _⟩
  case done =>
    rintro D ys W hD hys ⟨⟨rfl, C3, C4, C6⟩, hB⟩ hK
    rw [← hys] at hr
    simp only at hr
    have k3 : W.cell? ⟨g3, 3, none⟩ = some (.int .i64 a0_3) := (blk_cell C3 3).trans rfl
    have c8 : W.cell? ⟨g4, 8, none⟩ = some (.int .i64 a1_8) := (blk_cell C4 8).trans rfl
    have f8 := blk_frozen C4 8
    have c10 : W.cell? ⟨g4, 10, none⟩ = some (.int .i64 a1_10) := (blk_cell C4 10).trans rfl
    have f10 := blk_frozen C4 10
    have c13 : W.cell? ⟨g4, 13, none⟩ = some (.int .u64 a1_13) := (blk_cell C4 13).trans rfl
    have f13 := blk_frozen C4 13
    have c15 : W.cell? ⟨g4, 15, none⟩ = some (rho_ tb_ a1_15) := (blk_cell C4 15).trans rfl
    have f15 := blk_frozen C4 15
    have c16 : W.cell? ⟨g4, 16, none⟩ = some (.int .i64 a1_16) := (blk_cell C4 16).trans rfl
    have f16 := blk_frozen C4 16
    have n34 := N34.out
    have n43 := N34.out.symm
    have D4 := Aside0.mk (blk_put (cs := #[.int .i64 a1_0, .int .u32 a1_1, rho_ tb_ a1_2, .int .i64 a1_3, .int .u32 a1_4, .bool a1_5, rho_ tb_ a1_6, rho_ tb_ a1_7, .int .i64 a1_8, .int .i64 a1_9, .int .i64 (wrap64 (a1_10 + 1)), .int .i64 a1_11, .int .i64 a1_12, .int .u64 0, .bool a1_14, rho_ tb_ a1_15, .int .i64 a1_16, .int .i64 a1_17, .int .i64 a1_18, .int .i64 a1_19]) (cs' := #[.int .i64 a1_0, .int .u32 a1_1, rho_ tb_ a1_2, .int .i64 a1_3, .int .u32 a1_4, .bool a1_5, rho_ tb_ a1_6, rho_ tb_ a1_7, .int .i64 a1_8, .int .i64 a1_9, .int .i64 (wrap64 (a1_10 + 1)), .int .i64 a1_11, .int .i64 a1_12, .int .u64 0, .bool a1_14, rho_ tb_ a1_15, .int .i64 0, .int .i64 a1_17, .int .i64 a1_18, .int .i64 a1_19]) (blk_put (cs := #[.int .i64 a1_0, .int .u32 a1_1, rho_ tb_ a1_2, .int .i64 a1_3, .int .u32 a1_4, .bool a1_5, rho_ tb_ a1_6, rho_ tb_ a1_7, .int .i64 a1_8, .int .i64 a1_9, .int .i64 (wrap64 (a1_10 + 1)), .int .i64 a1_11, .int .i64 a1_12, .int .u64 a1_13, .bool a1_14, rho_ tb_ a1_15, .int .i64 a1_16, .int .i64 a1_17, .int .i64 a1_18, .int .i64 a1_19]) (cs' := #[.int .i64 a1_0, .int .u32 a1_1, rho_ tb_ a1_2, .int .i64 a1_3, .int .u32 a1_4, .bool a1_5, rho_ tb_ a1_6, rho_ tb_ a1_7, .int .i64 a1_8, .int .i64 a1_9, .int .i64 (wrap64 (a1_10 + 1)), .int .i64 a1_11, .int .i64 a1_12, .int .u64 0, .bool a1_14, rho_ tb_ a1_15, .int .i64 a1_16, .int .i64 a1_17, .int .i64 a1_18, .int .i64 a1_19]) (blk_put (cs := #[.int .i64 a1_0, .int .u32 a1_1, rho_ tb_ a1_2, .int .i64 a1_3, .int .u32 a1_4, .bool a1_5, rho_ tb_ a1_6, rho_ tb_ a1_7, .int .i64 a1_8, .int .i64 a1_9, .int .i64 a1_10, .int .i64 a1_11, .int .i64 a1_12, .int .u64 a1_13, .bool a1_14, rho_ tb_ a1_15, .int .i64 a1_16, .int .i64 a1_17, .int .i64 a1_18, .int .i64 a1_19]) (cs' := #[.int .i64 a1_0, .int .u32 a1_1, rho_ tb_ a1_2, .int .i64 a1_3, .int .u32 a1_4, .bool a1_5, rho_ tb_ a1_6, rho_ tb_ a1_7, .int .i64 a1_8, .int .i64 a1_9, .int .i64 (wrap64 (a1_10 + 1)), .int .i64 a1_11, .int .i64 a1_12, .int .u64 a1_13, .bool a1_14, rho_ tb_ a1_15, .int .i64 a1_16, .int .i64 a1_17, .int .i64 a1_18, .int .i64 a1_19]) C4 10 (.int .i64 (wrap64 (a1_10 + 1))) rfl) 13 (.int .u64 0) rfl) 16 (.int .i64 0) rfl)
    have D6 := Aside0.mk (blk_far (p := ⟨g4, 16, none⟩) (blk_far (p := ⟨g4, 13, none⟩) (blk_far (p := ⟨g4, 10, none⟩) C6 N46.out.symm (.int .i64 (wrap64 (a1_10 + 1)))) N46.out.symm (.int .u64 0)) N46.out.symm (.int .i64 0))
    by_cases cs : wrap64 (a1_10 + 1) ≥ a0_3
    · rw [if_pos cs] at hr
      simp only [Prod.mk.injEq] at hr
      obtain ⟨e1, e2, e3, e4, e5, e6, e7, e8, e9, e10, e11, e12, e13, e14, e15, e16, e17, e18, e19, e20⟩ := hr; subst r1 r2 r3 r4 r5 r6 r7 r8 r9 r10 r11 r12 r13 r14 r15 r16 r17 r18 r19 r20
      have D4' := Aside0.mk (blk_put (cs := #[.int .i64 a1_0, .int .u32 a1_1, rho_ tb_ a1_2, .int .i64 a1_3, .int .u32 a1_4, .bool a1_5, rho_ tb_ a1_6, rho_ tb_ a1_7, .int .i64 6, .int .i64 a1_9, .int .i64 (wrap64 (a1_10 + 1)), .int .i64 a1_11, .int .i64 a1_12, .int .u64 0, .bool a1_14, rho_ tb_ a1_15, .int .i64 0, .int .i64 a1_17, .int .i64 a1_18, .int .i64 a1_19]) (cs' := #[.int .i64 a1_0, .int .u32 a1_1, rho_ tb_ a1_2, .int .i64 a1_3, .int .u32 a1_4, .bool a1_5, rho_ tb_ a1_6, rho_ tb_ a1_7, .int .i64 6, .int .i64 a1_9, .int .i64 (wrap64 (a1_10 + 1)), .int .i64 a1_11, .int .i64 a1_12, .int .u64 0, .bool a1_14, rho_ tb_ 0, .int .i64 0, .int .i64 a1_17, .int .i64 a1_18, .int .i64 a1_19]) (blk_put (cs := #[.int .i64 a1_0, .int .u32 a1_1, rho_ tb_ a1_2, .int .i64 a1_3, .int .u32 a1_4, .bool a1_5, rho_ tb_ a1_6, rho_ tb_ a1_7, .int .i64 a1_8, .int .i64 a1_9, .int .i64 (wrap64 (a1_10 + 1)), .int .i64 a1_11, .int .i64 a1_12, .int .u64 0, .bool a1_14, rho_ tb_ a1_15, .int .i64 0, .int .i64 a1_17, .int .i64 a1_18, .int .i64 a1_19]) (cs' := #[.int .i64 a1_0, .int .u32 a1_1, rho_ tb_ a1_2, .int .i64 a1_3, .int .u32 a1_4, .bool a1_5, rho_ tb_ a1_6, rho_ tb_ a1_7, .int .i64 6, .int .i64 a1_9, .int .i64 (wrap64 (a1_10 + 1)), .int .i64 a1_11, .int .i64 a1_12, .int .u64 0, .bool a1_14, rho_ tb_ a1_15, .int .i64 0, .int .i64 a1_17, .int .i64 a1_18, .int .i64 a1_19]) D4.out 8 (.int .i64 6) rfl) 15 (.slice none 0 0) rfl)
      have D6' := Aside0.mk (blk_far (p := ⟨g4, 15, none⟩) (blk_far (p := ⟨g4, 8, none⟩) D6.out N46.out.symm (.int .i64 6)) N46.out.symm (.slice none 0 0))
      gi_wp2_with (first
        | ((with_reducible refine gdI_ 30 ?_); refine ldI_ (fun _ => trivial) D4' hu41 ?_)
        | ((with_reducible refine gsI_ (ty := 41) rfl ?_); refine stI_ (fun _ => trivial) D6' ?_))
      refine ⟨by simp, .inl ⟨_, _, rfl, run_takeDeferred (((((((KeepsOthers.setCell _ _ _).trans (KeepsOthers.setCell _ _ _)).trans (KeepsOthers.setCell _ _ _)).trans (KeepsOthers.setCell _ _ _)).trans (KeepsOthers.setCell _ _ _)).trans (koRow D6'.out)).same D _ hK rfl), ?_⟩⟩
      have hK' := ((((((KeepsOthers.setCell _ _ _).trans (KeepsOthers.setCell _ _ _)).trans (KeepsOthers.setCell _ _ _)).trans (KeepsOthers.setCell _ _ _)).trans (KeepsOthers.setCell _ _ _)).trans (koRow (cs' := #[.int .i64 a1_0, .int .u32 a1_1, rho_ tb_ a1_2, .int .i64 a1_3, .int .u32 a1_4, .bool a1_5, rho_ tb_ a1_6, rho_ tb_ a1_7, .int .i64 6, .int .i64 a1_9, .int .i64 (wrap64 (a1_10 + 1)), .int .i64 a1_11, .int .i64 a1_12, .int .u64 0, .bool a1_14, rho_ tb_ 0, .int .i64 0, .int .i64 a1_17, .int .i64 a1_18, .int .i64 a1_19]) D6'.out)).same D _ hK rfl
      have hrow := setRow_heap _ g6 _ #[.int .i64 a1_0, .int .u32 a1_1, rho_ tb_ a1_2, .int .i64 a1_3, .int .u32 a1_4, .bool a1_5, rho_ tb_ a1_6, rho_ tb_ a1_7, .int .i64 6, .int .i64 a1_9, .int .i64 (wrap64 (a1_10 + 1)), .int .i64 a1_11, .int .i64 a1_12, .int .u64 0, .bool a1_14, rho_ tb_ 0, .int .i64 0, .int .i64 a1_17, .int .i64 a1_18, .int .i64 a1_19] _ _ D6'.out
      refine ⟨.agg #[.int .i64 a1_0, .int .u32 a1_1, rho_ tb_ a1_2, .int .i64 a1_3, .int .u32 a1_4, .bool a1_5, rho_ tb_ a1_6, rho_ tb_ a1_7, .int .i64 6, .int .i64 a1_9, .int .i64 (wrap64 (a1_10 + 1)), .int .i64 a1_11, .int .i64 a1_12, .int .u64 0, .bool a1_14, rho_ tb_ 0, .int .i64 0, .int .i64 a1_17, .int .i64 a1_18, .int .i64 a1_19], results_cell_row (p := 6) (ty := 41) rfl _ _ g6 41 _ (0, 0) _ rfl ((grownBy_keeps_cells (grownBy_putObj' _ D (.deferred none)) (fun r e => by cases e; exact ⟨_, hK', rfl⟩) hrow rfl).trans hrow) hu41 rfl (by kernel_rfl), rfl, (below_setRow (below_set (below_set (below_set (below_set (below_set hB G4.out) G4.out) G4.out) G4.out) G4.out) G6.out _).trans (belowK_b (w := w) (Nat.le_refl _) _ D _ _ (Nat.le_trans HB.out.size hD) hK' rfl rfl)⟩
    · rw [if_neg cs] at hr
      simp only [Prod.mk.injEq] at hr
      obtain ⟨e1, e2, e3, e4, e5, e6, e7, e8, e9, e10, e11, e12, e13, e14, e15, e16, e17, e18, e19, e20⟩ := hr; subst r1 r2 r3 r4 r5 r6 r7 r8 r9 r10 r11 r12 r13 r14 r15 r16 r17 r18 r19 r20
      gi_wp2_with (first
        | ((with_reducible refine gdI_ 30 ?_); refine ldI_ (fun _ => trivial) D4 hu41 ?_)
        | ((with_reducible refine gsI_ (ty := 41) rfl ?_); refine stI_ (fun _ => trivial) D6 ?_))
      refine ⟨by simp, .inl ⟨_, _, rfl, run_takeDeferred (((((KeepsOthers.setCell _ _ _).trans (KeepsOthers.setCell _ _ _)).trans (KeepsOthers.setCell _ _ _)).trans (koRow D6.out)).same D _ hK rfl), ?_⟩⟩
      have hK' := ((((KeepsOthers.setCell _ _ _).trans (KeepsOthers.setCell _ _ _)).trans (KeepsOthers.setCell _ _ _)).trans (koRow (cs' := #[.int .i64 a1_0, .int .u32 a1_1, rho_ tb_ a1_2, .int .i64 a1_3, .int .u32 a1_4, .bool a1_5, rho_ tb_ a1_6, rho_ tb_ a1_7, .int .i64 a1_8, .int .i64 a1_9, .int .i64 (wrap64 (a1_10 + 1)), .int .i64 a1_11, .int .i64 a1_12, .int .u64 0, .bool a1_14, rho_ tb_ a1_15, .int .i64 0, .int .i64 a1_17, .int .i64 a1_18, .int .i64 a1_19]) D6.out)).same D _ hK rfl
      have hrow := setRow_heap _ g6 _ #[.int .i64 a1_0, .int .u32 a1_1, rho_ tb_ a1_2, .int .i64 a1_3, .int .u32 a1_4, .bool a1_5, rho_ tb_ a1_6, rho_ tb_ a1_7, .int .i64 a1_8, .int .i64 a1_9, .int .i64 (wrap64 (a1_10 + 1)), .int .i64 a1_11, .int .i64 a1_12, .int .u64 0, .bool a1_14, rho_ tb_ a1_15, .int .i64 0, .int .i64 a1_17, .int .i64 a1_18, .int .i64 a1_19] _ _ D6.out
      refine ⟨.agg #[.int .i64 a1_0, .int .u32 a1_1, rho_ tb_ a1_2, .int .i64 a1_3, .int .u32 a1_4, .bool a1_5, rho_ tb_ a1_6, rho_ tb_ a1_7, .int .i64 a1_8, .int .i64 a1_9, .int .i64 (wrap64 (a1_10 + 1)), .int .i64 a1_11, .int .i64 a1_12, .int .u64 0, .bool a1_14, rho_ tb_ a1_15, .int .i64 0, .int .i64 a1_17, .int .i64 a1_18, .int .i64 a1_19], results_cell_row (p := 6) (ty := 41) rfl _ _ g6 41 _ (0, 0) _ rfl ((grownBy_keeps_cells (grownBy_putObj' _ D (.deferred none)) (fun r e => by cases e; exact ⟨_, hK', rfl⟩) hrow rfl).trans hrow) hu41 rfl (by kernel_rfl), rfl, (below_setRow (below_set (below_set (below_set hB G4.out) G4.out) G4.out) G6.out _).trans (belowK_b (w := w) (Nat.le_refl _) _ D _ _ (Nat.le_trans HB.out.size hD) hK' rfl rfl)⟩
  case stop =>
    rintro D c pre W hD hpre ⟨⟨rfl, x, rfl, C6⟩, hB⟩ hK
    obtain ⟨tl, htl⟩ := hpre
    rw [← htl] at hr
    simp only [List.cons_append, List.nil_append, Prod.mk.injEq] at hr
    obtain ⟨e1, e2, e3, e4, e5, e6, e7, e8, e9, e10, e11, e12, e13, e14, e15, e16, e17, e18, e19, e20⟩ := hr; subst r1 r2 r3 r4 r5 r6 r7 r8 r9 r10 r11 r12 r13 r14 r15 r16 r17 r18 r19 r20
    gi_wp2
    refine ⟨by simp, .inl ⟨_, _, rfl, run_takeDeferred hK, ?_⟩⟩
    refine ⟨.agg #[.int .i64 a1_0, .int .u32 a1_1, rho_ tb_ a1_2, .int .i64 a1_3, .int .u32 a1_4, .bool a1_5, rho_ tb_ a1_6, rho_ tb_ a1_7, .int .i64 a1_8, .int .i64 a1_9, .int .i64 a1_10, .int .i64 a1_11, .int .i64 a1_12, .int .u64 a1_13, .bool a1_14, rho_ tb_ a1_15, .int .i64 (wrap64 (x + 1)), .int .i64 a1_17, .int .i64 a1_18, .int .i64 a1_19], results_cell_row (p := 6) (ty := 41) rfl _ _ g6 41 _ (0, 0) _ rfl ((grownBy_keeps_cells (grownBy_putObj' _ D (.deferred none)) (fun r e => by cases e; exact ⟨_, hK, rfl⟩) C6 rfl).trans C6) hu41 rfl (by kernel_rfl), rfl, hB.trans (belowK_b (w := w) (Nat.le_refl _) _ D _ _ (Nat.le_trans HB.out.size hD) hK rfl rfl)⟩
end Go.Proofs.Ytfhjeneegfmngaa.PSeekStays
