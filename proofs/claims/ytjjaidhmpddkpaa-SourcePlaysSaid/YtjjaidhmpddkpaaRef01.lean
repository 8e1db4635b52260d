/- Contracts of the reference of chapter 1: numbers, Fits, Ahead. -/
import Derived.Test.YtjjaidhmpddkpaaRows
import Derived.Test.YtjjaidhmpddkpaaMem
import Derived.Test.YtjjaidhmpddkpaaStamp
import Derived.WalkKit
import Derived.WalkSpells
import Derived.WalkLawsBesides
import Derived.BigQuiet
import Derived.Deep.QuietTactic
import Derived.StillTailTactics
import Derived.Lib.Hide
import Derived.Deep.RegionHeld3
namespace Go.Proofs.Ytjjaidhmpddkpaa
open Go.RowKit

set_option maxHeartbeats 400000 in
theorem rnumbers_any (a b c : Int) (w : World) :
    Calls Try.prog 23 #[.agg #[.int .u64 a, .int .u64 b, .int .u64 c]] w fun e w' => ∃ q, w.heap.size ≤ q ∧ e = .returned (.slice (some ⟨q, 0, none⟩) 3 3) ∧ New w w' ∧ Blk w' q [.int .u64 a, .int .u64 b, .int .u64 c] 34 := by
  go_enter Try.func23, Try.ntmps23
  go_wp2
  go_ret
  exact ⟨_, by simp, rfl, by (repeat (first | with_reducible exact Upd.refl _ _ | with_reducible assumption | with_reducible refine Upd.alloc ?_ _ | with_reducible refine Upd.drew ?_ | with_reducible refine Upd.drewN ?_ _ | ((with_reducible refine Upd.setCell ?_ _ _ ?_); rotate_left; focus (first | (left; simp; done) | (right; simp; done) | (right; simp; omega) | (right; omega))) | ((with_reducible apply Upd.new); rotate_left; focus (with_reducible assumption)))), Blk.newAt (by simp)⟩

set_option maxHeartbeats 400000 in
theorem rfits_bad (a b c n : Int) (h : n < 1 ∨ 3 < n) (w : World) :
    Calls Try.prog 21 #[.agg #[.int .u64 a, .int .u64 b, .int .u64 c], .int .i64 n] w fun e w' => e = .returned (.int .i64 10) ∧ New w w' := by
  rcases h with h | h
  · go_enter Try.func21, Try.ntmps21
    go_wp2
    go_ret
    exact ⟨rfl, by (repeat (first | with_reducible exact Upd.refl _ _ | with_reducible assumption | with_reducible refine Upd.alloc ?_ _ | with_reducible refine Upd.drew ?_ | with_reducible refine Upd.drewN ?_ _ | ((with_reducible refine Upd.setCell ?_ _ _ ?_); rotate_left; focus (first | (left; simp; done) | (right; simp; done) | (right; simp; omega) | (right; omega))) | ((with_reducible apply Upd.new); rotate_left; focus (with_reducible assumption))))⟩
  · have h' : ¬ n < 1 := by omega
    go_enter Try.func21, Try.ntmps21
    go_wp2
    go_ret
    exact ⟨rfl, by (repeat (first | with_reducible exact Upd.refl _ _ | with_reducible assumption | with_reducible refine Upd.alloc ?_ _ | with_reducible refine Upd.drew ?_ | with_reducible refine Upd.drewN ?_ _ | ((with_reducible refine Upd.setCell ?_ _ _ ?_); rotate_left; focus (first | (left; simp; done) | (right; simp; done) | (right; simp; omega) | (right; omega))) | ((with_reducible apply Upd.new); rotate_left; focus (with_reducible assumption))))⟩

set_option maxHeartbeats 400000 in
theorem rfits_3 (a b c : Int) (w : World) :
    Calls Try.prog 21 #[.agg #[.int .u64 a, .int .u64 b, .int .u64 c], .int .i64 3] w fun e w' => e = .returned (.int .i64 0) ∧ New w w' := by
  go_enter Try.func21, Try.ntmps21
  go_wp2_with fail
  refine (rnumbers_any _ _ _ _).mono ?_
  rintro e w1 ⟨q, hq, rfl, h1, b1⟩
  go_wp2_with fail
  refine wp_loop_rounds 1 ?_; rw [rounds_succ]
  go_wp2
  go_ret
  exact ⟨rfl, by (repeat (first | with_reducible exact Upd.refl _ _ | with_reducible assumption | with_reducible refine Upd.alloc ?_ _ | with_reducible refine Upd.drew ?_ | with_reducible refine Upd.drewN ?_ _ | ((with_reducible refine Upd.setCell ?_ _ _ ?_); rotate_left; focus (first | (left; simp; done) | (right; simp; done) | (right; simp; omega) | (right; omega))) | ((with_reducible apply Upd.new); rotate_left; focus (with_reducible assumption))))⟩

set_option maxHeartbeats 400000 in
theorem rfits_2 (a b c : Int) (w : World) :
    Calls Try.prog 21 #[.agg #[.int .u64 a, .int .u64 b, .int .u64 c], .int .i64 2] w fun e w' => e = .returned (.int .i64 (if c = 0 then 0 else 10)) ∧ New w w' := by
  by_cases hc : c = 0
  · subst hc
    go_enter Try.func21, Try.ntmps21
    go_wp2_with fail
    refine (rnumbers_any _ _ _ _).mono ?_
    rintro e w1 ⟨q, hq, rfl, h1, b1⟩
    obtain ⟨c0, c1, c2, -⟩ := b1.three
    go_wp2_with fail
    refine wp_loop_rounds 2 ?_; rw [rounds_succ]
    go_wp2
    rw [rounds_succ]
    go_wp2
    go_ret
    exact ⟨rfl, by (repeat (first | with_reducible exact Upd.refl _ _ | with_reducible assumption | with_reducible refine Upd.alloc ?_ _ | with_reducible refine Upd.drew ?_ | with_reducible refine Upd.drewN ?_ _ | ((with_reducible refine Upd.setCell ?_ _ _ ?_); rotate_left; focus (first | (left; simp; done) | (right; simp; done) | (right; simp; omega) | (right; omega))) | ((with_reducible apply Upd.new); rotate_left; focus (with_reducible assumption))))⟩
  · go_enter Try.func21, Try.ntmps21
    go_wp2_with fail
    refine (rnumbers_any _ _ _ _).mono ?_
    rintro e w1 ⟨q, hq, rfl, h1, b1⟩
    obtain ⟨c0, c1, c2, -⟩ := b1.three
    go_wp2_with fail
    refine wp_loop_rounds 2 ?_; rw [rounds_succ]
    go_wp2
    go_ret
    exact ⟨rfl, by (repeat (first | with_reducible exact Upd.refl _ _ | with_reducible assumption | with_reducible refine Upd.alloc ?_ _ | with_reducible refine Upd.drew ?_ | with_reducible refine Upd.drewN ?_ _ | ((with_reducible refine Upd.setCell ?_ _ _ ?_); rotate_left; focus (first | (left; simp; done) | (right; simp; done) | (right; simp; omega) | (right; omega))) | ((with_reducible apply Upd.new); rotate_left; focus (with_reducible assumption))))⟩

set_option maxHeartbeats 400000 in
theorem rfits_1 (a b c : Int) (w : World) :
    Calls Try.prog 21 #[.agg #[.int .u64 a, .int .u64 b, .int .u64 c], .int .i64 1] w fun e w' => e = .returned (.int .i64 (if b = 0 ∧ c = 0 then 0 else 10)) ∧ New w w' := by
  by_cases hb : b = 0
  · subst hb
    by_cases hc : c = 0
    · subst hc
      go_enter Try.func21, Try.ntmps21
      go_wp2_with fail
      refine (rnumbers_any _ _ _ _).mono ?_
      rintro e w1 ⟨q, hq, rfl, h1, b1⟩
      obtain ⟨c0, c1, c2, -⟩ := b1.three
      go_wp2_with fail
      refine wp_loop_rounds 3 ?_; rw [rounds_succ]
      go_wp2
      rw [rounds_succ]
      go_wp2
      rw [rounds_succ]
      go_wp2
      go_ret
      exact ⟨rfl, by (repeat (first | with_reducible exact Upd.refl _ _ | with_reducible assumption | with_reducible refine Upd.alloc ?_ _ | with_reducible refine Upd.drew ?_ | with_reducible refine Upd.drewN ?_ _ | ((with_reducible refine Upd.setCell ?_ _ _ ?_); rotate_left; focus (first | (left; simp; done) | (right; simp; done) | (right; simp; omega) | (right; omega))) | ((with_reducible apply Upd.new); rotate_left; focus (with_reducible assumption))))⟩
    · go_enter Try.func21, Try.ntmps21
      go_wp2_with fail
      refine (rnumbers_any _ _ _ _).mono ?_
      rintro e w1 ⟨q, hq, rfl, h1, b1⟩
      obtain ⟨c0, c1, c2, -⟩ := b1.three
      go_wp2_with fail
      refine wp_loop_rounds 3 ?_; rw [rounds_succ]
      go_wp2
      rw [rounds_succ]
      go_wp2
      go_ret
      exact ⟨rfl, by (repeat (first | with_reducible exact Upd.refl _ _ | with_reducible assumption | with_reducible refine Upd.alloc ?_ _ | with_reducible refine Upd.drew ?_ | with_reducible refine Upd.drewN ?_ _ | ((with_reducible refine Upd.setCell ?_ _ _ ?_); rotate_left; focus (first | (left; simp; done) | (right; simp; done) | (right; simp; omega) | (right; omega))) | ((with_reducible apply Upd.new); rotate_left; focus (with_reducible assumption))))⟩
  · go_enter Try.func21, Try.ntmps21
    go_wp2_with fail
    refine (rnumbers_any _ _ _ _).mono ?_
    rintro e w1 ⟨q, hq, rfl, h1, b1⟩
    obtain ⟨c0, c1, c2, -⟩ := b1.three
    go_wp2_with fail
    refine wp_loop_rounds 3 ?_; rw [rounds_succ]
    go_wp2
    go_ret
    exact ⟨rfl, by (repeat (first | with_reducible exact Upd.refl _ _ | with_reducible assumption | with_reducible refine Upd.alloc ?_ _ | with_reducible refine Upd.drew ?_ | with_reducible refine Upd.drewN ?_ _ | ((with_reducible refine Upd.setCell ?_ _ _ ?_); rotate_left; focus (first | (left; simp; done) | (right; simp; done) | (right; simp; omega) | (right; omega))) | ((with_reducible apply Upd.new); rotate_left; focus (with_reducible assumption))))⟩

theorem rfits_any (a b c n : Int) (w : World) :
    Calls Try.prog 21 #[.agg #[.int .u64 a, .int .u64 b, .int .u64 c], .int .i64 n] w fun e w' => e = .returned (.int .i64 (fitsN b c n)) ∧ New w w' := by
  unfold fitsN
  by_cases h : n < 1 ∨ 3 < n
  · rw [if_pos (by omega)]; exact rfits_bad a b c n h w
  · have h' : n = 1 ∨ n = 2 ∨ n = 3 := by omega
    rcases h' with rfl | rfl | rfl
    · refine (rfits_1 a b c w).mono ?_
      rintro e w' ⟨rfl, hb⟩
      refine ⟨?_, hb⟩
      by_cases h1 : b = 0 ∧ c = 0
      · rw [if_pos h1, if_neg (by omega)]
      · rw [if_neg h1, if_pos (by omega)]
    · refine (rfits_2 a b c w).mono ?_
      rintro e w' ⟨rfl, hb⟩
      refine ⟨?_, hb⟩
      by_cases h1 : c = 0
      · rw [if_pos h1, if_neg (by omega)]
      · rw [if_neg h1, if_pos (by omega)]
    · rw [if_neg (by omega)]
      exact rfits_3 a b c w

set_option maxHeartbeats 1000000 in
theorem rahead_any (a b c x y z : Int) (w : World) :
    Calls Try.prog 22 #[.agg #[.int .u64 a, .int .u64 b, .int .u64 c], .agg #[.int .u64 x, .int .u64 y, .int .u64 z]] w fun e w' => e = .returned (.bool (aheadB a b c x y z)) ∧ New w w' := by
  go_enter Try.func22, Try.ntmps22
  go_wp2_with fail
  refine (rnumbers_any _ _ _ _).mono ?_
  rintro e w1 ⟨q, hq, rfl, h1, b1⟩
  have hw1 : w.heap.size + 1 < w1.heap.size := by have := h1.size; have := b1.lt; simp at *; omega
  have bo := ((Blk.new (w.alloc (.cells #[.int .u64 a, .int .u64 b, .int .u64 c] 36)) #[.int .u64 x, .int .u64 y, .int .u64 z] 36).kept h1 (by simp))
  simp only [World.size_alloc] at bo
  obtain ⟨x0, x1, x2, -⟩ := bo.three
  go_wp2_with fail
  refine (rnumbers_any _ _ _ _).mono ?_
  rintro e w2 ⟨r, hr, rfl, h2, b2⟩
  have b1' := b1.kept h2 (by simp)
  obtain ⟨c0, c1, c2, -⟩ := b1'.three
  obtain ⟨d0, d1, d2, -⟩ := b2.three
  clear x0 x1 x2
  go_wp2_with fail
  refine wp_loop_rounds 4 ?_; rw [rounds_succ]
  go_wp2_with fail
  go_quiet (fail)
  go_wp2
  · go_ret
    exact ⟨by simp [aheadB, go_sem]; simp at *; omega, by (repeat (first | with_reducible exact Upd.refl _ _ | with_reducible assumption | with_reducible refine Upd.alloc ?_ _ | with_reducible refine Upd.drew ?_ | with_reducible refine Upd.drewN ?_ _ | ((with_reducible refine Upd.setCell ?_ _ _ ?_); rotate_left; focus (first | (left; simp; done) | (right; simp; done) | (right; simp; omega) | (right; omega))) | ((with_reducible apply Upd.new); rotate_left; focus (with_reducible assumption))))⟩
  rw [rounds_succ]
  go_wp2_with fail
  go_quiet (fail)
  go_wp2
  · go_ret
    exact ⟨by simp [aheadB, go_sem]; simp at *; omega, by (repeat (first | with_reducible exact Upd.refl _ _ | with_reducible assumption | with_reducible refine Upd.alloc ?_ _ | with_reducible refine Upd.drew ?_ | with_reducible refine Upd.drewN ?_ _ | ((with_reducible refine Upd.setCell ?_ _ _ ?_); rotate_left; focus (first | (left; simp; done) | (right; simp; done) | (right; simp; omega) | (right; omega))) | ((with_reducible apply Upd.new); rotate_left; focus (with_reducible assumption))))⟩
  rw [rounds_succ]
  go_wp2_with fail
  go_quiet (fail)
  go_wp2
  · go_ret
    exact ⟨by simp [aheadB, go_sem]; simp at *; omega, by (repeat (first | with_reducible exact Upd.refl _ _ | with_reducible assumption | with_reducible refine Upd.alloc ?_ _ | with_reducible refine Upd.drew ?_ | with_reducible refine Upd.drewN ?_ _ | ((with_reducible refine Upd.setCell ?_ _ _ ?_); rotate_left; focus (first | (left; simp; done) | (right; simp; done) | (right; simp; omega) | (right; omega))) | ((with_reducible apply Upd.new); rotate_left; focus (with_reducible assumption))))⟩
  rw [rounds_succ]
  go_wp2
  go_ret
  exact ⟨by simp [aheadB, go_sem]; simp at *; omega, by (repeat (first | with_reducible exact Upd.refl _ _ | with_reducible assumption | with_reducible refine Upd.alloc ?_ _ | with_reducible refine Upd.drew ?_ | with_reducible refine Upd.drewN ?_ _ | ((with_reducible refine Upd.setCell ?_ _ _ ?_); rotate_left; focus (first | (left; simp; done) | (right; simp; done) | (right; simp; omega) | (right; omega))) | ((with_reducible apply Upd.new); rotate_left; focus (with_reducible assumption))))⟩
end Go.Proofs.Ytjjaidhmpddkpaa
