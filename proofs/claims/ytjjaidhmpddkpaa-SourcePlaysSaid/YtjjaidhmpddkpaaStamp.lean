/- Contracts of package stamp: numbers, Fits, Ahead. -/
import Derived.Test.YtjjaidhmpddkpaaRows
import Derived.Test.YtjjaidhmpddkpaaMem
import Derived.WalkKit
import Derived.WalkSpells
import Derived.WalkLawsBesides
import Derived.BigQuiet
import Derived.Deep.QuietTactic
import Derived.StillTailTactics
import Derived.Lib.Hide
import Derived.Deep.RegionHeld3
namespace Go.Proofs.Ytjjaidhmpddkpaa
open Go.RowKit

set_option maxHeartbeats 400000 in
theorem numbers_any (a b c : Int) (w : World) :
    Calls Try.prog 20 #[.agg #[.int .u64 a, .int .u64 b, .int .u64 c]] w fun e w' => e = .returned (.agg #[.int .u64 a, .int .u64 b, .int .u64 c]) ∧ New w w' := by
  go_enter Try.func20, Try.ntmps20
  go_wp2
  (refine bodyPost_ret (v := .agg #[.int .u64 a, .int .u64 b, .int .u64 c]) (by simp [results, Try.results20, go_sem]) rfl ?_; exact ⟨rfl, by (repeat (first | with_reducible exact Upd.refl _ _ | with_reducible assumption | with_reducible refine Upd.alloc ?_ _ | with_reducible refine Upd.drew ?_ | with_reducible refine Upd.drewN ?_ _ | ((with_reducible refine Upd.setCell ?_ _ _ ?_); rotate_left; focus (first | (left; simp; done) | (right; simp; done) | (right; simp; omega) | (right; omega))) | ((with_reducible apply Upd.new); rotate_left; focus (with_reducible assumption))))⟩)

theorem le_any (a b : Int) (w : World) :
    Calls Try.prog 44 #[.int .u64 a, .int .u64 b] w fun e w' => e = .returned (.bool (decide (a ≤ b))) ∧ w = w' := by
  go_enter Try.func44, Try.ntmps44
  go_wp2
  go_ret
  exact ⟨rfl, rfl⟩

/-- Does a time have just the numbers that count? -/
def fitsN (b c n : Int) : Int := if n < 1 ∨ 3 < n ∨ n ≤ 1 ∧ b ≠ 0 ∨ n ≤ 2 ∧ c ≠ 0 then 10 else 0

set_option maxHeartbeats 400000 in
theorem fits_bad (a b c n : Int) (h : n < 1 ∨ 3 < n) (w : World) :
    Calls Try.prog 15 #[.agg #[.int .u64 a, .int .u64 b, .int .u64 c], .int .i64 n] w fun e w' => e = .returned (.int .i64 10) ∧ New w w' := by
  rcases h with h | h
  · go_enter Try.func15, Try.ntmps15
    go_wp2
    go_ret
    exact ⟨rfl, by (repeat (first | with_reducible exact Upd.refl _ _ | with_reducible assumption | with_reducible refine Upd.alloc ?_ _ | with_reducible refine Upd.drew ?_ | with_reducible refine Upd.drewN ?_ _ | ((with_reducible refine Upd.setCell ?_ _ _ ?_); rotate_left; focus (first | (left; simp; done) | (right; simp; done) | (right; simp; omega) | (right; omega))) | ((with_reducible apply Upd.new); rotate_left; focus (with_reducible assumption))))⟩
  · have h' : ¬ n < 1 := by omega
    go_enter Try.func15, Try.ntmps15
    go_wp2
    go_ret
    exact ⟨rfl, by (repeat (first | with_reducible exact Upd.refl _ _ | with_reducible assumption | with_reducible refine Upd.alloc ?_ _ | with_reducible refine Upd.drew ?_ | with_reducible refine Upd.drewN ?_ _ | ((with_reducible refine Upd.setCell ?_ _ _ ?_); rotate_left; focus (first | (left; simp; done) | (right; simp; done) | (right; simp; omega) | (right; omega))) | ((with_reducible apply Upd.new); rotate_left; focus (with_reducible assumption))))⟩

set_option maxHeartbeats 400000 in
theorem fits_3 (a b c : Int) (w : World) :
    Calls Try.prog 15 #[.agg #[.int .u64 a, .int .u64 b, .int .u64 c], .int .i64 3] w fun e w' => e = .returned (.int .i64 0) ∧ New w w' := by
  go_enter Try.func15, Try.ntmps15
  go_wp2_with (go_at_call 20; refine (numbers_any _ _ _ _).mono ?_; rintro e w1 ⟨rfl, hb⟩)
  refine wp_loop_rounds 1 ?_; rw [rounds_succ]
  go_wp2
  go_ret
  exact ⟨rfl, by (repeat (first | with_reducible exact Upd.refl _ _ | with_reducible assumption | with_reducible refine Upd.alloc ?_ _ | with_reducible refine Upd.drew ?_ | with_reducible refine Upd.drewN ?_ _ | ((with_reducible refine Upd.setCell ?_ _ _ ?_); rotate_left; focus (first | (left; simp; done) | (right; simp; done) | (right; simp; omega) | (right; omega))) | ((with_reducible apply Upd.new); rotate_left; focus (with_reducible assumption))))⟩

set_option maxHeartbeats 400000 in
theorem fits_2 (a b c : Int) (w : World) :
    Calls Try.prog 15 #[.agg #[.int .u64 a, .int .u64 b, .int .u64 c], .int .i64 2] w fun e w' => e = .returned (.int .i64 (if c = 0 then 0 else 10)) ∧ New w w' := by
  by_cases hc : c = 0
  · subst hc
    go_enter Try.func15, Try.ntmps15
    go_wp2_with (go_at_call 20; refine (numbers_any _ _ _ _).mono ?_; rintro e w1 ⟨rfl, hb⟩)
    refine wp_loop_rounds 2 ?_; rw [rounds_succ]
    go_wp2
    rw [rounds_succ]
    go_wp2
    go_ret
    exact ⟨rfl, by (repeat (first | with_reducible exact Upd.refl _ _ | with_reducible assumption | with_reducible refine Upd.alloc ?_ _ | with_reducible refine Upd.drew ?_ | with_reducible refine Upd.drewN ?_ _ | ((with_reducible refine Upd.setCell ?_ _ _ ?_); rotate_left; focus (first | (left; simp; done) | (right; simp; done) | (right; simp; omega) | (right; omega))) | ((with_reducible apply Upd.new); rotate_left; focus (with_reducible assumption))))⟩
  · go_enter Try.func15, Try.ntmps15
    go_wp2_with (go_at_call 20; refine (numbers_any _ _ _ _).mono ?_; rintro e w1 ⟨rfl, hb⟩)
    refine wp_loop_rounds 2 ?_; rw [rounds_succ]
    go_wp2
    go_ret
    exact ⟨rfl, by (repeat (first | with_reducible exact Upd.refl _ _ | with_reducible assumption | with_reducible refine Upd.alloc ?_ _ | with_reducible refine Upd.drew ?_ | with_reducible refine Upd.drewN ?_ _ | ((with_reducible refine Upd.setCell ?_ _ _ ?_); rotate_left; focus (first | (left; simp; done) | (right; simp; done) | (right; simp; omega) | (right; omega))) | ((with_reducible apply Upd.new); rotate_left; focus (with_reducible assumption))))⟩

set_option maxHeartbeats 400000 in
theorem fits_1 (a b c : Int) (w : World) :
    Calls Try.prog 15 #[.agg #[.int .u64 a, .int .u64 b, .int .u64 c], .int .i64 1] w fun e w' => e = .returned (.int .i64 (if b = 0 ∧ c = 0 then 0 else 10)) ∧ New w w' := by
  by_cases hb : b = 0
  · subst hb
    by_cases hc : c = 0
    · subst hc
      go_enter Try.func15, Try.ntmps15
      go_wp2_with (go_at_call 20; refine (numbers_any _ _ _ _).mono ?_; rintro e w1 ⟨rfl, hb⟩)
      refine wp_loop_rounds 3 ?_; rw [rounds_succ]
      go_wp2
      rw [rounds_succ]
      go_wp2
      rw [rounds_succ]
      go_wp2
      go_ret
      exact ⟨rfl, by (repeat (first | with_reducible exact Upd.refl _ _ | with_reducible assumption | with_reducible refine Upd.alloc ?_ _ | with_reducible refine Upd.drew ?_ | with_reducible refine Upd.drewN ?_ _ | ((with_reducible refine Upd.setCell ?_ _ _ ?_); rotate_left; focus (first | (left; simp; done) | (right; simp; done) | (right; simp; omega) | (right; omega))) | ((with_reducible apply Upd.new); rotate_left; focus (with_reducible assumption))))⟩
    · go_enter Try.func15, Try.ntmps15
      go_wp2_with (go_at_call 20; refine (numbers_any _ _ _ _).mono ?_; rintro e w1 ⟨rfl, hb⟩)
      refine wp_loop_rounds 3 ?_; rw [rounds_succ]
      go_wp2
      rw [rounds_succ]
      go_wp2
      go_ret
      exact ⟨rfl, by (repeat (first | with_reducible exact Upd.refl _ _ | with_reducible assumption | with_reducible refine Upd.alloc ?_ _ | with_reducible refine Upd.drew ?_ | with_reducible refine Upd.drewN ?_ _ | ((with_reducible refine Upd.setCell ?_ _ _ ?_); rotate_left; focus (first | (left; simp; done) | (right; simp; done) | (right; simp; omega) | (right; omega))) | ((with_reducible apply Upd.new); rotate_left; focus (with_reducible assumption))))⟩
  · go_enter Try.func15, Try.ntmps15
    go_wp2_with (go_at_call 20; refine (numbers_any _ _ _ _).mono ?_; rintro e w1 ⟨rfl, hb⟩)
    refine wp_loop_rounds 3 ?_; rw [rounds_succ]
    go_wp2
    go_ret
    exact ⟨rfl, by (repeat (first | with_reducible exact Upd.refl _ _ | with_reducible assumption | with_reducible refine Upd.alloc ?_ _ | with_reducible refine Upd.drew ?_ | with_reducible refine Upd.drewN ?_ _ | ((with_reducible refine Upd.setCell ?_ _ _ ?_); rotate_left; focus (first | (left; simp; done) | (right; simp; done) | (right; simp; omega) | (right; omega))) | ((with_reducible apply Upd.new); rotate_left; focus (with_reducible assumption))))⟩

theorem fits_any (a b c n : Int) (w : World) :
    Calls Try.prog 15 #[.agg #[.int .u64 a, .int .u64 b, .int .u64 c], .int .i64 n] w fun e w' => e = .returned (.int .i64 (fitsN b c n)) ∧ New w w' := by
  unfold fitsN
  by_cases h : n < 1 ∨ 3 < n
  · rw [if_pos (by omega)]; exact fits_bad a b c n h w
  · have h' : n = 1 ∨ n = 2 ∨ n = 3 := by omega
    rcases h' with rfl | rfl | rfl
    · refine (fits_1 a b c w).mono ?_
      rintro e w' ⟨rfl, hb⟩
      refine ⟨?_, hb⟩
      by_cases h1 : b = 0 ∧ c = 0
      · rw [if_pos h1, if_neg (by omega)]
      · rw [if_neg h1, if_pos (by omega)]
    · refine (fits_2 a b c w).mono ?_
      rintro e w' ⟨rfl, hb⟩
      refine ⟨?_, hb⟩
      by_cases h1 : c = 0
      · rw [if_pos h1, if_neg (by omega)]
      · rw [if_neg h1, if_pos (by omega)]
    · rw [if_neg (by omega)]
      exact fits_3 a b c w


/-- Is a time at or ahead of another one? -/
def aheadB (a b c x y z : Int) : Bool := decide (a ≤ x) && (decide (b ≤ y) && decide (c ≤ z))

set_option maxHeartbeats 800000 in
theorem all_any (a b c x y z : Int) (w : World) :
    Calls Try.prog 43 #[.agg #[.int .u64 a, .int .u64 b, .int .u64 c], .agg #[.int .u64 x, .int .u64 y, .int .u64 z], .func (.func 44) #[] #[]] w fun e w' => e = .returned (.bool (aheadB a b c x y z)) ∧ New w w' := by
  have i0 : ∀ w, (Instr.index 62 (.agg #[.int .u64 a, .int .u64 b, .int .u64 c]) (.int .i64 0)).run Try.prog w = .ok (.int .u64 a) w := fun _ => by kernel_rfl
  have i1 : ∀ w, (Instr.index 62 (.agg #[.int .u64 a, .int .u64 b, .int .u64 c]) (.int .i64 1)).run Try.prog w = .ok (.int .u64 b) w := fun _ => by kernel_rfl
  have i2 : ∀ w, (Instr.index 62 (.agg #[.int .u64 a, .int .u64 b, .int .u64 c]) (.int .i64 2)).run Try.prog w = .ok (.int .u64 c) w := fun _ => by kernel_rfl
  go_enter Try.func43, Try.ntmps43
  (go_wp2_with fail; refine (numbers_any _ _ _ _).mono ?_; rintro e w1 ⟨rfl, h_w1⟩; obtain ⟨hc_w1, hf_w1⟩ := h_w1.facts; (have : w.heap.size < w1.heap.size := by have := h_w1.size; (try simp at this); omega); (have : w.heap.size + 1 < w1.heap.size := by have := h_w1.size; (try simp at this); omega))
  (go_wp2_with fail; refine (numbers_any _ _ _ _).mono ?_; rintro e w2 ⟨rfl, h_w2⟩; obtain ⟨hc_w2, hf_w2⟩ := h_w2.facts; (have : w.heap.size < w2.heap.size := by have := h_w2.size; (try simp at this); omega); (have : w.heap.size + 1 < w2.heap.size := by have := h_w2.size; (try simp at this); omega); (have : w1.heap.size < w2.heap.size := by have := h_w2.size; (try simp at this); omega))
  go_wp2_with fail
  refine wp_loop_rounds 4 ?_; rw [rounds_succ]
  go_wp2_with (first | (go_at_call 44; refine (le_any _ _ _).mono ?_; rintro e w2 ⟨rfl, rfl⟩))
  · go_ret
    rename_i h0; simp at h0
    exact ⟨by simp [aheadB, go_sem]; omega, by (repeat (first | with_reducible exact Upd.refl _ _ | with_reducible assumption | with_reducible refine Upd.alloc ?_ _ | with_reducible refine Upd.drew ?_ | with_reducible refine Upd.drewN ?_ _ | ((with_reducible refine Upd.setCell ?_ _ _ ?_); rotate_left; focus (first | (left; simp; done) | (right; simp; done) | (right; simp; omega) | (right; omega))) | ((with_reducible apply Upd.new); rotate_left; focus (with_reducible assumption))))⟩
  rw [rounds_succ]
  go_wp2_with (first | (go_at_call 44; refine (le_any _ _ _).mono ?_; rintro e w2 ⟨rfl, rfl⟩))
  · go_ret
    rename_i h0; simp at h0
    exact ⟨by simp [aheadB, go_sem]; omega, by (repeat (first | with_reducible exact Upd.refl _ _ | with_reducible assumption | with_reducible refine Upd.alloc ?_ _ | with_reducible refine Upd.drew ?_ | with_reducible refine Upd.drewN ?_ _ | ((with_reducible refine Upd.setCell ?_ _ _ ?_); rotate_left; focus (first | (left; simp; done) | (right; simp; done) | (right; simp; omega) | (right; omega))) | ((with_reducible apply Upd.new); rotate_left; focus (with_reducible assumption))))⟩
  rw [rounds_succ]
  go_wp2_with (first | (go_at_call 44; refine (le_any _ _ _).mono ?_; rintro e w2 ⟨rfl, rfl⟩))
  · go_ret
    rename_i h0; simp at h0
    exact ⟨by simp [aheadB, go_sem]; omega, by (repeat (first | with_reducible exact Upd.refl _ _ | with_reducible assumption | with_reducible refine Upd.alloc ?_ _ | with_reducible refine Upd.drew ?_ | with_reducible refine Upd.drewN ?_ _ | ((with_reducible refine Upd.setCell ?_ _ _ ?_); rotate_left; focus (first | (left; simp; done) | (right; simp; done) | (right; simp; omega) | (right; omega))) | ((with_reducible apply Upd.new); rotate_left; focus (with_reducible assumption))))⟩
  rw [rounds_succ]
  go_wp2_with (first | (go_at_call 44; refine (le_any _ _ _).mono ?_; rintro e w2 ⟨rfl, rfl⟩))
  go_ret
  exact ⟨by simp [aheadB, go_sem]; simp at *; omega, by (repeat (first | with_reducible exact Upd.refl _ _ | with_reducible assumption | with_reducible refine Upd.alloc ?_ _ | with_reducible refine Upd.drew ?_ | with_reducible refine Upd.drewN ?_ _ | ((with_reducible refine Upd.setCell ?_ _ _ ?_); rotate_left; focus (first | (left; simp; done) | (right; simp; done) | (right; simp; omega) | (right; omega))) | ((with_reducible apply Upd.new); rotate_left; focus (with_reducible assumption))))⟩

set_option maxHeartbeats 400000 in
theorem ahead_any (a b c x y z : Int) (w : World) :
    Calls Try.prog 42 #[.agg #[.int .u64 a, .int .u64 b, .int .u64 c], .agg #[.int .u64 x, .int .u64 y, .int .u64 z]] w fun e w' => e = .returned (.bool (aheadB a b c x y z)) ∧ New w w' := by
  go_enter Try.func42, Try.ntmps42
  (go_wp2_with fail; refine (all_any _ _ _ _ _ _ _).mono ?_; rintro e w1 ⟨rfl, h_w1⟩; obtain ⟨hc_w1, hf_w1⟩ := h_w1.facts)
  go_wp2
  go_ret
  exact ⟨rfl, by (repeat (first | with_reducible exact Upd.refl _ _ | with_reducible assumption | with_reducible refine Upd.alloc ?_ _ | with_reducible refine Upd.drew ?_ | with_reducible refine Upd.drewN ?_ _ | ((with_reducible refine Upd.setCell ?_ _ _ ?_); rotate_left; focus (first | (left; simp; done) | (right; simp; done) | (right; simp; omega) | (right; omega))) | ((with_reducible apply Upd.new); rotate_left; focus (with_reducible assumption))))⟩
end Go.Proofs.Ytjjaidhmpddkpaa
