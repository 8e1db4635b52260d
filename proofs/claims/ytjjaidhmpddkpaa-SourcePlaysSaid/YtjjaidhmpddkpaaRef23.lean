/- Contracts of the reference of chapter 23: an input. -/
import Derived.Test.YtjjaidhmpddkpaaRows
import Derived.Test.YtjjaidhmpddkpaaMem
import Derived.Test.YtjjaidhmpddkpaaStamp
import Derived.Test.YtjjaidhmpddkpaaSource
import Derived.Test.YtjjaidhmpddkpaaRef01
import Derived.WalkKit
import Derived.WalkSpells
import Derived.WalkLawsBesides
import Derived.BigQuiet
import Derived.Deep.QuietTactic
import Derived.StillTailTactics
import Derived.Lib.Hide
import Derived.Deep.RegionHeld3
namespace Go.Proofs.Ytjjaidhmpddkpaa
open Go.RowKit

/-- The reference's input lies at block p: open at a time, or closed. -/
def RSrc (w : World) (p : Nat) (n : Int) : Option (Int × Int × Int) → Prop
  | some (a, b, c) => Blk w p [.int .i64 n, .bool false, .int .u64 a, .int .u64 b, .int .u64 c] 57
  | none => ∃ a b c : Int, Blk w p [.int .i64 n, .bool true, .int .u64 a, .int .u64 b, .int .u64 c] 57

theorem RSrc.kept {S : List Nat} {w w' : World} {p : Nat} {n : Int} {st : Option (Int × Int × Int)} (h : RSrc w p n st) (k : Upd S w w') (hS : p ∉ S) : RSrc w' p n st := by
  cases st with
  | some t => exact Blk.kept h k hS
  | none => obtain ⟨a, b, c, h⟩ := h; exact ⟨a, b, c, h.kept k hS⟩
theorem RSrc.alloc {w : World} {p : Nat} {n : Int} {st : Option (Int × Int × Int)} (h : RSrc w p n st) (o : Obj) : RSrc (w.alloc o) p n st := h.kept (S := []) ((Upd.refl _ _).alloc o) (by simp)
theorem RSrc.lt {w : World} {p : Nat} {n : Int} {st : Option (Int × Int × Int)} (h : RSrc w p n st) : p < w.heap.size := by
  cases st with
  | some t => exact Blk.lt h
  | none => obtain ⟨a, b, c, h⟩ := h; exact h.lt

theorem fits_two (b c n : Int) : fitsN b c n = 0 ∨ fitsN b c n = 10 := by unfold fitsN; split <;> simp

theorem rnew_bad (n : Int) (h : n < 1 ∨ 3 < n) (w : World) :
    Calls Try.prog 7 #[.int .i64 n] w fun e w' => e = .returned (.tuple #[.pointer none, .int .i64 10]) ∧ New w w' := by
  rcases h with h | h
  · go_enter Try.func7, Try.ntmps7
    go_wp2
    go_ret2
    exact ⟨rfl, by (repeat (first | with_reducible exact Upd.refl _ _ | with_reducible assumption | with_reducible refine Upd.alloc ?_ _ | with_reducible refine Upd.drew ?_ | with_reducible refine Upd.drewN ?_ _ | ((with_reducible refine Upd.setCell ?_ _ _ ?_); rotate_left; focus (first | (left; simp; done) | (right; simp; done) | (right; simp; omega) | (right; omega))) | ((with_reducible apply Upd.new); rotate_left; focus (with_reducible assumption))))⟩
  · have h' : ¬ n < 1 := by omega
    go_enter Try.func7, Try.ntmps7
    go_wp2
    go_ret2
    exact ⟨rfl, by (repeat (first | with_reducible exact Upd.refl _ _ | with_reducible assumption | with_reducible refine Upd.alloc ?_ _ | with_reducible refine Upd.drew ?_ | with_reducible refine Upd.drewN ?_ _ | ((with_reducible refine Upd.setCell ?_ _ _ ?_); rotate_left; focus (first | (left; simp; done) | (right; simp; done) | (right; simp; omega) | (right; omega))) | ((with_reducible apply Upd.new); rotate_left; focus (with_reducible assumption))))⟩
theorem rnew_any (n : Int) (h : 1 ≤ n) (h3 : n ≤ 3) (w : World) :
    Calls Try.prog 7 #[.int .i64 n] w fun e w' => ∃ q, w.heap.size ≤ q ∧ e = .returned (.tuple #[.pointer (some ⟨q, 0, none⟩), .int .i64 0]) ∧ New w w' ∧ RSrc w' q n (some (0, 0, 0)) := by
  go_enter Try.func7, Try.ntmps7
  go_wp2
  go_ret2
  exact ⟨_, Nat.le_refl _, rfl, by (repeat (first | with_reducible exact Upd.refl _ _ | with_reducible assumption | with_reducible refine Upd.alloc ?_ _ | with_reducible refine Upd.drew ?_ | with_reducible refine Upd.drewN ?_ _ | ((with_reducible refine Upd.setCell ?_ _ _ ?_); rotate_left; focus (first | (left; simp; done) | (right; simp; done) | (right; simp; omega) | (right; omega))) | ((with_reducible apply Upd.new); rotate_left; focus (with_reducible assumption)))), Blk.new _ _ _⟩

set_option maxHeartbeats 1000000 in
theorem rsend_any (p : Nat) (n : Int) (st : Option (Int × Int × Int)) (x y z : Int) (w : World) (hs : RSrc w p n st) :
    Calls Try.prog 16 #[.pointer (some ⟨p, 0, none⟩), .agg #[.int .u64 x, .int .u64 y, .int .u64 z]] w fun e w' => e = .returned (.int .i64 (sendOf n st x y z)) ∧ New w w' := by
  have hlt := hs.lt
  rcases fits_two y z n with hF | hF
  · cases st with
    | some t =>
      obtain ⟨a, b, c⟩ := t
      have hs : Blk w p [.int .i64 n, .bool false, .int .u64 a, .int .u64 b, .int .u64 c] 57 := hs
      have c0 := hs.cell 0
      have c1 := hs.cell 1
      have c2 := hs.cell 2
      have c3 := hs.cell 3
      have c4 := hs.cell 4
      simp at c0 c1 c2 c3 c4
      clear hs
      have E : sendOf n (some (a, b, c)) x y z = if aheadB a b c x y z then 0 else 46 := by simp [sendOf, hF, mayN]
      rw [E]
      clear E
      cases hB : aheadB a b c x y z with
      | true =>
        go_enter Try.func16, Try.ntmps16
        (go_wp2_with fail; refine wp_region_still_tail 5 (by kernel_rfl) (by kernel_rfl) ?_; simp only [List.take_succ_cons, List.take_zero, List.drop_succ_cons, List.drop_zero]; change wpStill _ _ (World.drew _) _ _ _; (repeat still_step); refine wpStill_nil ?_; change wpList _ _ _ _ _ (World.drew _))
        (go_wp2_with fail; refine (rfits_any _ _ _ _ _).mono ?_; rintro e w1 ⟨rfl, h_w1⟩; obtain ⟨hc_w1, hf_w1⟩ := h_w1.facts; (have : p < w1.heap.size := by have := h_w1.size; (try simp at this); omega); (have : w.heap.size < w1.heap.size := by have := h_w1.size; (try simp at this); omega))
        (go_wp2_with fail; refine wp_region_still_tail 5 (by kernel_rfl) (by kernel_rfl) ?_; simp only [List.take_succ_cons, List.take_zero, List.drop_succ_cons, List.drop_zero]; change wpStill _ _ (World.drew _) _ _ _; (repeat still_step); refine wpStill_nil ?_; change wpList _ _ _ _ _ (World.drew _))
        (go_wp2_with fail; refine (rahead_any _ _ _ _ _ _ _).mono ?_; rintro e w2 ⟨rfl, h_w2⟩; obtain ⟨hc_w2, hf_w2⟩ := h_w2.facts)
        go_wp2
        go_ret
        exact ⟨rfl, by (repeat (first | with_reducible exact Upd.refl _ _ | with_reducible assumption | with_reducible refine Upd.alloc ?_ _ | with_reducible refine Upd.drew ?_ | with_reducible refine Upd.drewN ?_ _ | ((with_reducible refine Upd.setCell ?_ _ _ ?_); rotate_left; focus (first | (left; simp; done) | (right; simp; done) | (right; simp; omega) | (right; omega))) | ((with_reducible apply Upd.new); rotate_left; focus (with_reducible assumption))))⟩
      | false =>
        go_enter Try.func16, Try.ntmps16
        (go_wp2_with fail; refine wp_region_still_tail 5 (by kernel_rfl) (by kernel_rfl) ?_; simp only [List.take_succ_cons, List.take_zero, List.drop_succ_cons, List.drop_zero]; change wpStill _ _ (World.drew _) _ _ _; (repeat still_step); refine wpStill_nil ?_; change wpList _ _ _ _ _ (World.drew _))
        (go_wp2_with fail; refine (rfits_any _ _ _ _ _).mono ?_; rintro e w1 ⟨rfl, h_w1⟩; obtain ⟨hc_w1, hf_w1⟩ := h_w1.facts; (have : p < w1.heap.size := by have := h_w1.size; (try simp at this); omega); (have : w.heap.size < w1.heap.size := by have := h_w1.size; (try simp at this); omega))
        (go_wp2_with fail; refine wp_region_still_tail 5 (by kernel_rfl) (by kernel_rfl) ?_; simp only [List.take_succ_cons, List.take_zero, List.drop_succ_cons, List.drop_zero]; change wpStill _ _ (World.drew _) _ _ _; (repeat still_step); refine wpStill_nil ?_; change wpList _ _ _ _ _ (World.drew _))
        (go_wp2_with fail; refine (rahead_any _ _ _ _ _ _ _).mono ?_; rintro e w2 ⟨rfl, h_w2⟩; obtain ⟨hc_w2, hf_w2⟩ := h_w2.facts)
        go_wp2
        go_ret
        exact ⟨rfl, by (repeat (first | with_reducible exact Upd.refl _ _ | with_reducible assumption | with_reducible refine Upd.alloc ?_ _ | with_reducible refine Upd.drew ?_ | with_reducible refine Upd.drewN ?_ _ | ((with_reducible refine Upd.setCell ?_ _ _ ?_); rotate_left; focus (first | (left; simp; done) | (right; simp; done) | (right; simp; omega) | (right; omega))) | ((with_reducible apply Upd.new); rotate_left; focus (with_reducible assumption))))⟩
    | none =>
      obtain ⟨a, b, c, hs⟩ := hs
      have c0 := hs.cell 0
      have c1 := hs.cell 1
      simp at c0 c1
      clear hs
      go_enter Try.func16, Try.ntmps16
      (go_wp2_with fail; refine wp_region_still_tail 5 (by kernel_rfl) (by kernel_rfl) ?_; simp only [List.take_succ_cons, List.take_zero, List.drop_succ_cons, List.drop_zero]; change wpStill _ _ (World.drew _) _ _ _; (repeat still_step); refine wpStill_nil ?_; change wpList _ _ _ _ _ (World.drew _))
      (go_wp2_with fail; refine (rfits_any _ _ _ _ _).mono ?_; rintro e w1 ⟨rfl, h_w1⟩; obtain ⟨hc_w1, hf_w1⟩ := h_w1.facts; (have : p < w1.heap.size := by have := h_w1.size; (try simp at this); omega); (have : w.heap.size < w1.heap.size := by have := h_w1.size; (try simp at this); omega))
      go_wp2
      go_ret
      exact ⟨by simp [sendOf, hF, go_sem], by (repeat (first | with_reducible exact Upd.refl _ _ | with_reducible assumption | with_reducible refine Upd.alloc ?_ _ | with_reducible refine Upd.drew ?_ | with_reducible refine Upd.drewN ?_ _ | ((with_reducible refine Upd.setCell ?_ _ _ ?_); rotate_left; focus (first | (left; simp; done) | (right; simp; done) | (right; simp; omega) | (right; omega))) | ((with_reducible apply Upd.new); rotate_left; focus (with_reducible assumption))))⟩
  · have c0 : w.cell? ⟨p, 0, none⟩ = some (.int .i64 n) := by
      cases st with
      | some t => exact Blk.cell hs 0
      | none => obtain ⟨a, b, c, hs⟩ := hs; exact hs.cell 0
    clear hs
    go_enter Try.func16, Try.ntmps16
    (go_wp2_with fail; refine wp_region_still_tail 5 (by kernel_rfl) (by kernel_rfl) ?_; simp only [List.take_succ_cons, List.take_zero, List.drop_succ_cons, List.drop_zero]; change wpStill _ _ (World.drew _) _ _ _; (repeat still_step); refine wpStill_nil ?_; change wpList _ _ _ _ _ (World.drew _))
    (go_wp2_with fail; refine (rfits_any _ _ _ _ _).mono ?_; rintro e w1 ⟨rfl, h_w1⟩; obtain ⟨hc_w1, hf_w1⟩ := h_w1.facts; (have : p < w1.heap.size := by have := h_w1.size; (try simp at this); omega); (have : w.heap.size < w1.heap.size := by have := h_w1.size; (try simp at this); omega))
    go_wp2
    go_ret
    exact ⟨by simp [sendOf, hF, go_sem], by (repeat (first | with_reducible exact Upd.refl _ _ | with_reducible assumption | with_reducible refine Upd.alloc ?_ _ | with_reducible refine Upd.drew ?_ | with_reducible refine Upd.drewN ?_ _ | ((with_reducible refine Upd.setCell ?_ _ _ ?_); rotate_left; focus (first | (left; simp; done) | (right; simp; done) | (right; simp; omega) | (right; omega))) | ((with_reducible apply Upd.new); rotate_left; focus (with_reducible assumption))))⟩

set_option maxHeartbeats 1000000 in
theorem radvance_any (p : Nat) (n : Int) (st : Option (Int × Int × Int)) (x y z : Int) (w : World) (hs : RSrc w p n st) :
    Calls Try.prog 17 #[.pointer (some ⟨p, 0, none⟩), .agg #[.int .u64 x, .int .u64 y, .int .u64 z]] w fun e w' => e = .returned (.int .i64 (sendOf n st x y z)) ∧ Upd [p] w w' ∧ RSrc w' p n (advOf n st x y z) := by
  have hlt := hs.lt
  have hs1 : ∀ O : Obj, RSrc (w.alloc O) p n st := fun O => hs.alloc O
  by_cases hF : sendOf n st x y z = 0
  · cases st with
    | none =>
      exfalso
      rcases fits_two y z n with h | h <;> simp [sendOf, h] at hF
    | some t =>
      obtain ⟨a, b, c⟩ := t
      have f2 := Blk.free hs 2
      have f3 := Blk.free hs 3
      have f4 := Blk.free hs 4
      have c2 : w.cell? ⟨p, 2, none⟩ = some (.int .u64 a) := Blk.cell hs 2
      have c3 : w.cell? ⟨p, 3, none⟩ = some (.int .u64 b) := Blk.cell hs 3
      have c4 : w.cell? ⟨p, 4, none⟩ = some (.int .u64 c) := Blk.cell hs 4
      clear hs
      go_enter Try.func17, Try.ntmps17
      (go_wp2_with fail; refine (rsend_any _ n _ _ _ _ _ (hs1 _)).mono ?_; rintro e w1 ⟨rfl, h_w1⟩; obtain ⟨hc_w1, hf_w1⟩ := h_w1.facts; (have : p < w1.heap.size := by have := h_w1.size; (try simp at this); omega); (have : w.heap.size < w1.heap.size := by have := h_w1.size; (try simp at this); omega))
      go_wp2
      go_ret
      refine ⟨by simp [hF, go_sem], by (repeat (first | with_reducible exact Upd.refl _ _ | with_reducible assumption | with_reducible refine Upd.alloc ?_ _ | with_reducible refine Upd.drew ?_ | with_reducible refine Upd.drewN ?_ _ | ((with_reducible refine Upd.setCell ?_ _ _ ?_); rotate_left; focus (first | (left; simp; done) | (right; simp; done) | (right; simp; omega) | (right; omega))) | ((with_reducible apply Upd.new); rotate_left; focus (with_reducible assumption)))), ?_⟩
      unfold advOf
      rw [if_pos hF]
      exact ((((hs1 _).kept h_w1 (by simp) : Blk _ _ _ _).set 2 _).set 3 _).set 4 _
  · have hF' : (sendOf n st x y z == 0) = false := by simpa using hF
    clear hs
    go_enter Try.func17, Try.ntmps17
    (go_wp2_with fail; refine (rsend_any _ n st _ _ _ _ (hs1 _)).mono ?_; rintro e w1 ⟨rfl, h_w1⟩; obtain ⟨hc_w1, hf_w1⟩ := h_w1.facts; (have : p < w1.heap.size := by have := h_w1.size; (try simp at this); omega); (have : w.heap.size < w1.heap.size := by have := h_w1.size; (try simp at this); omega))
    go_wp2
    go_ret
    refine ⟨by simp [go_sem], by (repeat (first | with_reducible exact Upd.refl _ _ | with_reducible assumption | with_reducible refine Upd.alloc ?_ _ | with_reducible refine Upd.drew ?_ | with_reducible refine Upd.drewN ?_ _ | ((with_reducible refine Upd.setCell ?_ _ _ ?_); rotate_left; focus (first | (left; simp; done) | (right; simp; done) | (right; simp; omega) | (right; omega))) | ((with_reducible apply Upd.new); rotate_left; focus (with_reducible assumption)))), ?_⟩
    unfold advOf
    rw [if_neg hF]
    exact (hs1 _).kept h_w1 (by simp)

theorem rclose_any (p : Nat) (n : Int) (st : Option (Int × Int × Int)) (w : World) (hs : RSrc w p n st) :
    Calls Try.prog 18 #[.pointer (some ⟨p, 0, none⟩)] w fun e w' => e = .returned (.int .i64 (closeOf st)) ∧ Upd [p] w w' ∧ RSrc w' p n none := by
  have hlt := hs.lt
  cases st with
  | some t =>
    obtain ⟨a, b, c⟩ := t
    have hs : Blk w p [.int .i64 n, .bool false, .int .u64 a, .int .u64 b, .int .u64 c] 57 := hs
    have c1 := hs.cell 1
    have f1 := hs.free 1
    simp at c1
    have Hs := Lib.hid hs
    clear hs
    go_enter Try.func18, Try.ntmps18
    go_wp2
    go_ret
    exact ⟨rfl, by (repeat (first | with_reducible exact Upd.refl _ _ | with_reducible assumption | with_reducible refine Upd.alloc ?_ _ | with_reducible refine Upd.drew ?_ | with_reducible refine Upd.drewN ?_ _ | ((with_reducible refine Upd.setCell ?_ _ _ ?_); rotate_left; focus (first | (left; simp; done) | (right; simp; done) | (right; simp; omega) | (right; omega))) | ((with_reducible apply Upd.new); rotate_left; focus (with_reducible assumption)))), a, b, c, Blk.set Hs.out 1 _⟩
  | none =>
    obtain ⟨a, b, c, hs⟩ := hs
    have c1 := hs.cell 1
    simp at c1
    have Hs := Lib.hid hs
    clear hs
    go_enter Try.func18, Try.ntmps18
    go_wp2
    go_ret
    exact ⟨rfl, by (repeat (first | with_reducible exact Upd.refl _ _ | with_reducible assumption | with_reducible refine Upd.alloc ?_ _ | with_reducible refine Upd.drew ?_ | with_reducible refine Upd.drewN ?_ _ | ((with_reducible refine Upd.setCell ?_ _ _ ?_); rotate_left; focus (first | (left; simp; done) | (right; simp; done) | (right; simp; omega) | (right; omega))) | ((with_reducible apply Upd.new); rotate_left; focus (with_reducible assumption)))), a, b, c, Hs.out⟩

theorem repoch_at (p : Nat) (n a b c : Int) (w : World) (hs : RSrc w p n (some (a, b, c))) :
    Calls Try.prog 19 #[.pointer (some ⟨p, 0, none⟩)] w fun e w' => e = .returned (.tuple #[.agg #[.int .u64 a, .int .u64 b, .int .u64 c], .bool true]) ∧ New w w' := by
  have hlt := hs.lt
  have hs : Blk w p [.int .i64 n, .bool false, .int .u64 a, .int .u64 b, .int .u64 c] 57 := hs
  have c1 := hs.cell 1
  have c2 := hs.cell 2
  have c3 := hs.cell 3
  have c4 := hs.cell 4
  simp at c1 c2 c3 c4
  clear hs
  go_enter Try.func19, Try.ntmps19
  go_wp2
  (refine bodyPost_ret (v := .tuple #[.agg #[.int .u64 a, .int .u64 b, .int .u64 c], .bool true]) (by simp [results, Try.results19, go_sem]) rfl ?_; exact ⟨rfl, by (repeat (first | with_reducible exact Upd.refl _ _ | with_reducible assumption | with_reducible refine Upd.alloc ?_ _ | with_reducible refine Upd.drew ?_ | with_reducible refine Upd.drewN ?_ _ | ((with_reducible refine Upd.setCell ?_ _ _ ?_); rotate_left; focus (first | (left; simp; done) | (right; simp; done) | (right; simp; omega) | (right; omega))) | ((with_reducible apply Upd.new); rotate_left; focus (with_reducible assumption))))⟩)

theorem repoch_shut (p : Nat) (n : Int) (w : World) (hs : RSrc w p n none) :
    Calls Try.prog 19 #[.pointer (some ⟨p, 0, none⟩)] w fun e w' => e = .returned (.tuple #[.agg #[.int .u64 0, .int .u64 0, .int .u64 0], .bool false]) ∧ New w w' := by
  have hlt := hs.lt
  obtain ⟨a, b, c, hs⟩ := hs
  have c1 := hs.cell 1
  simp at c1
  clear hs
  go_enter Try.func19, Try.ntmps19
  go_wp2
  (refine bodyPost_ret (v := .tuple #[.agg #[.int .u64 0, .int .u64 0, .int .u64 0], .bool false]) (by simp [results, Try.results19, go_sem]) rfl ?_; exact ⟨rfl, by (repeat (first | with_reducible exact Upd.refl _ _ | with_reducible assumption | with_reducible refine Upd.alloc ?_ _ | with_reducible refine Upd.drew ?_ | with_reducible refine Upd.drewN ?_ _ | ((with_reducible refine Upd.setCell ?_ _ _ ?_); rotate_left; focus (first | (left; simp; done) | (right; simp; done) | (right; simp; omega) | (right; omega))) | ((with_reducible apply Upd.new); rotate_left; focus (with_reducible assumption))))⟩)

set_option maxHeartbeats 1000000 in
theorem rcopy_any (p : Nat) (n : Int) (st : Option (Int × Int × Int)) (w : World) (hs : RSrc w p n st) :
    Calls Try.prog 9 #[.pointer (some ⟨p, 0, none⟩)] w fun e w' => ∃ q, w.heap.size ≤ q ∧ e = .returned (.pointer (some ⟨q, 0, none⟩)) ∧ New w w' ∧ RSrc w' q n st := by
  have hlt := hs.lt
  obtain ⟨a, b, c, d, hs', back⟩ : ∃ (a b c : Int) (d : Bool), Blk w p [.int .i64 n, .bool d, .int .u64 a, .int .u64 b, .int .u64 c] 57 ∧ (∀ (w' : World) q, Blk w' q [.int .i64 n, .bool d, .int .u64 a, .int .u64 b, .int .u64 c] 57 → RSrc w' q n st) := by
    cases st with
    | some t => exact ⟨t.1, t.2.1, t.2.2, false, hs, fun _ _ h => h⟩
    | none => obtain ⟨a, b, c, h⟩ := hs; exact ⟨a, b, c, true, h, fun _ _ h => ⟨a, b, c, h⟩⟩
  have c0 := hs'.cell 0
  have c1 := hs'.cell 1
  have c2 := hs'.cell 2
  have c3 := hs'.cell 3
  have c4 := hs'.cell 4
  simp at c0 c1 c2 c3 c4
  have B := Lib.hid back
  clear hs hs' back
  go_enter Try.func9, Try.ntmps9
  (go_wp2_with fail; refine wp_region_still_tail 13 (by kernel_rfl) (by kernel_rfl) ?_; simp only [List.take_succ_cons, List.take_zero, List.drop_succ_cons, List.drop_zero]; change wpStill _ _ (World.drew _) _ _ _; (repeat still_step); refine wpStill_nil ?_; change wpList _ _ _ _ _ (World.drew _))
  go_wp2
  go_ret
  exact ⟨_, Nat.le_refl _, rfl, by (repeat (first | with_reducible exact Upd.refl _ _ | with_reducible assumption | with_reducible refine Upd.alloc ?_ _ | with_reducible refine Upd.drew ?_ | with_reducible refine Upd.drewN ?_ _ | ((with_reducible refine Upd.setCell ?_ _ _ ?_); rotate_left; focus (first | (left; simp; done) | (right; simp; done) | (right; simp; omega) | (right; omega))) | ((with_reducible apply Upd.new); rotate_left; focus (with_reducible assumption)))), B.out _ _ (Blk.newAt rfl)⟩
end Go.Proofs.Ytjjaidhmpddkpaa
