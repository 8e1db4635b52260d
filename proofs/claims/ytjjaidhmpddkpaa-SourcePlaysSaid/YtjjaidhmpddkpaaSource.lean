/- Contracts of package source: an input's handle. -/
import Derived.Test.YtjjaidhmpddkpaaRows
import Derived.Test.YtjjaidhmpddkpaaMem
import Derived.Test.YtjjaidhmpddkpaaStamp
import Derived.WalkKit
import Derived.WalkSpells
import Derived.WalkLawsBesides
import Derived.BigQuiet
import Derived.Deep.QuietTactic
import Derived.StillTailTactics
import Derived.Lib.Hide
import Derived.Deep.RegionHeld3
namespace Go.Proofs.Ytjjaidhmpddkpaa
open Go.RowKit

/-- What an input is just now: open at a time, or closed. -/
def stv : Option (Int × Int × Int) → Value
  | some (a, b, c) => .iface 51 (.agg #[.int .u64 a, .int .u64 b, .int .u64 c])
  | none => .iface 61 (.agg #[])
/-- An input lies at block p. -/
def Src (w : World) (p : Nat) (n : Int) (st : Option (Int × Int × Int)) : Prop := Blk w p [.int .i64 n, stv st] 55

theorem epoch_open_any (a b c : Int) (w : World) :
    Calls Try.prog 40 #[.agg #[.int .u64 a, .int .u64 b, .int .u64 c]] w fun e w' => e = .returned (.tuple #[.agg #[.int .u64 a, .int .u64 b, .int .u64 c], .bool true]) ∧ New w w' := by
  go_enter Try.func40, Try.ntmps40
  go_wp2
  (refine bodyPost_ret (v := .tuple #[.agg #[.int .u64 a, .int .u64 b, .int .u64 c], .bool true]) (by simp [results, Try.results40, go_sem]) rfl ?_; exact ⟨rfl, by (repeat (first | with_reducible exact Upd.refl _ _ | with_reducible assumption | with_reducible refine Upd.alloc ?_ _ | with_reducible refine Upd.drew ?_ | with_reducible refine Upd.drewN ?_ _ | ((with_reducible refine Upd.setCell ?_ _ _ ?_); rotate_left; focus (first | (left; simp; done) | (right; simp; done) | (right; simp; omega) | (right; omega))) | ((with_reducible apply Upd.new); rotate_left; focus (with_reducible assumption))))⟩)

theorem epoch_closed_any (w : World) :
    Calls Try.prog 45 #[.agg #[]] w fun e w' => e = .returned (.tuple #[.agg #[.int .u64 0, .int .u64 0, .int .u64 0], .bool false]) ∧ New w w' := by
  go_enter Try.func45, Try.ntmps45
  go_wp2
  (refine bodyPost_ret (v := .tuple #[.agg #[.int .u64 0, .int .u64 0, .int .u64 0], .bool false]) (by simp [results, Try.results45, go_sem]) rfl ?_; exact ⟨rfl, by (repeat (first | with_reducible exact Upd.refl _ _ | with_reducible assumption | with_reducible refine Upd.alloc ?_ _ | with_reducible refine Upd.drew ?_ | with_reducible refine Upd.drewN ?_ _ | ((with_reducible refine Upd.setCell ?_ _ _ ?_); rotate_left; focus (first | (left; simp; done) | (right; simp; done) | (right; simp; omega) | (right; omega))) | ((with_reducible apply Upd.new); rotate_left; focus (with_reducible assumption))))⟩)

/-- Whether an open input may go on to a time. -/
def mayN (a b c x y z : Int) : Int := if aheadB a b c x y z then 0 else 46

theorem may_open_any (a b c x y z : Int) (w : World) :
    Calls Try.prog 41 #[.agg #[.int .u64 a, .int .u64 b, .int .u64 c], .agg #[.int .u64 x, .int .u64 y, .int .u64 z]] w fun e w' => e = .returned (.int .i64 (mayN a b c x y z)) ∧ New w w' := by
  unfold mayN
  go_enter Try.func41, Try.ntmps41
  (go_wp2_with fail; refine (ahead_any _ _ _ _ _ _ _).mono ?_; rintro e w1 ⟨rfl, h_w1⟩; obtain ⟨hc_w1, hf_w1⟩ := h_w1.facts)
  go_wp2
  all_goals
    go_ret
    refine ⟨?_, by (repeat (first | with_reducible exact Upd.refl _ _ | with_reducible assumption | with_reducible refine Upd.alloc ?_ _ | with_reducible refine Upd.drew ?_ | with_reducible refine Upd.drewN ?_ _ | ((with_reducible refine Upd.setCell ?_ _ _ ?_); rotate_left; focus (first | (left; simp; done) | (right; simp; done) | (right; simp; omega) | (right; omega))) | ((with_reducible apply Upd.new); rotate_left; focus (with_reducible assumption))))⟩
    first | (exfalso; simp_all; done) | simp_all [go_sem]

theorem may_closed_any (x y z : Int) (w : World) :
    Calls Try.prog 46 #[.agg #[], .agg #[.int .u64 x, .int .u64 y, .int .u64 z]] w fun e w' => e = .returned (.int .i64 45) ∧ New w w' := by
  go_enter Try.func46, Try.ntmps46
  go_wp2
  go_ret
  exact ⟨rfl, by (repeat (first | with_reducible exact Upd.refl _ _ | with_reducible assumption | with_reducible refine Upd.alloc ?_ _ | with_reducible refine Upd.drew ?_ | with_reducible refine Upd.drewN ?_ _ | ((with_reducible refine Upd.setCell ?_ _ _ ?_); rotate_left; focus (first | (left; simp; done) | (right; simp; done) | (right; simp; omega) | (right; omega))) | ((with_reducible apply Upd.new); rotate_left; focus (with_reducible assumption))))⟩

/-- What Epoch answers. -/
def epochOf : Option (Int × Int × Int) → Value
  | some (a, b, c) => .tuple #[.agg #[.int .u64 a, .int .u64 b, .int .u64 c], .bool true]
  | none => .tuple #[.agg #[.int .u64 0, .int .u64 0, .int .u64 0], .bool false]

theorem m_epoch_open (k : Nat) (a b c : Int) (w : World) : (method (k + 1) 51 (.agg #[.int .u64 a, .int .u64 b, .int .u64 c]) "sluice/source.epoch").run Try.prog w = .ok (40, .agg #[.int .u64 a, .int .u64 b, .int .u64 c]) w := by kernel_rfl
theorem m_may_open (k : Nat) (a b c : Int) (w : World) : (method (k + 1) 51 (.agg #[.int .u64 a, .int .u64 b, .int .u64 c]) "sluice/source.may").run Try.prog w = .ok (41, .agg #[.int .u64 a, .int .u64 b, .int .u64 c]) w := by kernel_rfl
theorem m_epoch_closed (k : Nat) (w : World) : (method (k + 1) 61 (.agg #[]) "sluice/source.epoch").run Try.prog w = .ok (45, .agg #[]) w := by kernel_rfl
theorem m_may_closed (k : Nat) (w : World) : (method (k + 1) 61 (.agg #[]) "sluice/source.may").run Try.prog w = .ok (46, .agg #[]) w := by kernel_rfl

set_option maxHeartbeats 400000 in
theorem epoch_any (p : Nat) (n : Int) (st : Option (Int × Int × Int)) (w : World) (hs : Src w p n st) :
    Calls Try.prog 11 #[.pointer (some ⟨p, 0, none⟩)] w fun e w' => e = .returned (epochOf st) ∧ New w w' := by
  have hlt := hs.lt
  cases st with
  | some t =>
    obtain ⟨a, b, c⟩ := t
    have c1 : w.cell? ⟨p, 1, none⟩ = some (.iface 51 (.agg #[.int .u64 a, .int .u64 b, .int .u64 c])) := hs.cell 1
    have hm := m_epoch_open
    clear hs
    go_enter Try.func11, Try.ntmps11
    (go_wp2_with fail; refine (epoch_open_any _ _ _ _).mono ?_; rintro e w1 ⟨rfl, h_w1⟩; obtain ⟨hc_w1, hf_w1⟩ := h_w1.facts; (have : w.heap.size < w1.heap.size := by have := h_w1.size; (try simp at this); omega))
    go_wp2
    (refine bodyPost_ret (v := .tuple #[.agg #[.int .u64 a, .int .u64 b, .int .u64 c], .bool true]) (by simp [results, Try.results11, go_sem, hc_w1]) rfl ?_; exact ⟨rfl, by (repeat (first | with_reducible exact Upd.refl _ _ | with_reducible assumption | with_reducible refine Upd.alloc ?_ _ | with_reducible refine Upd.drew ?_ | with_reducible refine Upd.drewN ?_ _ | ((with_reducible refine Upd.setCell ?_ _ _ ?_); rotate_left; focus (first | (left; simp; done) | (right; simp; done) | (right; simp; omega) | (right; omega))) | ((with_reducible apply Upd.new); rotate_left; focus (with_reducible assumption))))⟩)
  | none =>
    have c1 : w.cell? ⟨p, 1, none⟩ = some (.iface 61 (.agg #[])) := hs.cell 1
    have hm := m_epoch_closed
    clear hs
    go_enter Try.func11, Try.ntmps11
    (go_wp2_with fail; refine (epoch_closed_any _).mono ?_; rintro e w1 ⟨rfl, h_w1⟩; obtain ⟨hc_w1, hf_w1⟩ := h_w1.facts; (have : w.heap.size < w1.heap.size := by have := h_w1.size; (try simp at this); omega))
    go_wp2
    (refine bodyPost_ret (v := .tuple #[.agg #[.int .u64 0, .int .u64 0, .int .u64 0], .bool false]) (by simp [results, Try.results11, go_sem, hc_w1]) rfl ?_; exact ⟨rfl, by (repeat (first | with_reducible exact Upd.refl _ _ | with_reducible assumption | with_reducible refine Upd.alloc ?_ _ | with_reducible refine Upd.drew ?_ | with_reducible refine Upd.drewN ?_ _ | ((with_reducible refine Upd.setCell ?_ _ _ ?_); rotate_left; focus (first | (left; simp; done) | (right; simp; done) | (right; simp; omega) | (right; omega))) | ((with_reducible apply Upd.new); rotate_left; focus (with_reducible assumption))))⟩)

theorem epoch_at (p : Nat) (n a b c : Int) (w : World) (hs : Src w p n (some (a, b, c))) :
    Calls Try.prog 11 #[.pointer (some ⟨p, 0, none⟩)] w fun e w' => e = .returned (.tuple #[.agg #[.int .u64 a, .int .u64 b, .int .u64 c], .bool true]) ∧ New w w' := epoch_any p n _ w hs
theorem epoch_shut (p : Nat) (n : Int) (w : World) (hs : Src w p n none) :
    Calls Try.prog 11 #[.pointer (some ⟨p, 0, none⟩)] w fun e w' => e = .returned (.tuple #[.agg #[.int .u64 0, .int .u64 0, .int .u64 0], .bool false]) ∧ New w w' := epoch_any p n _ w hs

theorem Src.kept {S : List Nat} {w w' : World} {p : Nat} {n : Int} {st : Option (Int × Int × Int)} (h : Src w p n st) (k : Upd S w w') (hS : p ∉ S) : Src w' p n st := Blk.kept h k hS
theorem Src.kept1 {w w' : World} {o : Obj} {p : Nat} {n : Int} {st : Option (Int × Int × Int)} (h : Src w p n st) (k : New (w.alloc o) w') : Src w' p n st := Blk.kept (Blk.alloc h o) k (by simp)

/-- What Send answers. -/
def sendOf (n : Int) (st : Option (Int × Int × Int)) (x y z : Int) : Int :=
  if fitsN y z n ≠ 0 then fitsN y z n else match st with
    | some (a, b, c) => mayN a b c x y z
    | none => 45

set_option maxHeartbeats 400000 in
theorem send_any (p : Nat) (n : Int) (st : Option (Int × Int × Int)) (x y z : Int) (w : World) (hs : Src w p n st) :
    Calls Try.prog 12 #[.pointer (some ⟨p, 0, none⟩), .agg #[.int .u64 x, .int .u64 y, .int .u64 z]] w fun e w' => e = .returned (.int .i64 (sendOf n st x y z)) ∧ New w w' := by
  have hlt := hs.lt
  cases st with
  | some t =>
    obtain ⟨a, b, c⟩ := t
    have c0 : w.cell? ⟨p, 0, none⟩ = some (.int .i64 n) := hs.cell 0
    have c1 : w.cell? ⟨p, 1, none⟩ = some (.iface 51 (.agg #[.int .u64 a, .int .u64 b, .int .u64 c])) := hs.cell 1
    have hm := m_may_open
    clear hs
    by_cases hF : fitsN y z n = 0
    · go_enter Try.func12, Try.ntmps12
      (go_wp2_with fail; refine wp_region_still_tail 5 (by kernel_rfl) (by kernel_rfl) ?_; simp only [List.take_succ_cons, List.take_zero, List.drop_succ_cons, List.drop_zero]; change wpStill _ _ (World.drew _) _ _ _; (repeat still_step); refine wpStill_nil ?_; change wpList _ _ _ _ _ (World.drew _))
      (go_wp2_with fail; refine (fits_any _ _ _ _ _).mono ?_; rintro e w1 ⟨rfl, h_w1⟩; obtain ⟨hc_w1, hf_w1⟩ := h_w1.facts; (have : p < w1.heap.size := by have := h_w1.size; (try simp at this); omega); (have : w.heap.size < w1.heap.size := by have := h_w1.size; (try simp at this); omega))
      (go_wp2_with fail; refine wp_region_still_tail 5 (by kernel_rfl) (by kernel_rfl) ?_; simp only [List.take_succ_cons, List.take_zero, List.drop_succ_cons, List.drop_zero]; change wpStill _ _ (World.drew _) _ _ _; (repeat still_step); refine wpStill_nil ?_; change wpList _ _ _ _ _ (World.drew _))
      (go_wp2_with fail; refine (may_open_any _ _ _ _ _ _ _).mono ?_; rintro e w2 ⟨rfl, h_w2⟩; obtain ⟨hc_w2, hf_w2⟩ := h_w2.facts)
      go_wp2
      go_ret
      exact ⟨by simp [sendOf, hF, go_sem], by (repeat (first | with_reducible exact Upd.refl _ _ | with_reducible assumption | with_reducible refine Upd.alloc ?_ _ | with_reducible refine Upd.drew ?_ | with_reducible refine Upd.drewN ?_ _ | ((with_reducible refine Upd.setCell ?_ _ _ ?_); rotate_left; focus (first | (left; simp; done) | (right; simp; done) | (right; simp; omega) | (right; omega))) | ((with_reducible apply Upd.new); rotate_left; focus (with_reducible assumption))))⟩
    · have hF' : (fitsN y z n == 0) = false := by simpa using hF
      go_enter Try.func12, Try.ntmps12
      (go_wp2_with fail; refine wp_region_still_tail 5 (by kernel_rfl) (by kernel_rfl) ?_; simp only [List.take_succ_cons, List.take_zero, List.drop_succ_cons, List.drop_zero]; change wpStill _ _ (World.drew _) _ _ _; (repeat still_step); refine wpStill_nil ?_; change wpList _ _ _ _ _ (World.drew _))
      (go_wp2_with fail; refine (fits_any _ _ _ _ _).mono ?_; rintro e w1 ⟨rfl, h_w1⟩; obtain ⟨hc_w1, hf_w1⟩ := h_w1.facts; (have : p < w1.heap.size := by have := h_w1.size; (try simp at this); omega); (have : w.heap.size < w1.heap.size := by have := h_w1.size; (try simp at this); omega))
      go_wp2
      go_ret
      exact ⟨by simp [sendOf, hF, go_sem], by (repeat (first | with_reducible exact Upd.refl _ _ | with_reducible assumption | with_reducible refine Upd.alloc ?_ _ | with_reducible refine Upd.drew ?_ | with_reducible refine Upd.drewN ?_ _ | ((with_reducible refine Upd.setCell ?_ _ _ ?_); rotate_left; focus (first | (left; simp; done) | (right; simp; done) | (right; simp; omega) | (right; omega))) | ((with_reducible apply Upd.new); rotate_left; focus (with_reducible assumption))))⟩
  | none =>
    have c0 : w.cell? ⟨p, 0, none⟩ = some (.int .i64 n) := hs.cell 0
    have c1 : w.cell? ⟨p, 1, none⟩ = some (.iface 61 (.agg #[])) := hs.cell 1
    have hm := m_may_closed
    clear hs
    by_cases hF : fitsN y z n = 0
    · go_enter Try.func12, Try.ntmps12
      (go_wp2_with fail; refine wp_region_still_tail 5 (by kernel_rfl) (by kernel_rfl) ?_; simp only [List.take_succ_cons, List.take_zero, List.drop_succ_cons, List.drop_zero]; change wpStill _ _ (World.drew _) _ _ _; (repeat still_step); refine wpStill_nil ?_; change wpList _ _ _ _ _ (World.drew _))
      (go_wp2_with fail; refine (fits_any _ _ _ _ _).mono ?_; rintro e w1 ⟨rfl, h_w1⟩; obtain ⟨hc_w1, hf_w1⟩ := h_w1.facts; (have : p < w1.heap.size := by have := h_w1.size; (try simp at this); omega); (have : w.heap.size < w1.heap.size := by have := h_w1.size; (try simp at this); omega))
      (go_wp2_with fail; refine wp_region_still_tail 5 (by kernel_rfl) (by kernel_rfl) ?_; simp only [List.take_succ_cons, List.take_zero, List.drop_succ_cons, List.drop_zero]; change wpStill _ _ (World.drew _) _ _ _; (repeat still_step); refine wpStill_nil ?_; change wpList _ _ _ _ _ (World.drew _))
      (go_wp2_with fail; refine (may_closed_any _ _ _ _).mono ?_; rintro e w2 ⟨rfl, h_w2⟩; obtain ⟨hc_w2, hf_w2⟩ := h_w2.facts)
      go_wp2
      go_ret
      exact ⟨by simp [sendOf, hF, go_sem], by (repeat (first | with_reducible exact Upd.refl _ _ | with_reducible assumption | with_reducible refine Upd.alloc ?_ _ | with_reducible refine Upd.drew ?_ | with_reducible refine Upd.drewN ?_ _ | ((with_reducible refine Upd.setCell ?_ _ _ ?_); rotate_left; focus (first | (left; simp; done) | (right; simp; done) | (right; simp; omega) | (right; omega))) | ((with_reducible apply Upd.new); rotate_left; focus (with_reducible assumption))))⟩
    · have hF' : (fitsN y z n == 0) = false := by simpa using hF
      go_enter Try.func12, Try.ntmps12
      (go_wp2_with fail; refine wp_region_still_tail 5 (by kernel_rfl) (by kernel_rfl) ?_; simp only [List.take_succ_cons, List.take_zero, List.drop_succ_cons, List.drop_zero]; change wpStill _ _ (World.drew _) _ _ _; (repeat still_step); refine wpStill_nil ?_; change wpList _ _ _ _ _ (World.drew _))
      (go_wp2_with fail; refine (fits_any _ _ _ _ _).mono ?_; rintro e w1 ⟨rfl, h_w1⟩; obtain ⟨hc_w1, hf_w1⟩ := h_w1.facts; (have : p < w1.heap.size := by have := h_w1.size; (try simp at this); omega); (have : w.heap.size < w1.heap.size := by have := h_w1.size; (try simp at this); omega))
      go_wp2
      go_ret
      exact ⟨by simp [sendOf, hF, go_sem], by (repeat (first | with_reducible exact Upd.refl _ _ | with_reducible assumption | with_reducible refine Upd.alloc ?_ _ | with_reducible refine Upd.drew ?_ | with_reducible refine Upd.drewN ?_ _ | ((with_reducible refine Upd.setCell ?_ _ _ ?_); rotate_left; focus (first | (left; simp; done) | (right; simp; done) | (right; simp; omega) | (right; omega))) | ((with_reducible apply Upd.new); rotate_left; focus (with_reducible assumption))))⟩

/-- What an input is behind Advance. -/
def advOf (n : Int) (st : Option (Int × Int × Int)) (x y z : Int) : Option (Int × Int × Int) := if sendOf n st x y z = 0 then some (x, y, z) else st

set_option maxHeartbeats 400000 in
theorem advance_any (p : Nat) (n : Int) (st : Option (Int × Int × Int)) (x y z : Int) (w : World) (hs : Src w p n st) :
    Calls Try.prog 13 #[.pointer (some ⟨p, 0, none⟩), .agg #[.int .u64 x, .int .u64 y, .int .u64 z]] w fun e w' => e = .returned (.int .i64 (sendOf n st x y z)) ∧ Upd [p] w w' ∧ Src w' p n (advOf n st x y z) := by
  have hlt := hs.lt
  have c1 : w.cell? ⟨p, 1, none⟩ = some (stv st) := hs.cell 1
  have f1 : w.frozen? ⟨p, 1, none⟩ = false := hs.free 1
  have Hs := Lib.hid hs
  have hs1 : ∀ O : Obj, Src (w.alloc O) p n st := fun O => Blk.alloc hs O
  by_cases hF : sendOf n st x y z = 0
  · clear hs
    go_enter Try.func13, Try.ntmps13
    (go_wp2_with fail; refine (send_any _ n st _ _ _ _ (hs1 _)).mono ?_; rintro e w1 ⟨rfl, h_w1⟩; obtain ⟨hc_w1, hf_w1⟩ := h_w1.facts; (have : p < w1.heap.size := by have := h_w1.size; (try simp at this); omega); (have : w.heap.size < w1.heap.size := by have := h_w1.size; (try simp at this); omega))
    go_wp2
    go_ret
    refine ⟨by simp [hF, go_sem], by (repeat (first | with_reducible exact Upd.refl _ _ | with_reducible assumption | with_reducible refine Upd.alloc ?_ _ | with_reducible refine Upd.drew ?_ | with_reducible refine Upd.drewN ?_ _ | ((with_reducible refine Upd.setCell ?_ _ _ ?_); rotate_left; focus (first | (left; simp; done) | (right; simp; done) | (right; simp; omega) | (right; omega))) | ((with_reducible apply Upd.new); rotate_left; focus (with_reducible assumption)))), ?_⟩
    unfold advOf
    rw [if_pos hF]
    exact ((hs1 _).kept h_w1 (by simp)).set 1 _
  · have hF' : (sendOf n st x y z == 0) = false := by simpa using hF
    clear hs
    go_enter Try.func13, Try.ntmps13
    (go_wp2_with fail; refine (send_any _ n st _ _ _ _ (hs1 _)).mono ?_; rintro e w1 ⟨rfl, h_w1⟩; obtain ⟨hc_w1, hf_w1⟩ := h_w1.facts; (have : p < w1.heap.size := by have := h_w1.size; (try simp at this); omega); (have : w.heap.size < w1.heap.size := by have := h_w1.size; (try simp at this); omega))
    go_wp2
    go_ret
    refine ⟨by simp [go_sem], by (repeat (first | with_reducible exact Upd.refl _ _ | with_reducible assumption | with_reducible refine Upd.alloc ?_ _ | with_reducible refine Upd.drew ?_ | with_reducible refine Upd.drewN ?_ _ | ((with_reducible refine Upd.setCell ?_ _ _ ?_); rotate_left; focus (first | (left; simp; done) | (right; simp; done) | (right; simp; omega) | (right; omega))) | ((with_reducible apply Upd.new); rotate_left; focus (with_reducible assumption)))), ?_⟩
    unfold advOf
    rw [if_neg hF]
    exact (hs1 _).kept h_w1 (by simp)

/-- What Close answers. -/
def closeOf : Option (Int × Int × Int) → Int
  | some _ => 0
  | none => 45

set_option maxHeartbeats 400000 in
theorem close_any (p : Nat) (n : Int) (st : Option (Int × Int × Int)) (w : World) (hs : Src w p n st) :
    Calls Try.prog 14 #[.pointer (some ⟨p, 0, none⟩)] w fun e w' => e = .returned (.int .i64 (closeOf st)) ∧ Upd [p] w w' ∧ Src w' p n none := by
  have hlt := hs.lt
  have f1 : w.frozen? ⟨p, 1, none⟩ = false := hs.free 1
  cases st with
  | some t =>
    obtain ⟨a, b, c⟩ := t
    have c1 : w.cell? ⟨p, 1, none⟩ = some (.iface 51 (.agg #[.int .u64 a, .int .u64 b, .int .u64 c])) := hs.cell 1
    have hm := m_epoch_open
    have Hs := Lib.hid hs
    clear hs
    go_enter Try.func14, Try.ntmps14
    (go_wp2_with fail; refine (epoch_open_any _ _ _ _).mono ?_; rintro e w1 ⟨rfl, h_w1⟩; obtain ⟨hc_w1, hf_w1⟩ := h_w1.facts; (have : p < w1.heap.size := by have := h_w1.size; (try simp at this); omega))
    go_wp2
    go_ret
    refine ⟨rfl, by (repeat (first | with_reducible exact Upd.refl _ _ | with_reducible assumption | with_reducible refine Upd.alloc ?_ _ | with_reducible refine Upd.drew ?_ | with_reducible refine Upd.drewN ?_ _ | ((with_reducible refine Upd.setCell ?_ _ _ ?_); rotate_left; focus (first | (left; simp; done) | (right; simp; done) | (right; simp; omega) | (right; omega))) | ((with_reducible apply Upd.new); rotate_left; focus (with_reducible assumption)))), ?_⟩
    exact ((Blk.kept Hs.out h_w1 (by simp)).set 1 _).alloc _
  | none =>
    have c1 : w.cell? ⟨p, 1, none⟩ = some (.iface 61 (.agg #[])) := hs.cell 1
    have hm := m_epoch_closed
    have Hs := Lib.hid hs
    clear hs
    go_enter Try.func14, Try.ntmps14
    (go_wp2_with fail; refine (epoch_closed_any _).mono ?_; rintro e w1 ⟨rfl, h_w1⟩; obtain ⟨hc_w1, hf_w1⟩ := h_w1.facts; (have : p < w1.heap.size := by have := h_w1.size; (try simp at this); omega))
    go_wp2
    go_ret
    refine ⟨rfl, by (repeat (first | with_reducible exact Upd.refl _ _ | with_reducible assumption | with_reducible refine Upd.alloc ?_ _ | with_reducible refine Upd.drew ?_ | with_reducible refine Upd.drewN ?_ _ | ((with_reducible refine Upd.setCell ?_ _ _ ?_); rotate_left; focus (first | (left; simp; done) | (right; simp; done) | (right; simp; omega) | (right; omega))) | ((with_reducible apply Upd.new); rotate_left; focus (with_reducible assumption)))), ?_⟩
    exact ((Blk.kept Hs.out h_w1 (by simp)).alloc _)

set_option maxHeartbeats 400000 in
theorem copy_any (p : Nat) (n : Int) (st : Option (Int × Int × Int)) (w : World) (hs : Src w p n st) :
    Calls Try.prog 8 #[.pointer (some ⟨p, 0, none⟩)] w fun e w' => ∃ q, w.heap.size ≤ q ∧ e = .returned (.pointer (some ⟨q, 0, none⟩)) ∧ New w w' ∧ Src w' q n st := by
  have hlt := hs.lt
  have c0 : w.cell? ⟨p, 0, none⟩ = some (.int .i64 n) := hs.cell 0
  cases st with
  | some t =>
    obtain ⟨a, b, c⟩ := t
    have c1 : w.cell? ⟨p, 1, none⟩ = some (.iface 51 (.agg #[.int .u64 a, .int .u64 b, .int .u64 c])) := hs.cell 1
    clear hs
    go_enter Try.func8, Try.ntmps8
    go_wp2
    go_ret
    exact ⟨_, Nat.le_refl _, rfl, by (repeat (first | with_reducible exact Upd.refl _ _ | with_reducible assumption | with_reducible refine Upd.alloc ?_ _ | with_reducible refine Upd.drew ?_ | with_reducible refine Upd.drewN ?_ _ | ((with_reducible refine Upd.setCell ?_ _ _ ?_); rotate_left; focus (first | (left; simp; done) | (right; simp; done) | (right; simp; omega) | (right; omega))) | ((with_reducible apply Upd.new); rotate_left; focus (with_reducible assumption)))), Blk.new _ _ _⟩
  | none =>
    have c1 : w.cell? ⟨p, 1, none⟩ = some (.iface 61 (.agg #[])) := hs.cell 1
    clear hs
    go_enter Try.func8, Try.ntmps8
    go_wp2
    go_ret
    exact ⟨_, Nat.le_refl _, rfl, by (repeat (first | with_reducible exact Upd.refl _ _ | with_reducible assumption | with_reducible refine Upd.alloc ?_ _ | with_reducible refine Upd.drew ?_ | with_reducible refine Upd.drewN ?_ _ | ((with_reducible refine Upd.setCell ?_ _ _ ?_); rotate_left; focus (first | (left; simp; done) | (right; simp; done) | (right; simp; omega) | (right; omega))) | ((with_reducible apply Upd.new); rotate_left; focus (with_reducible assumption)))), Blk.new _ _ _⟩

set_option maxHeartbeats 400000 in
theorem new_bad (n : Int) (hF : fitsN 0 0 n = 10) (w : World) :
    Calls Try.prog 6 #[.int .i64 n] w fun e w' => e = .returned (.tuple #[.pointer none, .int .i64 10]) ∧ New w w' := by
  go_enter Try.func6, Try.ntmps6
  (go_wp2_with fail; refine (fits_any _ _ _ _ _).mono ?_; rintro e w1 ⟨rfl, h_w1⟩; obtain ⟨hc_w1, hf_w1⟩ := h_w1.facts)
  go_wp2
  go_ret2
  exact ⟨rfl, by (repeat (first | with_reducible exact Upd.refl _ _ | with_reducible assumption | with_reducible refine Upd.alloc ?_ _ | with_reducible refine Upd.drew ?_ | with_reducible refine Upd.drewN ?_ _ | ((with_reducible refine Upd.setCell ?_ _ _ ?_); rotate_left; focus (first | (left; simp; done) | (right; simp; done) | (right; simp; omega) | (right; omega))) | ((with_reducible apply Upd.new); rotate_left; focus (with_reducible assumption))))⟩

set_option maxHeartbeats 400000 in
theorem new_any (n : Int) (hF : fitsN 0 0 n = 0) (w : World) :
    Calls Try.prog 6 #[.int .i64 n] w fun e w' => ∃ q, w.heap.size ≤ q ∧ e = .returned (.tuple #[.pointer (some ⟨q, 0, none⟩), .int .i64 0]) ∧ New w w' ∧ Src w' q n (some (0, 0, 0)) := by
  go_enter Try.func6, Try.ntmps6
  (go_wp2_with fail; refine (fits_any _ _ _ _ _).mono ?_; rintro e w1 ⟨rfl, h_w1⟩; obtain ⟨hc_w1, hf_w1⟩ := h_w1.facts)
  go_wp2
  go_ret2
  exact ⟨_, h_w1.size, rfl, by (repeat (first | with_reducible exact Upd.refl _ _ | with_reducible assumption | with_reducible refine Upd.alloc ?_ _ | with_reducible refine Upd.drew ?_ | with_reducible refine Upd.drewN ?_ _ | ((with_reducible refine Upd.setCell ?_ _ _ ?_); rotate_left; focus (first | (left; simp; done) | (right; simp; done) | (right; simp; omega) | (right; omega))) | ((with_reducible apply Upd.new); rotate_left; focus (with_reducible assumption)))), Blk.new _ _ _⟩

/-! A nil input. -/
theorem copy_nil (w : World) : Calls Try.prog 8 #[.pointer none] w fun e w' => e = .returned (.pointer none) ∧ New w w' := by
  go_enter Try.func8, Try.ntmps8
  go_wp2
  go_ret
  exact ⟨rfl, by (repeat (first | with_reducible exact Upd.refl _ _ | with_reducible assumption | with_reducible refine Upd.alloc ?_ _ | with_reducible refine Upd.drew ?_ | with_reducible refine Upd.drewN ?_ _ | ((with_reducible refine Upd.setCell ?_ _ _ ?_); rotate_left; focus (first | (left; simp; done) | (right; simp; done) | (right; simp; omega) | (right; omega))) | ((with_reducible apply Upd.new); rotate_left; focus (with_reducible assumption))))⟩
theorem close_nil (w : World) : Calls Try.prog 14 #[.pointer none] w fun e w' => e = .returned (.int .i64 0) ∧ New w w' := by
  go_enter Try.func14, Try.ntmps14
  go_wp2
  go_ret
  exact ⟨rfl, by (repeat (first | with_reducible exact Upd.refl _ _ | with_reducible assumption | with_reducible refine Upd.alloc ?_ _ | with_reducible refine Upd.drew ?_ | with_reducible refine Upd.drewN ?_ _ | ((with_reducible refine Upd.setCell ?_ _ _ ?_); rotate_left; focus (first | (left; simp; done) | (right; simp; done) | (right; simp; omega) | (right; omega))) | ((with_reducible apply Upd.new); rotate_left; focus (with_reducible assumption))))⟩
theorem send_nil (x y z : Int) (w : World) : Calls Try.prog 12 #[.pointer none, .agg #[.int .u64 x, .int .u64 y, .int .u64 z]] w fun e w' => e = .returned (.int .i64 0) ∧ New w w' := by
  go_enter Try.func12, Try.ntmps12
  go_wp2
  go_ret
  exact ⟨rfl, by (repeat (first | with_reducible exact Upd.refl _ _ | with_reducible assumption | with_reducible refine Upd.alloc ?_ _ | with_reducible refine Upd.drew ?_ | with_reducible refine Upd.drewN ?_ _ | ((with_reducible refine Upd.setCell ?_ _ _ ?_); rotate_left; focus (first | (left; simp; done) | (right; simp; done) | (right; simp; omega) | (right; omega))) | ((with_reducible apply Upd.new); rotate_left; focus (with_reducible assumption))))⟩
theorem advance_nil (x y z : Int) (w : World) : Calls Try.prog 13 #[.pointer none, .agg #[.int .u64 x, .int .u64 y, .int .u64 z]] w fun e w' => e = .returned (.int .i64 0) ∧ New w w' := by
  go_enter Try.func13, Try.ntmps13
  (go_wp2_with fail; refine (send_nil _ _ _ _).mono ?_; rintro e w1 ⟨rfl, h_w1⟩; obtain ⟨hc_w1, hf_w1⟩ := h_w1.facts)
  go_wp2
  go_ret
  exact ⟨rfl, by (repeat (first | with_reducible exact Upd.refl _ _ | with_reducible assumption | with_reducible refine Upd.alloc ?_ _ | with_reducible refine Upd.drew ?_ | with_reducible refine Upd.drewN ?_ _ | ((with_reducible refine Upd.setCell ?_ _ _ ?_); rotate_left; focus (first | (left; simp; done) | (right; simp; done) | (right; simp; omega) | (right; omega))) | ((with_reducible apply Upd.new); rotate_left; focus (with_reducible assumption))))⟩
theorem epoch_nil (w : World) : Calls Try.prog 11 #[.pointer none] w fun e w' => e = .returned (.tuple #[.agg #[.int .u64 0, .int .u64 0, .int .u64 0], .bool false]) ∧ New w w' := by
  go_enter Try.func11, Try.ntmps11
  go_wp2
  (refine bodyPost_ret (v := .tuple #[.agg #[.int .u64 0, .int .u64 0, .int .u64 0], .bool false]) (by simp [results, Try.results11, go_sem]) rfl ?_; exact ⟨rfl, by (repeat (first | with_reducible exact Upd.refl _ _ | with_reducible assumption | with_reducible refine Upd.alloc ?_ _ | with_reducible refine Upd.drew ?_ | with_reducible refine Upd.drewN ?_ _ | ((with_reducible refine Upd.setCell ?_ _ _ ?_); rotate_left; focus (first | (left; simp; done) | (right; simp; done) | (right; simp; omega) | (right; omega))) | ((with_reducible apply Upd.new); rotate_left; focus (with_reducible assumption))))⟩)
end Go.Proofs.Ytjjaidhmpddkpaa
