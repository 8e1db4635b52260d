/- One call on the program's input and on the document's. -/
import Derived.Test.YtjjaidhmpddkpaaRows
import Derived.Test.YtjjaidhmpddkpaaMem
import Derived.Test.YtjjaidhmpddkpaaStamp
import Derived.Test.YtjjaidhmpddkpaaSource
import Derived.Test.YtjjaidhmpddkpaaRef23
import Derived.WalkKit
import Derived.WalkSpells
import Derived.WalkLawsBesides
import Derived.BigQuiet
import Derived.Deep.QuietTactic
import Derived.StillTailTactics
import Derived.Lib.Hide
import Derived.Deep.RegionHeld3
import Derived.BigRegion
namespace Go.Proofs.Ytjjaidhmpddkpaa
open Go.RowKit

/-- Both inputs as they should be, and nothing else that was there turned. -/
def Both (S : List Nat) (w0 : World) (p r : Nat) (n : Int) (sp sr : Option (Int × Int × Int)) (w : World) : Prop := Upd S w0 w ∧ Src w p n sp ∧ RSrc w r n sr
theorem Both.kept {S : List Nat} {w0 w w1 : World} {p r : Nat} {n : Int} {sp sr : Option (Int × Int × Int)} (h : Both S w0 p r n sp sr w) (k : New w w1) : Both S w0 p r n sp sr w1 :=
  ⟨h.1.new k, h.2.1.kept k (by simp), h.2.2.kept k (by simp)⟩
theorem Both.drew {S : List Nat} {w0 w : World} {p r : Nat} {n : Int} {sp sr : Option (Int × Int × Int)} (h : Both S w0 p r n sp sr w) : Both S w0 p r n sp sr w.drew :=
  h.kept ((Upd.refl _ _).drew)

set_option maxRecDepth 100000 in
set_option maxHeartbeats 2000000 in
theorem step_send (p r : Nat) (n on x y z : Int) (st : Option (Int × Int × Int)) (w : World) (hp : Src w p n st) (hr : RSrc w r n st) :
    Calls Try.prog 10 #[.agg #[.pointer (some ⟨p, 0, none⟩), .pointer (some ⟨r, 0, none⟩)], .agg #[.int .i64 1, .int .i64 on, .int .u64 x, .int .u64 y, .int .u64 z]] w fun e w' => e = .returned (.bool true) ∧ New w w' := by
  have hB : Both [] w p r n st st ((w.alloc (.cells #[.pointer (some ⟨p, 0, none⟩), .pointer (some ⟨r, 0, none⟩)] 32)).alloc (.cells #[.int .i64 1, .int .i64 on, .int .u64 x, .int .u64 y, .int .u64 z] 38)) :=
    ⟨by (repeat (first | with_reducible exact Upd.refl _ _ | with_reducible assumption | with_reducible refine Upd.alloc ?_ _ | with_reducible refine Upd.drew ?_ | with_reducible refine Upd.drewN ?_ _ | ((with_reducible refine Upd.setCell ?_ _ _ ?_); rotate_left; focus (first | (left; simp; done) | (right; simp; done) | (right; simp; omega) | (right; omega))) | ((with_reducible apply Upd.new); rotate_left; focus (with_reducible assumption)))), (hp.kept (S := []) ((Upd.refl _ _).alloc _) (by simp)).kept (S := []) ((Upd.refl _ _).alloc _) (by simp), (hr.alloc _).alloc _⟩
  clear hp hr
  go_enter Try.func10, Try.ntmps10
  go_wp2_with fail
  go_region_held3 (fun w' => Both [] w p r n st st w' ∧ w'.cell? ⟨w.heap.size, 0, none⟩ = some (.pointer (some ⟨p, 0, none⟩)) ∧ w'.cell? ⟨w.heap.size, 1, none⟩ = some (.pointer (some ⟨r, 0, none⟩))
      ∧ w'.cell? ⟨w.heap.size + 1, 0, none⟩ = some (.int .i64 1) ∧ w'.cell? ⟨w.heap.size + 1, 2, none⟩ = some (.int .u64 x) ∧ w'.cell? ⟨w.heap.size + 1, 3, none⟩ = some (.int .u64 y) ∧ w'.cell? ⟨w.heap.size + 1, 4, none⟩ = some (.int .u64 z))
    (first
      | (refine ⟨hB.drew, ?_⟩; go_keep)
      | (go_split_ands
         refine ⟨Both.kept (by assumption) (by assumption), ?_, ?_, ?_, ?_, ?_, ?_⟩ <;> exact cell_kept (by assumption) (by assumption)))
    (first
      | (go_at_call 12; go_split_ands; have hbb := ‹Both _ _ _ _ _ _ _ _›; refine (send_any p n st x y z _ hbb.2.1).mono ?_; rintro e w1 ⟨rfl, h1⟩)
      | (go_at_call 16; go_split_ands; have hbb := ‹Both _ _ _ _ _ _ _ _›; refine (rsend_any r n st x y z _ hbb.2.2).mono ?_; rintro e w1 ⟨rfl, h1⟩))
  all_goals
    go_split_ands
    have hbb := (‹Both _ _ _ _ _ _ _ _›).1
    go_wp2
    go_ret
    exact ⟨rfl, by (repeat (first | with_reducible exact Upd.refl _ _ | with_reducible assumption | with_reducible refine Upd.alloc ?_ _ | with_reducible refine Upd.drew ?_ | with_reducible refine Upd.drewN ?_ _ | ((with_reducible refine Upd.setCell ?_ _ _ ?_); rotate_left; focus (first | (left; simp; done) | (right; simp; done) | (right; simp; omega) | (right; omega))) | ((with_reducible apply Upd.new); rotate_left; focus (with_reducible assumption))))⟩

set_option maxRecDepth 100000 in
set_option maxHeartbeats 4000000 in
theorem step_adv (p r : Nat) (n on x y z : Int) (st : Option (Int × Int × Int)) (w : World) (hp : Src w p n st) (hr : RSrc w r n st) (hpr : p ≠ r) :
    Calls Try.prog 10 #[.agg #[.pointer (some ⟨p, 0, none⟩), .pointer (some ⟨r, 0, none⟩)], .agg #[.int .i64 2, .int .i64 on, .int .u64 x, .int .u64 y, .int .u64 z]] w fun e w' => e = .returned (.bool true) ∧ Both [p, r] w p r n (advOf n st x y z) (advOf n st x y z) w' := by
  have lp := hp.lt
  have lr := hr.lt
  obtain ⟨B0, hB0⟩ : ∃ B, Hid (B = w.heap.size) := ⟨_, rfl⟩
  have hP : Src ((w.alloc (.cells #[.pointer (some ⟨p, 0, none⟩), .pointer (some ⟨r, 0, none⟩)] 32)).alloc (.cells #[.int .i64 2, .int .i64 on, .int .u64 x, .int .u64 y, .int .u64 z] 38)).drew p n st := (hp.kept (S := []) ((Upd.refl _ _).alloc _) (by simp)).kept (S := []) (((Upd.refl _ _).alloc _).drew) (by simp)
  have hR : RSrc ((w.alloc (.cells #[.pointer (some ⟨p, 0, none⟩), .pointer (some ⟨r, 0, none⟩)] 32)).alloc (.cells #[.int .i64 2, .int .i64 on, .int .u64 x, .int .u64 y, .int .u64 z] 38)).drew r n st := (hr.alloc _).kept (S := []) (((Upd.refl _ _).alloc _).drew) (by simp)
  clear hp hr
  go_enter Try.func10, Try.ntmps10
  go_wp2_with fail
  go_region_held3 (fun w' => w'.cell? ⟨w.heap.size, 0, none⟩ = some (.pointer (some ⟨p, 0, none⟩)) ∧ w'.cell? ⟨w.heap.size, 1, none⟩ = some (.pointer (some ⟨r, 0, none⟩))
      ∧ w'.cell? ⟨w.heap.size + 1, 0, none⟩ = some (.int .i64 2) ∧ w'.cell? ⟨w.heap.size + 1, 2, none⟩ = some (.int .u64 x) ∧ w'.cell? ⟨w.heap.size + 1, 3, none⟩ = some (.int .u64 y) ∧ w'.cell? ⟨w.heap.size + 1, 4, none⟩ = some (.int .u64 z))
    (first
      | go_keep
      | (go_split_ands
         refine ⟨?_, ?_, ?_, ?_, ?_, ?_⟩ <;> exact cell_kept_upd (by assumption) (by simp; omega) (by assumption)))
    (first
      | (go_at_call 13; refine (advance_any p n st x y z _ ?_).mono ?_; (first | exact hP | exact hP.kept (by assumption) (by simp; omega)); rintro e w1 ⟨rfl, h1, s1⟩)
      | (go_at_call 17; refine (radvance_any r n st x y z _ ?_).mono ?_; (first | exact hR | exact hR.kept (by assumption) (by simp; omega)); rintro e w2 ⟨rfl, h2, s2⟩))
  rename_i hH
  have hU : Upd [p, r] w w2 := by
    refine Upd.step (b := w1) (T := [r]) ?_ h2 (by simp)
    refine Upd.step (T := [p]) ?_ h1 (by simp)
    (repeat (first | with_reducible exact Upd.refl _ _ | with_reducible assumption | with_reducible refine Upd.alloc ?_ _ | with_reducible refine Upd.drew ?_ | with_reducible refine Upd.drewN ?_ _ | ((with_reducible refine Upd.setCell ?_ _ _ ?_); rotate_left; focus (first | (left; simp; done) | (right; simp; done) | (right; simp; omega) | (right; omega))) | ((with_reducible apply Upd.new); rotate_left; focus (with_reducible assumption))))
  have HB : Hid (Both [p, r] w p r n (advOf n st x y z) (advOf n st x y z) w2) := ⟨hU, s1.kept h2 (by simpa using hpr), s2⟩
  clear h1 s1 h2 s2 hP hR hU
  go_split_ands
  go_wp2
  go_ret
  exact ⟨rfl, HB.out⟩

theorem src_two {w w' : World} {p : Nat} {n : Int} {st : Option (Int × Int × Int)} {o o' : Obj} (h : Src w p n st) (k : New ((w.alloc o).alloc o') w') : Src w' p n st :=
  (h.kept (S := []) (((Upd.refl _ _).alloc o).alloc o') (by simp)).kept k (by simp)
theorem rsrc_two {w w' : World} {p : Nat} {n : Int} {st : Option (Int × Int × Int)} {o o' : Obj} (h : RSrc w p n st) (k : New ((w.alloc o).alloc o') w') : RSrc w' p n st :=
  (h.kept (S := []) (((Upd.refl _ _).alloc o).alloc o') (by simp)).kept k (by simp)

set_option maxRecDepth 100000 in
set_option maxHeartbeats 4000000 in
theorem step_epoch (p r : Nat) (n on x y z : Int) (st : Option (Int × Int × Int)) (w : World) (hp : Src w p n st) (hr : RSrc w r n st) :
    Calls Try.prog 10 #[.agg #[.pointer (some ⟨p, 0, none⟩), .pointer (some ⟨r, 0, none⟩)], .agg #[.int .i64 4, .int .i64 on, .int .u64 x, .int .u64 y, .int .u64 z]] w fun e w' => e = .returned (.bool true) ∧ New w w' := by
  have lp := hp.lt
  have lr := hr.lt
  cases st with
  | some t =>
    obtain ⟨a, b, c⟩ := t
    go_enter Try.func10, Try.ntmps10
    go_wp2_with fail
    refine (epoch_at p n a b c _ (src_two hp (Upd.refl _ _))).mono ?_
    rintro e w1 ⟨rfl, h1⟩
    have c1 : w1.cell? ⟨w.heap.size, 1, none⟩ = some (.pointer (some ⟨r, 0, none⟩)) := cell_kept h1 (by simp [go_sem])
    have R1 := rsrc_two hr h1
    have hw1 : w.heap.size + 1 < w1.heap.size := by have := h1.size; simp at this; omega
    have hw2 : w.heap.size < w1.heap.size := by omega
    go_wp2_with fail
    refine (repoch_at r n a b c _ (R1.alloc _)).mono ?_
    rintro e w2 ⟨rfl, h2⟩
    obtain ⟨b0, b1, b2, -⟩ := ((Blk.new w1 #[.int .u64 a, .int .u64 b, .int .u64 c] 36).kept h2 (by simp)).three
    have hw3 : w1.heap.size < w2.heap.size := by have := h2.size; simp at this; omega
    go_wp2
    go_ret
    exact ⟨rfl, by (repeat (first | with_reducible exact Upd.refl _ _ | with_reducible assumption | with_reducible refine Upd.alloc ?_ _ | with_reducible refine Upd.drew ?_ | with_reducible refine Upd.drewN ?_ _ | ((with_reducible refine Upd.setCell ?_ _ _ ?_); rotate_left; focus (first | (left; simp; done) | (right; simp; done) | (right; simp; omega) | (right; omega))) | ((with_reducible apply Upd.new); rotate_left; focus (with_reducible assumption))))⟩
  | none =>
    go_enter Try.func10, Try.ntmps10
    go_wp2_with fail
    refine (epoch_shut p n _ (src_two hp (Upd.refl _ _))).mono ?_
    rintro e w1 ⟨rfl, h1⟩
    have c1 : w1.cell? ⟨w.heap.size, 1, none⟩ = some (.pointer (some ⟨r, 0, none⟩)) := cell_kept h1 (by simp [go_sem])
    have R1 := rsrc_two hr h1
    have hw1 : w.heap.size + 1 < w1.heap.size := by have := h1.size; simp at this; omega
    have hw2 : w.heap.size < w1.heap.size := by omega
    go_wp2_with fail
    refine (repoch_shut r n _ (R1.alloc _)).mono ?_
    rintro e w2 ⟨rfl, h2⟩
    obtain ⟨b0, b1, b2, -⟩ := ((Blk.new w1 #[.int .u64 0, .int .u64 0, .int .u64 0] 36).kept h2 (by simp)).three
    have hw3 : w1.heap.size < w2.heap.size := by have := h2.size; simp at this; omega
    go_wp2
    go_ret
    exact ⟨rfl, by (repeat (first | with_reducible exact Upd.refl _ _ | with_reducible assumption | with_reducible refine Upd.alloc ?_ _ | with_reducible refine Upd.drew ?_ | with_reducible refine Upd.drewN ?_ _ | ((with_reducible refine Upd.setCell ?_ _ _ ?_); rotate_left; focus (first | (left; simp; done) | (right; simp; done) | (right; simp; omega) | (right; omega))) | ((with_reducible apply Upd.new); rotate_left; focus (with_reducible assumption))))⟩

set_option maxRecDepth 100000 in
set_option maxHeartbeats 4000000 in
theorem step_other (p r : Nat) (kind on x y z : Int) (h1 : kind ≠ 1) (h2 : kind ≠ 2) (h3 : kind ≠ 3) (h4 : kind ≠ 4) (w : World) :
    Calls Try.prog 10 #[.agg #[.pointer (some ⟨p, 0, none⟩), .pointer (some ⟨r, 0, none⟩)], .agg #[.int .i64 kind, .int .i64 on, .int .u64 x, .int .u64 y, .int .u64 z]] w fun e w' => e = .returned (.bool true) ∧ New w w' := by
  have e1 : (kind == 1) = false := by simpa using h1
  have e2 : (kind == 2) = false := by simpa using h2
  have e3 : (kind == 3) = false := by simpa using h3
  have e4 : (kind == 4) = false := by simpa using h4
  have e3' : (kind != 3) = true := by simpa using h3
  have e4' : (kind != 4) = true := by simpa using h4
  go_enter Try.func10, Try.ntmps10
  go_wp2
  go_ret
  exact ⟨rfl, by (repeat (first | with_reducible exact Upd.refl _ _ | with_reducible assumption | with_reducible refine Upd.alloc ?_ _ | with_reducible refine Upd.drew ?_ | with_reducible refine Upd.drewN ?_ _ | ((with_reducible refine Upd.setCell ?_ _ _ ?_); rotate_left; focus (first | (left; simp; done) | (right; simp; done) | (right; simp; omega) | (right; omega))) | ((with_reducible apply Upd.new); rotate_left; focus (with_reducible assumption))))⟩

set_option maxRecDepth 100000 in
set_option maxHeartbeats 4000000 in
theorem step_close (p r : Nat) (n on x y z : Int) (st : Option (Int × Int × Int)) (w : World) (hp : Src w p n st) (hr : RSrc w r n st) (hpr : p ≠ r) :
    Calls Try.prog 10 #[.agg #[.pointer (some ⟨p, 0, none⟩), .pointer (some ⟨r, 0, none⟩)], .agg #[.int .i64 3, .int .i64 on, .int .u64 x, .int .u64 y, .int .u64 z]] w fun e w' => e = .returned (.bool true) ∧ Both [p, r] w p r n none none w' := by
  have lp := hp.lt
  have lr := hr.lt
  have hP : Src ((w.alloc (.cells #[.pointer (some ⟨p, 0, none⟩), .pointer (some ⟨r, 0, none⟩)] 32)).alloc (.cells #[.int .i64 3, .int .i64 on, .int .u64 x, .int .u64 y, .int .u64 z] 38)).drew p n st := (hp.kept (S := []) ((Upd.refl _ _).alloc _) (by simp)).kept (S := []) (((Upd.refl _ _).alloc _).drew) (by simp)
  have hR : RSrc ((w.alloc (.cells #[.pointer (some ⟨p, 0, none⟩), .pointer (some ⟨r, 0, none⟩)] 32)).alloc (.cells #[.int .i64 3, .int .i64 on, .int .u64 x, .int .u64 y, .int .u64 z] 38)).drew r n st := (hr.alloc _).kept (S := []) (((Upd.refl _ _).alloc _).drew) (by simp)
  clear hp hr
  go_enter Try.func10, Try.ntmps10
  go_wp2_with fail
  go_region_held3 (fun w' => w'.cell? ⟨w.heap.size, 0, none⟩ = some (.pointer (some ⟨p, 0, none⟩)) ∧ w'.cell? ⟨w.heap.size, 1, none⟩ = some (.pointer (some ⟨r, 0, none⟩))
      ∧ w'.cell? ⟨w.heap.size + 1, 0, none⟩ = some (.int .i64 3))
    (first
      | go_keep
      | (go_split_ands
         refine ⟨?_, ?_, ?_⟩ <;> exact cell_kept_upd (by assumption) (by simp; omega) (by assumption)))
    (first
      | (go_at_call 14; refine (close_any p n st _ ?_).mono ?_; (first | exact hP | exact hP.kept (by assumption) (by simp; omega)); rintro e w1 ⟨rfl, h1, s1⟩)
      | (go_at_call 18; refine (rclose_any r n st _ ?_).mono ?_; (first | exact hR | exact hR.kept (by assumption) (by simp; omega)); rintro e w2 ⟨rfl, h2, s2⟩))
  rename_i hH
  have hU : Upd [p, r] w w2 := by
    refine Upd.step (b := w1) (T := [r]) ?_ h2 (by simp)
    refine Upd.step (T := [p]) ?_ h1 (by simp)
    (repeat (first | with_reducible exact Upd.refl _ _ | with_reducible assumption | with_reducible refine Upd.alloc ?_ _ | with_reducible refine Upd.drew ?_ | with_reducible refine Upd.drewN ?_ _ | ((with_reducible refine Upd.setCell ?_ _ _ ?_); rotate_left; focus (first | (left; simp; done) | (right; simp; done) | (right; simp; omega) | (right; omega))) | ((with_reducible apply Upd.new); rotate_left; focus (with_reducible assumption))))
  have s1' := s1.kept h2 (by simpa using hpr)
  have hw2 : w.heap.size + 1 < w2.heap.size := by have := h1.size; have := h2.size; simp at *; omega
  have hw2' : w.heap.size < w2.heap.size := by omega
  have HU := Lib.hid hU
  clear h1 s1 h2 hP hR hU
  go_split_ands
  go_wp2_with fail
  refine (epoch_shut p n _ s1').mono ?_
  rintro e w3 ⟨rfl, h3⟩
  have c1 : w3.cell? ⟨w.heap.size, 1, none⟩ = some (.pointer (some ⟨r, 0, none⟩)) := cell_kept h3 (by assumption)
  have R3 := s2.kept h3 (by simp)
  have hw3 : w.heap.size < w3.heap.size := by have := h3.size; omega
  go_wp2_with fail
  refine (repoch_shut r n _ (R3.alloc _)).mono ?_
  rintro e w4 ⟨rfl, h4⟩
  obtain ⟨b0, b1, b2, -⟩ := ((Blk.new w3 #[.int .u64 0, .int .u64 0, .int .u64 0] 36).kept h4 (by simp)).three
  have hw4 : w3.heap.size < w4.heap.size := by have := h4.size; simp at this; omega
  have P4 := (s1'.kept h3 (by simp)).kept (S := []) (((Upd.refl _ _).alloc (.cells #[.int .u64 0, .int .u64 0, .int .u64 0] 36)).new h4) (by simp)
  have R4 := (R3.alloc _).kept h4 (by simp)
  have n4 : Upd [p, r] w w4 := ((HU.out.new h3).alloc _).new h4
  have HB : Hid (∀ o, Both [p, r] w p r n none none (w4.alloc o)) := fun o => ⟨n4.alloc o, P4.kept (S := []) ((Upd.refl _ _).alloc o) (by simp), R4.alloc o⟩
  clear n4 R4 P4 h4 h3 s1' s2
  go_wp2
  go_ret
  exact ⟨rfl, HB.out _⟩
end Go.Proofs.Ytjjaidhmpddkpaa
