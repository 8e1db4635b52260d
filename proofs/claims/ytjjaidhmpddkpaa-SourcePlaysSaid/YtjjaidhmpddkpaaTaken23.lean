/- What sluicelaw23 asks first: calls whose answers the document fixes. -/
import Derived.Test.YtjjaidhmpddkpaaRows
import Derived.Test.YtjjaidhmpddkpaaMem
import Derived.Test.YtjjaidhmpddkpaaStamp
import Derived.Test.YtjjaidhmpddkpaaSource
import Derived.WalkKit
import Derived.WalkSpells
import Derived.WalkLawsBesides
import Derived.BigQuiet
import Derived.Deep.QuietTactic
import Derived.StillTailTactics
import Derived.Lib.Hide
import Derived.Deep.RegionHeld3
namespace Go.Proofs.Ytjjaidhmpddkpaa
open Go.RowKit

set_option maxHeartbeats 1000000 in
theorem taken_any (w : World) :
    Calls Try.prog 5 #[] w fun e w' => e = .returned (.bool true) ∧ New w w' := by
  go_enter Try.func5, Try.ntmps5
  go_wp2_with fail
  refine (new_any 2 (by decide) _).mono ?_
  rintro e w1 ⟨q, hq, rfl, h1, s1⟩
  go_wp2_with fail
  refine (new_bad 4 (by decide) _).mono ?_
  rintro e w2 ⟨rfl, h2⟩
  have s2 := s1.kept h2 (by simp)
  go_wp2_with fail
  refine (epoch_nil _).mono ?_
  rintro e w3 ⟨rfl, h3⟩
  have s3 := s2.kept h3 (by simp)
  (go_wp2_with fail; refine (send_nil _ _ _ _).mono ?_; rintro e w4 ⟨rfl, h_w4⟩; obtain ⟨hc_w4, hf_w4⟩ := h_w4.facts; (have : w3.heap.size < w4.heap.size := by have := h_w4.size; (try simp at this); omega))
  have s4 := s3.kept1 h_w4
  have b4 := (Blk.new w3 #[.int .u64 0, .int .u64 0, .int .u64 0] 36).kept h_w4 (by simp)
  (go_wp2_with fail; refine (advance_nil _ _ _ _).mono ?_; rintro e w5 ⟨rfl, h_w5⟩; obtain ⟨hc_w5, hf_w5⟩ := h_w5.facts; (have : w3.heap.size < w5.heap.size := by have := h_w5.size; (try simp at this); omega))
  have s5 := s4.kept h_w5 (by simp)
  have b5 := b4.kept h_w5 (by simp)
  (go_wp2_with fail; refine (close_nil _).mono ?_; rintro e w6 ⟨rfl, h_w6⟩; obtain ⟨hc_w6, hf_w6⟩ := h_w6.facts; (have : w3.heap.size < w6.heap.size := by have := h_w6.size; (try simp at this); omega))
  have s6 := s5.kept h_w6 (by simp)
  have b6 := b5.kept h_w6 (by simp)
  (go_wp2_with fail; refine (copy_nil _).mono ?_; rintro e w7 ⟨rfl, h_w7⟩; obtain ⟨hc_w7, hf_w7⟩ := h_w7.facts; (have : w3.heap.size < w7.heap.size := by have := h_w7.size; (try simp at this); omega))
  have s7 := s6.kept h_w7 (by simp)
  have b7 := b6.kept h_w7 (by simp)
  clear hc_w4 hc_w5 hc_w6 hf_w4 hf_w5 hf_w6 hc_w7 hf_w7
  have hq7 := s7.lt
  have hq3 := s3.lt
  go_wp2_with fail
  refine (advance_any _ _ _ _ _ _ _ s7).mono ?_
  rintro e w8 ⟨rfl, h8, s8⟩
  have h8n : New w w8 := by
    have := h1.size; have := h2.size; have := h3.size; have := h_w4.size; have := h_w5.size; have := h_w6.size; have := h_w7.size
    refine Upd.step (S := []) (b := w7) ?_ h8 (by simp; omega)
    (repeat (first | with_reducible exact Upd.refl _ _ | with_reducible assumption | with_reducible refine Upd.alloc ?_ _ | with_reducible refine Upd.drew ?_ | with_reducible refine Upd.drewN ?_ _ | ((with_reducible refine Upd.setCell ?_ _ _ ?_); rotate_left; focus (first | (left; simp; done) | (right; simp; done) | (right; simp; omega) | (right; omega))) | ((with_reducible apply Upd.new); rotate_left; focus (with_reducible assumption))))
  have b8 := b7.kept h8 (by simp; omega)
  have s8' : Src w8 q 2 (some (2, 0, 0)) := s8
  have e9 : sendOf 2 (some (2, 0, 0)) 1 9 0 = 46 := by decide
  have e10 : sendOf 2 (some (2, 0, 0)) 2 0 1 = 10 := by decide
  go_wp2_with fail
  refine (send_any _ _ _ _ _ _ _ s8').mono ?_
  rintro e w9 ⟨rfl, h9⟩
  have s9 := s8'.kept h9 (by simp)
  have b9 := b8.kept h9 (by simp)
  go_wp2_with fail
  refine (send_any _ _ _ _ _ _ _ s9).mono ?_
  rintro e w10 ⟨rfl, h10⟩
  have s10 := s9.kept h10 (by simp)
  have b10 := b9.kept h10 (by simp)
  go_wp2_with fail
  refine (epoch_at _ _ _ _ _ _ s10).mono ?_
  rintro e w11 ⟨rfl, h11⟩
  have b11 := b10.kept h11 (by simp)
  obtain ⟨c0, c1, c2, f0, f1, f2⟩ := b11.three
  go_wp2
  go_ret
  refine ⟨rfl, ?_⟩
  have hz : w.heap.size ≤ w3.heap.size := by have := h1.size; have := h2.size; have := h3.size; omega
  (repeat (first | with_reducible exact Upd.refl _ _ | with_reducible assumption | with_reducible refine Upd.alloc ?_ _ | with_reducible refine Upd.drew ?_ | with_reducible refine Upd.drewN ?_ _ | ((with_reducible refine Upd.setCell ?_ _ _ ?_); rotate_left; focus (first | (left; simp; done) | (right; simp; done) | (right; simp; omega) | (right; omega))) | ((with_reducible apply Upd.new); rotate_left; focus (with_reducible assumption))))
end Go.Proofs.Ytjjaidhmpddkpaa
