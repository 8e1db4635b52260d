/- The walk of SourceOn. -/
import Derived.Test.YtjjaidhmpddkpaaRows
import Derived.Test.YtjjaidhmpddkpaaMem
import Derived.Test.YtjjaidhmpddkpaaStamp
import Derived.Test.YtjjaidhmpddkpaaSource
import Derived.Test.YtjjaidhmpddkpaaTaken23
import Derived.WalkKit
import Derived.WalkSpells
import Derived.WalkLawsBesides
import Derived.BigQuiet
import Derived.Deep.QuietTactic
import Derived.StillTailTactics
import Derived.Lib.Hide
namespace Go.Proofs.Ytjjaidhmpddkpaa
open Go.RowKit

theorem fits3 (b c : Int) : fitsN b c 3 = 0 := by unfold fitsN; rw [if_neg (by omega)]

theorem send_ok {a b c x y z : Int} (h1 : a ≤ x) (h2 : b ≤ y) (h3 : c ≤ z) : sendOf 3 (some (a, b, c)) x y z = 0 := by
  simp [sendOf, fits3, mayN, aheadB, h1, h2, h3]
theorem send_no {a b c x y z : Int} (h : ¬ (a ≤ x ∧ b ≤ y ∧ c ≤ z)) : sendOf 3 (some (a, b, c)) x y z = 46 := by
  simp [sendOf, fits3, mayN, aheadB]
  omega

theorem close_open (p : Nat) (n a b c : Int) (w : World) (hs : Src w p n (some (a, b, c))) :
    Calls Try.prog 14 #[.pointer (some ⟨p, 0, none⟩)] w fun e w' => e = .returned (.int .i64 0) ∧ Upd [p] w w' ∧ Src w' p n none := close_any p n _ w hs
theorem close_shut (p : Nat) (n : Int) (w : World) (hs : Src w p n none) :
    Calls Try.prog 14 #[.pointer (some ⟨p, 0, none⟩)] w fun e w' => e = .returned (.int .i64 45) ∧ Upd [p] w w' ∧ Src w' p n none := close_any p n _ w hs
theorem send_shut_eq (x y z : Int) : sendOf 3 none x y z = 45 := by simp [sendOf, fits3]
theorem send_shut (p : Nat) (x y z : Int) (w : World) (hs : Src w p 3 none) :
    Calls Try.prog 12 #[.pointer (some ⟨p, 0, none⟩), .agg #[.int .u64 x, .int .u64 y, .int .u64 z]] w fun e w' => e = .returned (.int .i64 45) ∧ New w w' := by
  have := send_any p 3 none x y z w hs
  rwa [send_shut_eq] at this
theorem advance_shut (p : Nat) (x y z : Int) (w : World) (hs : Src w p 3 none) :
    Calls Try.prog 13 #[.pointer (some ⟨p, 0, none⟩), .agg #[.int .u64 x, .int .u64 y, .int .u64 z]] w fun e w' => e = .returned (.int .i64 45) ∧ Upd [p] w w' ∧ Src w' p 3 none := by
  have := advance_any p 3 none x y z w hs
  unfold advOf at this
  rwa [send_shut_eq, if_neg (by omega)] at this

set_option maxRecDepth 100000 in
set_option maxHeartbeats 8000000 in
theorem on_any (b off len cap : Nat) (X Y Z : Nat → Int) (w : World) (hb : b < w.heap.size) (hl : len ≤ maxLen)
    (hX : ∀ k, k < len → w.cell? ⟨b, off + k * 3, none⟩ = some (.int .u64 (X k)))
    (hY : ∀ k, k < len → w.cell? ⟨b, off + k * 3 + 1, none⟩ = some (.int .u64 (Y k)))
    (hZ : ∀ k, k < len → w.cell? ⟨b, off + k * 3 + 2, none⟩ = some (.int .u64 (Z k))) :
    Calls Try.prog 4 #[.slice (some ⟨b, off, none⟩) len cap] w fun e w' => e = .returned (.bool true) ∧ New w w' := by
  unfold maxLen at hl
  have HX := Lib.hid hX
  have HY := Lib.hid hY
  have HZ := Lib.hid hZ
  clear hX hY hZ
  go_enter Try.func4, Try.ntmps4
  go_wp2_with fail
  refine (new_any 3 (by decide) _).mono ?_
  rintro e w1 ⟨q, hq, rfl, h1, s1⟩
  go_wp2_with fail
  refine (taken_any _).mono ?_
  rintro e w2 ⟨rfl, h2⟩
  have s2 := s1.kept h2 (by simp)
  go_wp2_with fail
  refine (epoch_at _ _ _ _ _ _ s2).mono ?_
  rintro e w3 ⟨rfl, h3⟩
  have s3 := s2.kept h3 (by simp)
  go_wp2_with fail
  have hq3 := s3.lt
  have hw3 : w.heap.size ≤ w3.heap.size := by have := h1.size; have := h2.size; have := h3.size; omega
  have hn3 : New w w3 := by (repeat (first | with_reducible exact Upd.refl _ _ | with_reducible assumption | with_reducible refine Upd.alloc ?_ _ | with_reducible refine Upd.drew ?_ | with_reducible refine Upd.drewN ?_ _ | ((with_reducible refine Upd.setCell ?_ _ _ ?_); rotate_left; focus (first | (left; simp; done) | (right; simp; done) | (right; simp; omega) | (right; omega))) | ((with_reducible apply Upd.new); rotate_left; focus (with_reducible assumption))))
  have S3 := Lib.hid s3
  clear s3 s2 s1 h1 h2 h3
  go_loopw [7] (fun i wr => ∃ (k : Nat) (a c d : Int), k ≤ len ∧ i = .int .i64 k ∧ New w wr ∧ w3.heap.size < wr.heap.size ∧ Src wr q 3 (some (a, c, d)) ∧ Blk wr w3.heap.size [.int .u64 a, .int .u64 c, .int .u64 d] 36) (fun i _ => len - (intOf i).toNat)
  case atStart => exact ⟨0, 0, 0, 0, Nat.zero_le _, rfl, by (repeat (first | with_reducible exact Upd.refl _ _ | with_reducible assumption | with_reducible refine Upd.alloc ?_ _ | with_reducible refine Upd.drew ?_ | with_reducible refine Upd.drewN ?_ _ | ((with_reducible refine Upd.setCell ?_ _ _ ?_); rotate_left; focus (first | (left; simp; done) | (right; simp; done) | (right; simp; omega) | (right; omega))) | ((with_reducible apply Upd.new); rotate_left; focus (with_reducible assumption)))), by simp, Blk.alloc S3.out _, Blk.new _ _ _⟩
  case round =>
    obtain ⟨k, a, c, d, hk, rfl, hn, hz, hs, hblk⟩ := hrel
    obtain ⟨b0, b1, b2, f0, f1, f2⟩ := hblk.three
    by_cases hlt : k < len
    · have hx : wr.cell? ⟨b, off + k * 3, none⟩ = some (.int .u64 (X k)) := (hn.facts.1 b _ hb).trans (HX.out k hlt)
      have hy : wr.cell? ⟨b, off + k * 3 + 1, none⟩ = some (.int .u64 (Y k)) := (hn.facts.1 b _ hb).trans (HY.out k hlt)
      have hzz : wr.cell? ⟨b, off + k * 3 + 2, none⟩ = some (.int .u64 (Z k)) := (hn.facts.1 b _ hb).trans (HZ.out k hlt)
      by_cases hA : a ≤ X k
      · by_cases hB : c ≤ Y k
        · by_cases hC : d ≤ Z k
          · have E := send_ok hA hB hC
            go_wp2
            go_quiet (fail)
            go_wp2_with fail
            refine (send_any _ _ _ _ _ _ _ (hs.drewN _)).mono ?_
            rintro e w4 ⟨rfl, h4'⟩
            have h4 := h4'.ofDrewN
            have s4 := hs.kept h4 (by simp)
            have k4 := hblk.kept h4 (by simp)
            have x4 : w4.cell? ⟨b, off + k * 3, none⟩ = some (.int .u64 (X k)) := (h4.facts.1 b _ (Nat.lt_of_lt_of_le hb hn.size)).trans hx
            have y4 : w4.cell? ⟨b, off + k * 3 + 1, none⟩ = some (.int .u64 (Y k)) := (h4.facts.1 b _ (Nat.lt_of_lt_of_le hb hn.size)).trans hy
            have z4 : w4.cell? ⟨b, off + k * 3 + 2, none⟩ = some (.int .u64 (Z k)) := (h4.facts.1 b _ (Nat.lt_of_lt_of_le hb hn.size)).trans hzz
            go_wp2_with fail
            refine (send_any _ _ _ _ _ _ _ s4).mono ?_
            rintro e w5 ⟨rfl, h5⟩
            have s5 := s4.kept h5 (by simp)
            have k5 := k4.kept h5 (by simp)
            have hb4 : b < w4.heap.size := by have := hn.size; have := h4.size; omega
            have x5 : w5.cell? ⟨b, off + k * 3, none⟩ = some (.int .u64 (X k)) := (h5.facts.1 b _ hb4).trans x4
            have y5 : w5.cell? ⟨b, off + k * 3 + 1, none⟩ = some (.int .u64 (Y k)) := (h5.facts.1 b _ hb4).trans y4
            have z5 : w5.cell? ⟨b, off + k * 3 + 2, none⟩ = some (.int .u64 (Z k)) := (h5.facts.1 b _ hb4).trans z4
            go_wp2_with fail
            refine (advance_any _ _ _ _ _ _ _ s5).mono ?_
            rintro e w6 ⟨rfl, h6, s6⟩
            have hbb : b < w5.heap.size := Nat.lt_of_lt_of_le hb4 h5.size
            have hqb : b ≠ q := by omega
            have x6 : w6.cell? ⟨b, off + k * 3, none⟩ = some (.int .u64 (X k)) := (World.cell?_of_block (w := w5) (h6.block b hbb (by simpa using hqb))).trans x5
            have y6 : w6.cell? ⟨b, off + k * 3 + 1, none⟩ = some (.int .u64 (Y k)) := (World.cell?_of_block (w := w5) (h6.block b hbb (by simpa using hqb))).trans y5
            have z6 : w6.cell? ⟨b, off + k * 3 + 2, none⟩ = some (.int .u64 (Z k)) := (World.cell?_of_block (w := w5) (h6.block b hbb (by simpa using hqb))).trans z5
            have hqw : q ≠ w3.heap.size := by omega
            have k6 := k5.kept h6 (by simpa using Ne.symm hqw)
            have n6 : New w w6 := Upd.step (S := []) (b := w5) ((hn.new h4).new h5) h6 (by simp; omega)
            have s6' : Src w6 q 3 (some (X k, Y k, Z k)) := by
              have : advOf 3 (some (a, c, d)) (X k) (Y k) (Z k) = some (X k, Y k, Z k) := by unfold advOf; rw [E]; rfl
              rw [← this]; exact s6
            go_wp2_with fail
            refine (epoch_at _ _ _ _ _ _ s6').mono ?_
            rintro e w7 ⟨rfl, h7⟩
            have s7 : Blk w7 q _ _ := s6'.kept h7 (by simp)
            have k7 := k6.kept h7 (by simp)
            have hb6 : b < w6.heap.size := Nat.lt_of_lt_of_le hbb h6.size
            have x7 : w7.cell? ⟨b, off + k * 3, none⟩ = some (.int .u64 (X k)) := (h7.facts.1 b _ hb6).trans x6
            have y7 : w7.cell? ⟨b, off + k * 3 + 1, none⟩ = some (.int .u64 (Y k)) := (h7.facts.1 b _ hb6).trans y6
            have z7 : w7.cell? ⟨b, off + k * 3 + 2, none⟩ = some (.int .u64 (Z k)) := (h7.facts.1 b _ hb6).trans z6
            have hb7 : b < w7.heap.size := Nat.lt_of_lt_of_le hb6 h7.size
            have hw37 : w3.heap.size < w7.heap.size := by have := h4.size; have := h5.size; have := h6.size; have := h7.size; omega
            have hww : w.heap.size ≤ w3.heap.size := hw3
            obtain ⟨b0', b1', b2', f0', f1', f2'⟩ := k7.three
            clear hx hy hzz x4 y4 z4 x5 y5 z5 x6 y6 z6 b0 b1 b2 f0 f1 f2
            go_wp2_with fail
            go_quiet (fail)
            go_wp2_with fail
            go_roundw
            case rel => exact ⟨k + 1, X k, Y k, Z k, by omega, by go_num, by (repeat (first | with_reducible exact Upd.refl _ _ | with_reducible assumption | with_reducible refine Upd.alloc ?_ _ | with_reducible refine Upd.drew ?_ | with_reducible refine Upd.drewN ?_ _ | ((with_reducible refine Upd.setCell ?_ _ _ ?_); rotate_left; focus (first | (left; simp; done) | (right; simp; done) | (right; simp; omega) | (right; omega))) | ((with_reducible apply Upd.new); rotate_left; focus (with_reducible assumption)))), by simp; omega, by (show Blk _ _ _ _); (repeat (first | with_reducible assumption | with_reducible refine Blk.alloc ?_ _ | with_reducible refine Blk.drew ?_ | with_reducible refine Blk.drewN ?_ _ | ((with_reducible refine Blk.set_other ?_ _ _ ?_); rotate_left; focus (first | omega | (simp; omega))))), ((((k7.alloc _).drewN _).set 0 _).set 1 _).set 2 _⟩
            case measure => simp [intOf]; omega
          · have E : sendOf 3 (some (a, c, d)) (X k) (Y k) (Z k) = 46 := send_no (by omega)
            have hC' : decide (d ≤ Z k) = false := by simpa using hC
            go_wp2
            go_quiet (fail)
            go_wp2_with fail
            refine (send_any _ _ _ _ _ _ _ (hs.drewN _)).mono ?_
            rintro e w4 ⟨rfl, h4'⟩
            have h4 := h4'.ofDrewN
            have s4 := hs.kept h4 (by simp)
            have k4 := hblk.kept h4 (by simp)
            have x4 : w4.cell? ⟨b, off + k * 3, none⟩ = some (.int .u64 (X k)) := (h4.facts.1 b _ (Nat.lt_of_lt_of_le hb hn.size)).trans hx
            have y4 : w4.cell? ⟨b, off + k * 3 + 1, none⟩ = some (.int .u64 (Y k)) := (h4.facts.1 b _ (Nat.lt_of_lt_of_le hb hn.size)).trans hy
            have z4 : w4.cell? ⟨b, off + k * 3 + 2, none⟩ = some (.int .u64 (Z k)) := (h4.facts.1 b _ (Nat.lt_of_lt_of_le hb hn.size)).trans hzz
            go_wp2_with fail
            refine (send_any _ _ _ _ _ _ _ s4).mono ?_
            rintro e w5 ⟨rfl, h5⟩
            have s5 := s4.kept h5 (by simp)
            have k5 := k4.kept h5 (by simp)
            have hb4 : b < w4.heap.size := by have := hn.size; have := h4.size; omega
            have x5 : w5.cell? ⟨b, off + k * 3, none⟩ = some (.int .u64 (X k)) := (h5.facts.1 b _ hb4).trans x4
            have y5 : w5.cell? ⟨b, off + k * 3 + 1, none⟩ = some (.int .u64 (Y k)) := (h5.facts.1 b _ hb4).trans y4
            have z5 : w5.cell? ⟨b, off + k * 3 + 2, none⟩ = some (.int .u64 (Z k)) := (h5.facts.1 b _ hb4).trans z4
            go_wp2_with fail
            refine (advance_any _ _ _ _ _ _ _ s5).mono ?_
            rintro e w6 ⟨rfl, h6, s6⟩
            have hbb : b < w5.heap.size := Nat.lt_of_lt_of_le hb4 h5.size
            have hqb : b ≠ q := by omega
            have x6 : w6.cell? ⟨b, off + k * 3, none⟩ = some (.int .u64 (X k)) := (World.cell?_of_block (w := w5) (h6.block b hbb (by simpa using hqb))).trans x5
            have y6 : w6.cell? ⟨b, off + k * 3 + 1, none⟩ = some (.int .u64 (Y k)) := (World.cell?_of_block (w := w5) (h6.block b hbb (by simpa using hqb))).trans y5
            have z6 : w6.cell? ⟨b, off + k * 3 + 2, none⟩ = some (.int .u64 (Z k)) := (World.cell?_of_block (w := w5) (h6.block b hbb (by simpa using hqb))).trans z5
            have hqw : q ≠ w3.heap.size := by omega
            have k6 := k5.kept h6 (by simpa using Ne.symm hqw)
            have n6 : New w w6 := Upd.step (S := []) (b := w5) ((hn.new h4).new h5) h6 (by simp; omega)
            have s6' : Src w6 q 3 (some (a, c, d)) := by
              have : advOf 3 (some (a, c, d)) (X k) (Y k) (Z k) = some (a, c, d) := by unfold advOf; rw [E]; rfl
              rw [← this]; exact s6
            go_wp2_with fail
            refine (epoch_at _ _ _ _ _ _ s6').mono ?_
            rintro e w7 ⟨rfl, h7⟩
            have s7 : Blk w7 q _ _ := s6'.kept h7 (by simp)
            have k7 := k6.kept h7 (by simp)
            have hb6 : b < w6.heap.size := Nat.lt_of_lt_of_le hbb h6.size
            have x7 : w7.cell? ⟨b, off + k * 3, none⟩ = some (.int .u64 (X k)) := (h7.facts.1 b _ hb6).trans x6
            have y7 : w7.cell? ⟨b, off + k * 3 + 1, none⟩ = some (.int .u64 (Y k)) := (h7.facts.1 b _ hb6).trans y6
            have z7 : w7.cell? ⟨b, off + k * 3 + 2, none⟩ = some (.int .u64 (Z k)) := (h7.facts.1 b _ hb6).trans z6
            have hb7 : b < w7.heap.size := Nat.lt_of_lt_of_le hb6 h7.size
            have hw37 : w3.heap.size < w7.heap.size := by have := h4.size; have := h5.size; have := h6.size; have := h7.size; omega
            have hww : w.heap.size ≤ w3.heap.size := hw3
            obtain ⟨b0', b1', b2', f0', f1', f2'⟩ := k7.three
            clear hx hy hzz x4 y4 z4 x5 y5 z5 x6 y6 z6 b0 b1 b2 f0 f1 f2
            go_wp2_with fail
            go_quiet (fail)
            go_wp2_with fail
            go_roundw
            case rel => exact ⟨k + 1, a, c, d, by omega, by go_num, by (repeat (first | with_reducible exact Upd.refl _ _ | with_reducible assumption | with_reducible refine Upd.alloc ?_ _ | with_reducible refine Upd.drew ?_ | with_reducible refine Upd.drewN ?_ _ | ((with_reducible refine Upd.setCell ?_ _ _ ?_); rotate_left; focus (first | (left; simp; done) | (right; simp; done) | (right; simp; omega) | (right; omega))) | ((with_reducible apply Upd.new); rotate_left; focus (with_reducible assumption)))), by simp; omega, by (show Blk _ _ _ _); (repeat (first | with_reducible assumption | with_reducible refine Blk.alloc ?_ _ | with_reducible refine Blk.drew ?_ | with_reducible refine Blk.drewN ?_ _ | ((with_reducible refine Blk.set_other ?_ _ _ ?_); rotate_left; focus (first | omega | (simp; omega))))), ((((k7.alloc _).drewN _).set 0 _).set 1 _).set 2 _⟩
            case measure => simp [intOf]; omega
        · have E : sendOf 3 (some (a, c, d)) (X k) (Y k) (Z k) = 46 := send_no (by omega)
          have hB' : decide (c ≤ Y k) = false := by simpa using hB
          go_wp2
          go_quiet (fail)
          go_wp2_with fail
          refine (send_any _ _ _ _ _ _ _ (hs.drewN _)).mono ?_
          rintro e w4 ⟨rfl, h4'⟩
          have h4 := h4'.ofDrewN
          have s4 := hs.kept h4 (by simp)
          have k4 := hblk.kept h4 (by simp)
          have x4 : w4.cell? ⟨b, off + k * 3, none⟩ = some (.int .u64 (X k)) := (h4.facts.1 b _ (Nat.lt_of_lt_of_le hb hn.size)).trans hx
          have y4 : w4.cell? ⟨b, off + k * 3 + 1, none⟩ = some (.int .u64 (Y k)) := (h4.facts.1 b _ (Nat.lt_of_lt_of_le hb hn.size)).trans hy
          have z4 : w4.cell? ⟨b, off + k * 3 + 2, none⟩ = some (.int .u64 (Z k)) := (h4.facts.1 b _ (Nat.lt_of_lt_of_le hb hn.size)).trans hzz
          go_wp2_with fail
          refine (send_any _ _ _ _ _ _ _ s4).mono ?_
          rintro e w5 ⟨rfl, h5⟩
          have s5 := s4.kept h5 (by simp)
          have k5 := k4.kept h5 (by simp)
          have hb4 : b < w4.heap.size := by have := hn.size; have := h4.size; omega
          have x5 : w5.cell? ⟨b, off + k * 3, none⟩ = some (.int .u64 (X k)) := (h5.facts.1 b _ hb4).trans x4
          have y5 : w5.cell? ⟨b, off + k * 3 + 1, none⟩ = some (.int .u64 (Y k)) := (h5.facts.1 b _ hb4).trans y4
          have z5 : w5.cell? ⟨b, off + k * 3 + 2, none⟩ = some (.int .u64 (Z k)) := (h5.facts.1 b _ hb4).trans z4
          go_wp2_with fail
          refine (advance_any _ _ _ _ _ _ _ s5).mono ?_
          rintro e w6 ⟨rfl, h6, s6⟩
          have hbb : b < w5.heap.size := Nat.lt_of_lt_of_le hb4 h5.size
          have hqb : b ≠ q := by omega
          have x6 : w6.cell? ⟨b, off + k * 3, none⟩ = some (.int .u64 (X k)) := (World.cell?_of_block (w := w5) (h6.block b hbb (by simpa using hqb))).trans x5
          have y6 : w6.cell? ⟨b, off + k * 3 + 1, none⟩ = some (.int .u64 (Y k)) := (World.cell?_of_block (w := w5) (h6.block b hbb (by simpa using hqb))).trans y5
          have z6 : w6.cell? ⟨b, off + k * 3 + 2, none⟩ = some (.int .u64 (Z k)) := (World.cell?_of_block (w := w5) (h6.block b hbb (by simpa using hqb))).trans z5
          have hqw : q ≠ w3.heap.size := by omega
          have k6 := k5.kept h6 (by simpa using Ne.symm hqw)
          have n6 : New w w6 := Upd.step (S := []) (b := w5) ((hn.new h4).new h5) h6 (by simp; omega)
          have s6' : Src w6 q 3 (some (a, c, d)) := by
            have : advOf 3 (some (a, c, d)) (X k) (Y k) (Z k) = some (a, c, d) := by unfold advOf; rw [E]; rfl
            rw [← this]; exact s6
          go_wp2_with fail
          refine (epoch_at _ _ _ _ _ _ s6').mono ?_
          rintro e w7 ⟨rfl, h7⟩
          have s7 : Blk w7 q _ _ := s6'.kept h7 (by simp)
          have k7 := k6.kept h7 (by simp)
          have hb6 : b < w6.heap.size := Nat.lt_of_lt_of_le hbb h6.size
          have x7 : w7.cell? ⟨b, off + k * 3, none⟩ = some (.int .u64 (X k)) := (h7.facts.1 b _ hb6).trans x6
          have y7 : w7.cell? ⟨b, off + k * 3 + 1, none⟩ = some (.int .u64 (Y k)) := (h7.facts.1 b _ hb6).trans y6
          have z7 : w7.cell? ⟨b, off + k * 3 + 2, none⟩ = some (.int .u64 (Z k)) := (h7.facts.1 b _ hb6).trans z6
          have hb7 : b < w7.heap.size := Nat.lt_of_lt_of_le hb6 h7.size
          have hw37 : w3.heap.size < w7.heap.size := by have := h4.size; have := h5.size; have := h6.size; have := h7.size; omega
          have hww : w.heap.size ≤ w3.heap.size := hw3
          obtain ⟨b0', b1', b2', f0', f1', f2'⟩ := k7.three
          clear hx hy hzz x4 y4 z4 x5 y5 z5 x6 y6 z6 b0 b1 b2 f0 f1 f2
          go_wp2_with fail
          go_quiet (fail)
          go_wp2_with fail
          go_roundw
          case rel => exact ⟨k + 1, a, c, d, by omega, by go_num, by (repeat (first | with_reducible exact Upd.refl _ _ | with_reducible assumption | with_reducible refine Upd.alloc ?_ _ | with_reducible refine Upd.drew ?_ | with_reducible refine Upd.drewN ?_ _ | ((with_reducible refine Upd.setCell ?_ _ _ ?_); rotate_left; focus (first | (left; simp; done) | (right; simp; done) | (right; simp; omega) | (right; omega))) | ((with_reducible apply Upd.new); rotate_left; focus (with_reducible assumption)))), by simp; omega, by (show Blk _ _ _ _); (repeat (first | with_reducible assumption | with_reducible refine Blk.alloc ?_ _ | with_reducible refine Blk.drew ?_ | with_reducible refine Blk.drewN ?_ _ | ((with_reducible refine Blk.set_other ?_ _ _ ?_); rotate_left; focus (first | omega | (simp; omega))))), ((((k7.alloc _).drewN _).set 0 _).set 1 _).set 2 _⟩
          case measure => simp [intOf]; omega
      · have E : sendOf 3 (some (a, c, d)) (X k) (Y k) (Z k) = 46 := send_no (by omega)
        have hA' : decide (a ≤ X k) = false := by simpa using hA
        go_wp2
        go_quiet (fail)
        go_wp2_with fail
        refine (send_any _ _ _ _ _ _ _ (hs.drewN _)).mono ?_
        rintro e w4 ⟨rfl, h4'⟩
        have h4 := h4'.ofDrewN
        have s4 := hs.kept h4 (by simp)
        have k4 := hblk.kept h4 (by simp)
        have x4 : w4.cell? ⟨b, off + k * 3, none⟩ = some (.int .u64 (X k)) := (h4.facts.1 b _ (Nat.lt_of_lt_of_le hb hn.size)).trans hx
        have y4 : w4.cell? ⟨b, off + k * 3 + 1, none⟩ = some (.int .u64 (Y k)) := (h4.facts.1 b _ (Nat.lt_of_lt_of_le hb hn.size)).trans hy
        have z4 : w4.cell? ⟨b, off + k * 3 + 2, none⟩ = some (.int .u64 (Z k)) := (h4.facts.1 b _ (Nat.lt_of_lt_of_le hb hn.size)).trans hzz
        go_wp2_with fail
        refine (send_any _ _ _ _ _ _ _ s4).mono ?_
        rintro e w5 ⟨rfl, h5⟩
        have s5 := s4.kept h5 (by simp)
        have k5 := k4.kept h5 (by simp)
        have hb4 : b < w4.heap.size := by have := hn.size; have := h4.size; omega
        have x5 : w5.cell? ⟨b, off + k * 3, none⟩ = some (.int .u64 (X k)) := (h5.facts.1 b _ hb4).trans x4
        have y5 : w5.cell? ⟨b, off + k * 3 + 1, none⟩ = some (.int .u64 (Y k)) := (h5.facts.1 b _ hb4).trans y4
        have z5 : w5.cell? ⟨b, off + k * 3 + 2, none⟩ = some (.int .u64 (Z k)) := (h5.facts.1 b _ hb4).trans z4
        go_wp2_with fail
        refine (advance_any _ _ _ _ _ _ _ s5).mono ?_
        rintro e w6 ⟨rfl, h6, s6⟩
        have hbb : b < w5.heap.size := Nat.lt_of_lt_of_le hb4 h5.size
        have hqb : b ≠ q := by omega
        have x6 : w6.cell? ⟨b, off + k * 3, none⟩ = some (.int .u64 (X k)) := (World.cell?_of_block (w := w5) (h6.block b hbb (by simpa using hqb))).trans x5
        have y6 : w6.cell? ⟨b, off + k * 3 + 1, none⟩ = some (.int .u64 (Y k)) := (World.cell?_of_block (w := w5) (h6.block b hbb (by simpa using hqb))).trans y5
        have z6 : w6.cell? ⟨b, off + k * 3 + 2, none⟩ = some (.int .u64 (Z k)) := (World.cell?_of_block (w := w5) (h6.block b hbb (by simpa using hqb))).trans z5
        have hqw : q ≠ w3.heap.size := by omega
        have k6 := k5.kept h6 (by simpa using Ne.symm hqw)
        have n6 : New w w6 := Upd.step (S := []) (b := w5) ((hn.new h4).new h5) h6 (by simp; omega)
        have s6' : Src w6 q 3 (some (a, c, d)) := by
          have : advOf 3 (some (a, c, d)) (X k) (Y k) (Z k) = some (a, c, d) := by unfold advOf; rw [E]; rfl
          rw [← this]; exact s6
        go_wp2_with fail
        refine (epoch_at _ _ _ _ _ _ s6').mono ?_
        rintro e w7 ⟨rfl, h7⟩
        have s7 : Blk w7 q _ _ := s6'.kept h7 (by simp)
        have k7 := k6.kept h7 (by simp)
        have hb6 : b < w6.heap.size := Nat.lt_of_lt_of_le hbb h6.size
        have x7 : w7.cell? ⟨b, off + k * 3, none⟩ = some (.int .u64 (X k)) := (h7.facts.1 b _ hb6).trans x6
        have y7 : w7.cell? ⟨b, off + k * 3 + 1, none⟩ = some (.int .u64 (Y k)) := (h7.facts.1 b _ hb6).trans y6
        have z7 : w7.cell? ⟨b, off + k * 3 + 2, none⟩ = some (.int .u64 (Z k)) := (h7.facts.1 b _ hb6).trans z6
        have hb7 : b < w7.heap.size := Nat.lt_of_lt_of_le hb6 h7.size
        have hw37 : w3.heap.size < w7.heap.size := by have := h4.size; have := h5.size; have := h6.size; have := h7.size; omega
        have hww : w.heap.size ≤ w3.heap.size := hw3
        obtain ⟨b0', b1', b2', f0', f1', f2'⟩ := k7.three
        clear hx hy hzz x4 y4 z4 x5 y5 z5 x6 y6 z6 b0 b1 b2 f0 f1 f2
        go_wp2_with fail
        go_quiet (fail)
        go_wp2_with fail
        go_roundw
        case rel => exact ⟨k + 1, a, c, d, by omega, by go_num, by (repeat (first | with_reducible exact Upd.refl _ _ | with_reducible assumption | with_reducible refine Upd.alloc ?_ _ | with_reducible refine Upd.drew ?_ | with_reducible refine Upd.drewN ?_ _ | ((with_reducible refine Upd.setCell ?_ _ _ ?_); rotate_left; focus (first | (left; simp; done) | (right; simp; done) | (right; simp; omega) | (right; omega))) | ((with_reducible apply Upd.new); rotate_left; focus (with_reducible assumption)))), by simp; omega, by (show Blk _ _ _ _); (repeat (first | with_reducible assumption | with_reducible refine Blk.alloc ?_ _ | with_reducible refine Blk.drew ?_ | with_reducible refine Blk.drewN ?_ _ | ((with_reducible refine Blk.set_other ?_ _ _ ?_); rotate_left; focus (first | omega | (simp; omega))))), ((((k7.alloc _).drewN _).set 0 _).set 1 _).set 2 _⟩
        case measure => simp [intOf]; omega
    · clear HX HY HZ
      have hqz : q < wr.heap.size := by omega
      go_wp2_with fail
      refine (close_open _ _ _ _ _ _ hs).mono ?_
      rintro e w4 ⟨rfl, h4, s4⟩
      have k4 := hblk.kept h4 (by simp; omega)
      have n4 : New w w4 := hn.step h4 (by simp; omega)
      go_wp2_with fail
      refine (close_shut _ _ _ s4).mono ?_
      rintro e w5 ⟨rfl, h5, s5⟩
      have k5 := k4.kept h5 (by simp; omega)
      have n5 : New w w5 := n4.step h5 (by simp; omega)
      obtain ⟨c0, c1, c2, g0, g1, g2⟩ := k5.three
      clear b0 b1 b2 f0 f1 f2
      go_wp2_with fail
      refine (advance_shut _ _ _ _ _ s5).mono ?_
      rintro e w6 ⟨rfl, h6, s6⟩
      have k6 := k5.kept h6 (by simp; omega)
      have n6 : New w w6 := n5.step h6 (by simp; omega)
      obtain ⟨c0, c1, c2, g0, g1, g2⟩ := k6.three
      go_wp2_with fail
      refine (send_shut _ _ _ _ _ s6).mono ?_
      rintro e w7 ⟨rfl, h7⟩
      have s7 := s6.kept h7 (by simp)
      have k7 := k6.kept h7 (by simp)
      go_wp2_with fail
      refine (epoch_shut _ _ _ s7).mono ?_
      rintro e w8 ⟨rfl, h8⟩
      have k8 := k7.kept h8 (by simp)
      obtain ⟨d0, d1, d2, g0, g1, g2⟩ := k8.three
      go_wp2
      go_ret
      exact ⟨rfl, by (repeat (first | with_reducible exact Upd.refl _ _ | with_reducible assumption | with_reducible refine Upd.alloc ?_ _ | with_reducible refine Upd.drew ?_ | with_reducible refine Upd.drewN ?_ _ | ((with_reducible refine Upd.setCell ?_ _ _ ?_); rotate_left; focus (first | (left; simp; done) | (right; simp; done) | (right; simp; omega) | (right; omega))) | ((with_reducible apply Upd.new); rotate_left; focus (with_reducible assumption))))⟩

set_option maxRecDepth 100000 in
set_option maxHeartbeats 8000000 in
theorem on_nil (a0 : Option Addr) (cap : Nat) (w : World) :
    Calls Try.prog 4 #[.slice a0 0 cap] w fun e w' => e = .returned (.bool true) ∧ New w w' := by
  go_enter Try.func4, Try.ntmps4
  go_wp2_with fail
  refine (new_any 3 (by decide) _).mono ?_
  rintro e w1 ⟨q, hq, rfl, h1, s1⟩
  go_wp2_with fail
  refine (taken_any _).mono ?_
  rintro e w2 ⟨rfl, h2⟩
  have s2 := s1.kept h2 (by simp)
  go_wp2_with fail
  refine (epoch_at _ _ _ _ _ _ s2).mono ?_
  rintro e w3 ⟨rfl, h3⟩
  have s3 := s2.kept h3 (by simp)
  go_wp2_with fail
  have hq3 := s3.lt
  have hw3 : w.heap.size ≤ w3.heap.size := by have := h1.size; have := h2.size; have := h3.size; omega
  have hn3 : New w w3 := by (repeat (first | with_reducible exact Upd.refl _ _ | with_reducible assumption | with_reducible refine Upd.alloc ?_ _ | with_reducible refine Upd.drew ?_ | with_reducible refine Upd.drewN ?_ _ | ((with_reducible refine Upd.setCell ?_ _ _ ?_); rotate_left; focus (first | (left; simp; done) | (right; simp; done) | (right; simp; omega) | (right; omega))) | ((with_reducible apply Upd.new); rotate_left; focus (with_reducible assumption))))
  have S3 := Lib.hid s3
  clear s3 s2 s1 h1 h2 h3
  refine wp_loop_rounds 1 ?_; rw [rounds_succ]
  go_wp2_with fail
  have hs : Src (w3.alloc (.cells #[.int .u64 0, .int .u64 0, .int .u64 0] 36)) q 3 (some (0, 0, 0)) := Blk.alloc S3.out _
  have hblk : Blk (w3.alloc (.cells #[.int .u64 0, .int .u64 0, .int .u64 0] 36)) w3.heap.size [.int .u64 0, .int .u64 0, .int .u64 0] 36 := Blk.new _ _ _
  have hn : New w (w3.alloc (.cells #[.int .u64 0, .int .u64 0, .int .u64 0] 36)) := hn3.alloc _
  have hz : w3.heap.size < (w3.alloc (.cells #[.int .u64 0, .int .u64 0, .int .u64 0] 36)).heap.size := by simp
  refine (close_open _ _ _ _ _ _ hs).mono ?_
  rintro e w4 ⟨rfl, h4, s4⟩
  have k4 := hblk.kept h4 (by simp; omega)
  have n4 : New w w4 := hn.step h4 (by simp; omega)
  go_wp2_with fail
  refine (close_shut _ _ _ s4).mono ?_
  rintro e w5 ⟨rfl, h5, s5⟩
  have k5 := k4.kept h5 (by simp; omega)
  have n5 : New w w5 := n4.step h5 (by simp; omega)
  obtain ⟨c0, c1, c2, g0, g1, g2⟩ := k5.three
  go_wp2_with fail
  refine (advance_shut _ _ _ _ _ s5).mono ?_
  rintro e w6 ⟨rfl, h6, s6⟩
  have k6 := k5.kept h6 (by simp; omega)
  have n6 : New w w6 := n5.step h6 (by simp; omega)
  obtain ⟨c0, c1, c2, g0, g1, g2⟩ := k6.three
  go_wp2_with fail
  refine (send_shut _ _ _ _ _ s6).mono ?_
  rintro e w7 ⟨rfl, h7⟩
  have s7 := s6.kept h7 (by simp)
  have k7 := k6.kept h7 (by simp)
  go_wp2_with fail
  refine (epoch_shut _ _ _ s7).mono ?_
  rintro e w8 ⟨rfl, h8⟩
  have k8 := k7.kept h8 (by simp)
  obtain ⟨d0, d1, d2, g0, g1, g2⟩ := k8.three
  go_wp2
  go_ret
  exact ⟨rfl, by (repeat (first | with_reducible exact Upd.refl _ _ | with_reducible assumption | with_reducible refine Upd.alloc ?_ _ | with_reducible refine Upd.drew ?_ | with_reducible refine Upd.drewN ?_ _ | ((with_reducible refine Upd.setCell ?_ _ _ ?_); rotate_left; focus (first | (left; simp; done) | (right; simp; done) | (right; simp; omega) | (right; omega))) | ((with_reducible apply Upd.new); rotate_left; focus (with_reducible assumption))))⟩
end Go.Proofs.Ytjjaidhmpddkpaa
