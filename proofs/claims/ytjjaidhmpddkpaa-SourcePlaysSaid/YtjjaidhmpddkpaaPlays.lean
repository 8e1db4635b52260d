/- The walk of SourcePlays. -/
import Derived.Test.YtjjaidhmpddkpaaRows
import Derived.Test.YtjjaidhmpddkpaaPairs
import Derived.Test.YtjjaidhmpddkpaaTaken23
import Derived.WalkKit
import Derived.WalkSpells
import Derived.WalkLawsBesides
import Derived.BigQuiet
import Derived.Deep.QuietTactic
import Derived.StillTailTactics
import Derived.Lib.Hide
import Derived.Deep.RegionHeld3
namespace Go.Proofs.Ytjjaidhmpddkpaa
open Go.RowKit

set_option maxRecDepth 100000 in
set_option maxHeartbeats 2000000 in
theorem plays_bad (n : Int) (v : Value) (hF : fitsN 0 0 n = 10) (hn : n < 1 ∨ 3 < n) (w : World) :
    Calls Try.prog 3 #[.int .i64 n, v] w fun e w' => e = .returned (.bool true) ∧ New w w' := by
  go_enter Try.func3, Try.ntmps3
  (go_wp2_with fail; refine (taken_any _).mono ?_; rintro e w1 ⟨rfl, h_w1⟩; obtain ⟨hc_w1, hf_w1⟩ := h_w1.facts)
  (go_wp2_with fail; refine (new_bad _ hF _).mono ?_; rintro e w2 ⟨rfl, h_w2⟩; obtain ⟨hc_w2, hf_w2⟩ := h_w2.facts)
  (go_wp2_with fail; refine (rnew_bad _ hn _).mono ?_; rintro e w3 ⟨rfl, h_w3⟩; obtain ⟨hc_w3, hf_w3⟩ := h_w3.facts)
  go_wp2
  go_ret
  exact ⟨rfl, by (repeat (first | with_reducible exact Upd.refl _ _ | with_reducible assumption | with_reducible refine Upd.alloc ?_ _ | with_reducible refine Upd.drew ?_ | with_reducible refine Upd.drewN ?_ _ | ((with_reducible refine Upd.setCell ?_ _ _ ?_); rotate_left; focus (first | (left; simp; done) | (right; simp; done) | (right; simp; omega) | (right; omega))) | ((with_reducible apply Upd.new); rotate_left; focus (with_reducible assumption))))⟩

set_option maxRecDepth 100000 in
set_option maxHeartbeats 8000000 in
theorem plays_any (a0 : Option Addr) (b off len cap : Nat) (n : Int) (hF : fitsN 0 0 n = 0) (hn1 : 1 ≤ n) (hn3 : n ≤ 3) (K O X Y Z : Nat → Int) (w : World) (ha : 0 < len → a0 = some ⟨b, off, none⟩) (hl : len ≤ maxLen)
    (hK : ∀ k, k < len → w.cell? ⟨b, off + k * 5, none⟩ = some (.int .i64 (K k)))
    (hO : ∀ k, k < len → w.cell? ⟨b, off + k * 5 + 1, none⟩ = some (.int .i64 (O k)))
    (hX : ∀ k, k < len → w.cell? ⟨b, off + k * 5 + 2, none⟩ = some (.int .u64 (X k)))
    (hY : ∀ k, k < len → w.cell? ⟨b, off + k * 5 + 3, none⟩ = some (.int .u64 (Y k)))
    (hZ : ∀ k, k < len → w.cell? ⟨b, off + k * 5 + 4, none⟩ = some (.int .u64 (Z k))) :
    Calls Try.prog 3 #[.int .i64 n, .slice a0 len cap] w fun e w' => e = .returned (.bool true) ∧ New w w' := by
  unfold maxLen at hl
  have HA := Lib.hid ha
  clear ha
  have HK := Lib.hid hK
  have HO := Lib.hid hO
  have HX := Lib.hid hX
  have HY := Lib.hid hY
  have HZ := Lib.hid hZ
  clear hK hO hX hY hZ
  go_enter Try.func3, Try.ntmps3
  (go_wp2_with fail; refine (taken_any _).mono ?_; rintro e w1 ⟨rfl, h_w1⟩; obtain ⟨hc_w1, hf_w1⟩ := h_w1.facts)
  go_wp2_with fail
  refine (new_any n hF _).mono ?_
  rintro e w2 ⟨p0, hp0, rfl, h2, s2⟩
  go_wp2_with fail
  refine (rnew_any n hn1 hn3 _).mono ?_
  rintro e w3 ⟨r0, hr0, rfl, h3, s3⟩
  have s2' := s2.kept h3 (by simp)
  have hn : New w w3 := by (repeat (first | with_reducible exact Upd.refl _ _ | with_reducible assumption | with_reducible refine Upd.alloc ?_ _ | with_reducible refine Upd.drew ?_ | with_reducible refine Upd.drewN ?_ _ | ((with_reducible refine Upd.setCell ?_ _ _ ?_); rotate_left; focus (first | (left; simp; done) | (right; simp; done) | (right; simp; omega) | (right; omega))) | ((with_reducible apply Upd.new); rotate_left; focus (with_reducible assumption))))
  have z1 := h_w1.size
  have z2 := h2.size
  have lp := s2.lt
  have hP : Pairs w.heap.size n (.slice (some ⟨w3.heap.size, 0, none⟩) 1 1) [(p0, r0)] (w3.alloc (.cells #[.pointer (some ⟨p0, 0, none⟩), .pointer (some ⟨r0, 0, none⟩)] 32)) := by
    refine ⟨owns_new (by rfl) hn.size (by unfold maxLen; omega) rfl, by simp, by simp, fun e he => ?_, fun e he f hf => ?_⟩
    · simp at he; subst he
      exact ⟨by show _ ≤ p0; omega, by show _ ≤ r0; omega, by show p0 ≠ r0; omega, _, s2'.kept (S := []) ((Upd.refl _ _).alloc _) (by simp), s3.alloc _⟩
    · simp at he hf; subst he; subst hf; exact Or.inl rfl
  have HP := Lib.hid hP
  clear hP s2 s3 s2' h2 h3 hc_w1 hf_w1 h_w1
  go_wp2_with fail
  go_loopw [9, 10] (fun v i wr => ∃ (k : Nat) (P : List (Nat × Nat)), k ≤ len ∧ i = .int .i64 k ∧ New w wr ∧ Pairs w.heap.size n v P wr) (fun _ i _ => len - (intOf i).toNat)
  case atStart => exact ⟨0, [(p0, r0)], Nat.zero_le _, rfl, by (repeat (first | with_reducible exact Upd.refl _ _ | with_reducible assumption | with_reducible refine Upd.alloc ?_ _ | with_reducible refine Upd.drew ?_ | with_reducible refine Upd.drewN ?_ _ | ((with_reducible refine Upd.setCell ?_ _ _ ?_); rotate_left; focus (first | (left; simp; done) | (right; simp; done) | (right; simp; omega) | (right; omega))) | ((with_reducible apply Upd.new); rotate_left; focus (with_reducible assumption)))), HP.out⟩
  case round =>
    obtain ⟨k, P, hk, rfl, hnw, hPr⟩ := hrel
    clear HP hn
    obtain ⟨g, gcap, rfl, hg, hcap, hPc, hat⟩ := hPr.at
    obtain ⟨p, r, hm0, hBp, hBr, hpr, c0, c1, st, sp, sr⟩ := hat 0 hPr.2.1
    have hPl := hPr.2.2.1
    have hP0 := hPr.2.1
    by_cases hlt : k < len
    · obtain rfl := HA.out (by omega)
      have q0 := cell_kept hnw (HK.out k hlt)
      have q1 := cell_kept hnw (HO.out k hlt)
      have q2 := cell_kept hnw (HX.out k hlt)
      have q3 := cell_kept hnw (HY.out k hlt)
      have q4 := cell_kept hnw (HZ.out k hlt)
      have HAT := Lib.hid hat
      have hgl := lt_of_cell c0
      have hbl := lt_of_cell q0
      clear hat
      by_cases hon : 0 < O k ∧ O k < P.length
      · obtain ⟨hon0, hon1⟩ := hon
        obtain ⟨j, hj⟩ : ∃ j : Nat, O k = j := ⟨(O k).toNat, by omega⟩
        rw [hj] at q1 hon0 hon1
        obtain ⟨p', r', hm', hBp', hBr', hpr', d0, d1, st', sp', sr'⟩ := HAT.out j (by omega)
        by_cases h5 : K k = 5
        · rw [h5] at q0
          by_cases hp4 : P.length < 4
          · go_wp2_with fail
            go_region_held3 (fun w' => w'.cell? ⟨wr.heap.size + 1, 0, none⟩ = some (.pointer (some ⟨p', 0, none⟩)) ∧ w'.cell? ⟨wr.heap.size + 1, 1, none⟩ = some (.pointer (some ⟨r', 0, none⟩)))
              (first
                | (go_split_ands
                   refine ⟨?_, ?_⟩ <;> first | exact cell_kept (by assumption) (by assumption) | exact cell_kept ((Upd.refl _ _).alloc _) (by assumption) | exact cell_kept ((Upd.refl _ _).alloc _) (cell_unalloc (by assumption) z5) | (refine cell_kept_set2 ?_ ?_; (focus omega); assumption))
                | go_keep)
              (first
                | (go_at_call 8; refine (copy_any p' n st' _ ?_).mono ?_; (exact sp'.kept (S := []) (by (repeat (first | with_reducible exact Upd.refl _ _ | with_reducible assumption | with_reducible refine Upd.alloc ?_ _ | with_reducible refine Upd.drew ?_ | with_reducible refine Upd.drewN ?_ _ | ((with_reducible refine Upd.setCell ?_ _ _ ?_); rotate_left; focus (first | (left; simp; done) | (right; simp; done) | (right; simp; omega) | (right; omega))) | ((with_reducible apply Upd.new); rotate_left; focus (with_reducible assumption))))) (by simp)); rintro e w4 ⟨q, hq, rfl, h4, s4⟩; obtain ⟨hc4, hf4⟩ := h4.facts; (have z4 : wr.heap.size + 1 < w4.heap.size := by have := h4.size; (try simp at *); omega); (try (have z4q : wr.heap.size + 2 < w4.heap.size := by have := h4.size; (try simp at *); omega)); (try (have z4s : wr.heap.size + 2 < q := by (try simp at hq); omega)); (have z4' : wr.heap.size + 1 < q := by (try simp at hq); omega))
                | (go_at_call 9; refine (rcopy_any r' n st' _ ?_).mono ?_; (exact sr'.kept (S := []) (by (repeat (first | with_reducible exact Upd.refl _ _ | with_reducible assumption | with_reducible refine Upd.alloc ?_ _ | with_reducible refine Upd.drew ?_ | with_reducible refine Upd.drewN ?_ _ | ((with_reducible refine Upd.setCell ?_ _ _ ?_); rotate_left; focus (first | (left; simp; done) | (right; simp; done) | (right; simp; omega) | (right; omega))) | ((with_reducible apply Upd.new); rotate_left; focus (with_reducible assumption))))) (by simp)); rintro e w5 ⟨q', hq', rfl, h5, s5⟩; obtain ⟨hc5, hf5⟩ := h5.facts; (have z5 : wr.heap.size + 1 < w5.heap.size := by have := h4.size; have := h5.size; (try simp at *); omega); (try (have z5q : wr.heap.size + 2 < w5.heap.size := by have := h5.size; (try simp at *); omega)); (try (have z5r : w4.heap.size < w5.heap.size := by have := h5.size; (try simp at *); omega)); (try (have z4t : w4.heap.size < q' := by (try simp at hq'); omega)); (have z45 : w4.heap.size ≤ q' := by (try simp at hq'); omega); (have z6 : w4.heap.size ≤ w5.heap.size := by have := h5.size; (try simp at this); omega)))
            all_goals
              go_split_ands
              have hwS := hnw.size
              have zP : ∀ e ∈ P, e.1 < wr.heap.size ∧ e.2 < wr.heap.size := fun e he => by
                obtain ⟨_, _, _, st'', s'', r''⟩ := hPr.2.2.2.1 e he
                exact ⟨s''.lt, r''.lt⟩
              have HZP := Lib.hid zP
              clear zP
              go_wp2_with (at_builtin; refine wp_append_pair rfl _ _ rfl w.heap.size n _ P (by rfl) _ q q' st' (by rfl) ?_ hp4 ?_ ?_ ?_ ?_ ?_ ?_ ?_; (focus (refine Pairs.kept hPr ?_; (repeat (first | with_reducible exact Upd.refl _ _ | with_reducible assumption | with_reducible refine Upd.alloc ?_ _ | with_reducible refine Upd.drew ?_ | with_reducible refine Upd.drewN ?_ _ | ((with_reducible refine Upd.setCell ?_ _ _ ?_); rotate_left; focus (first | (left; simp; done) | (right; simp; done) | (right; simp; omega) | (right; omega))) | ((with_reducible apply Upd.new); rotate_left; focus (with_reducible assumption)))))); (focus (simp [go_sem])); (focus (first | (refine Src.kept (S := []) s4 ?_ ?_; (focus ((repeat (first | with_reducible exact Upd.refl _ _ | with_reducible assumption | with_reducible refine Upd.alloc ?_ _ | with_reducible refine Upd.drew ?_ | with_reducible refine Upd.drewN ?_ _ | ((with_reducible refine Upd.setCell ?_ _ _ ?_); rotate_left; focus (first | (left; simp; done) | (right; simp; done) | (right; simp; omega) | (right; omega))) | ((with_reducible apply Upd.new); rotate_left; focus (with_reducible assumption)))); done)); simp; done) | (refine Src.kept (S := [wr.heap.size + 2]) s4 ?_ ?_; (focus (repeat (first | with_reducible exact Upd.refl _ _ | with_reducible assumption | with_reducible refine Upd.alloc ?_ _ | with_reducible refine Upd.drew ?_ | with_reducible refine Upd.drewN ?_ _ | ((with_reducible refine Upd.setCell ?_ _ _ ?_); rotate_left; focus (first | (left; simp; done) | (right; simp; done) | (right; simp; omega) | (right; omega))) | ((with_reducible apply Upd.new); rotate_left; focus (with_reducible assumption))))); simp; omega))); (focus (first | (refine RSrc.kept (S := []) s5 ?_ ?_; (focus ((repeat (first | with_reducible exact Upd.refl _ _ | with_reducible assumption | with_reducible refine Upd.alloc ?_ _ | with_reducible refine Upd.drew ?_ | with_reducible refine Upd.drewN ?_ _ | ((with_reducible refine Upd.setCell ?_ _ _ ?_); rotate_left; focus (first | (left; simp; done) | (right; simp; done) | (right; simp; omega) | (right; omega))) | ((with_reducible apply Upd.new); rotate_left; focus (with_reducible assumption)))); done)); simp; done) | (refine RSrc.kept (S := [w4.heap.size]) s5 ?_ ?_; (focus ((repeat (first | with_reducible exact Upd.refl _ _ | with_reducible assumption | with_reducible refine Upd.alloc ?_ _ | with_reducible refine Upd.drew ?_ | with_reducible refine Upd.drewN ?_ _ | ((with_reducible refine Upd.setCell ?_ _ _ ?_); rotate_left; focus (first | (left; simp; done) | (right; simp; done) | (right; simp; omega) | (right; omega))) | ((with_reducible apply Upd.new); rotate_left; focus (with_reducible assumption)))); done)); simp; omega) | (refine RSrc.kept (S := [wr.heap.size + 2]) s5 ?_ ?_; (focus (repeat (first | with_reducible exact Upd.refl _ _ | with_reducible assumption | with_reducible refine Upd.alloc ?_ _ | with_reducible refine Upd.drew ?_ | with_reducible refine Upd.drewN ?_ _ | ((with_reducible refine Upd.setCell ?_ _ _ ?_); rotate_left; focus (first | (left; simp; done) | (right; simp; done) | (right; simp; omega) | (right; omega))) | ((with_reducible apply Upd.new); rotate_left; focus (with_reducible assumption))))); simp; omega))); (focus (have := s4.lt; omega)); (focus (constructor <;> omega)); (focus (intro e he; have := HZP.out e he; omega)); intro v' w6 hP6 hU6; obtain ⟨g6, hg6, hU6⟩ := hU6; (have n6 : New w w6 := by (refine Upd.step ?_ hU6 ?_; (focus ((repeat (first | with_reducible exact Upd.refl _ _ | with_reducible assumption | with_reducible refine Upd.alloc ?_ _ | with_reducible refine Upd.drew ?_ | with_reducible refine Upd.drewN ?_ _ | ((with_reducible refine Upd.setCell ?_ _ _ ?_); rotate_left; focus (first | (left; simp; done) | (right; simp; done) | (right; simp; omega) | (right; omega))) | ((with_reducible apply Upd.new); rotate_left; focus (with_reducible assumption)))))); simp; omega)))
              go_roundw
              case rel => exact ⟨k + 1, P ++ [(q, q')], by omega, by go_num, n6, hP6⟩
              case measure => simp [intOf]; omega
          · have hp4' : ¬ P.length < 4 := hp4
            go_wp2_with fail
            go_region_held3 (fun w' => w'.cell? ⟨wr.heap.size + 1, 0, none⟩ = some (.pointer (some ⟨p', 0, none⟩)) ∧ w'.cell? ⟨wr.heap.size + 1, 1, none⟩ = some (.pointer (some ⟨r', 0, none⟩)))
              (first
                | (go_split_ands
                   refine ⟨?_, ?_⟩ <;> first | exact cell_kept (by assumption) (by assumption) | exact cell_kept ((Upd.refl _ _).alloc _) (by assumption) | exact cell_kept ((Upd.refl _ _).alloc _) (cell_unalloc (by assumption) z5) | (refine cell_kept_set2 ?_ ?_; (focus omega); assumption))
                | go_keep)
              (first
                | (go_at_call 8; refine (copy_any p' n st' _ ?_).mono ?_; (exact sp'.kept (S := []) (by (repeat (first | with_reducible exact Upd.refl _ _ | with_reducible assumption | with_reducible refine Upd.alloc ?_ _ | with_reducible refine Upd.drew ?_ | with_reducible refine Upd.drewN ?_ _ | ((with_reducible refine Upd.setCell ?_ _ _ ?_); rotate_left; focus (first | (left; simp; done) | (right; simp; done) | (right; simp; omega) | (right; omega))) | ((with_reducible apply Upd.new); rotate_left; focus (with_reducible assumption))))) (by simp)); rintro e w4 ⟨q, hq, rfl, h4, s4⟩; obtain ⟨hc4, hf4⟩ := h4.facts; (have z4 : wr.heap.size + 1 < w4.heap.size := by have := h4.size; (try simp at *); omega); (try (have z4q : wr.heap.size + 2 < w4.heap.size := by have := h4.size; (try simp at *); omega)); (try (have z4s : wr.heap.size + 2 < q := by (try simp at hq); omega)); (have z4' : wr.heap.size + 1 < q := by (try simp at hq); omega))
                | (go_at_call 9; refine (rcopy_any r' n st' _ ?_).mono ?_; (exact sr'.kept (S := []) (by (repeat (first | with_reducible exact Upd.refl _ _ | with_reducible assumption | with_reducible refine Upd.alloc ?_ _ | with_reducible refine Upd.drew ?_ | with_reducible refine Upd.drewN ?_ _ | ((with_reducible refine Upd.setCell ?_ _ _ ?_); rotate_left; focus (first | (left; simp; done) | (right; simp; done) | (right; simp; omega) | (right; omega))) | ((with_reducible apply Upd.new); rotate_left; focus (with_reducible assumption))))) (by simp)); rintro e w5 ⟨q', hq', rfl, h5, s5⟩; obtain ⟨hc5, hf5⟩ := h5.facts; (have z5 : wr.heap.size + 1 < w5.heap.size := by have := h4.size; have := h5.size; (try simp at *); omega); (try (have z5q : wr.heap.size + 2 < w5.heap.size := by have := h5.size; (try simp at *); omega)); (try (have z5r : w4.heap.size < w5.heap.size := by have := h5.size; (try simp at *); omega)); (try (have z4t : w4.heap.size < q' := by (try simp at hq'); omega)); (have z45 : w4.heap.size ≤ q' := by (try simp at hq'); omega); (have z6 : w4.heap.size ≤ w5.heap.size := by have := h5.size; (try simp at this); omega)))
            all_goals
              go_split_ands
              have hwS := hnw.size
              go_wp2_with fail
              go_roundw
              case rel => exact ⟨k + 1, P, by omega, by go_num, by (repeat (first | with_reducible exact Upd.refl _ _ | with_reducible assumption | with_reducible refine Upd.alloc ?_ _ | with_reducible refine Upd.drew ?_ | with_reducible refine Upd.drewN ?_ _ | ((with_reducible refine Upd.setCell ?_ _ _ ?_); rotate_left; focus (first | (left; simp; done) | (right; simp; done) | (right; simp; omega) | (right; omega))) | ((with_reducible apply Upd.new); rotate_left; focus (with_reducible assumption)))), hPr.kept (by (repeat (first | with_reducible exact Upd.refl _ _ | with_reducible assumption | with_reducible refine Upd.alloc ?_ _ | with_reducible refine Upd.drew ?_ | with_reducible refine Upd.drewN ?_ _ | ((with_reducible refine Upd.setCell ?_ _ _ ?_); rotate_left; focus (first | (left; simp; done) | (right; simp; done) | (right; simp; omega) | (right; omega))) | ((with_reducible apply Upd.new); rotate_left; focus (with_reducible assumption)))))⟩
              case measure => simp [intOf]; omega
        · have e5 : (K k == 5) = false := by simpa using h5
          go_wp2_with fail
          refine (step_any p' r' n (K k) j (X k) (Y k) (Z k) st' _ (sp'.kept (S := []) ?_ (by simp)) (sr'.kept (S := []) ?_ (by simp)) hpr').mono ?_
          · (repeat (first | with_reducible exact Upd.refl _ _ | with_reducible assumption | with_reducible refine Upd.alloc ?_ _ | with_reducible refine Upd.drew ?_ | with_reducible refine Upd.drewN ?_ _ | ((with_reducible refine Upd.setCell ?_ _ _ ?_); rotate_left; focus (first | (left; simp; done) | (right; simp; done) | (right; simp; omega) | (right; omega))) | ((with_reducible apply Upd.new); rotate_left; focus (with_reducible assumption))))
          · (repeat (first | with_reducible exact Upd.refl _ _ | with_reducible assumption | with_reducible refine Upd.alloc ?_ _ | with_reducible refine Upd.drew ?_ | with_reducible refine Upd.drewN ?_ _ | ((with_reducible refine Upd.setCell ?_ _ _ ?_); rotate_left; focus (first | (left; simp; done) | (right; simp; done) | (right; simp; omega) | (right; omega))) | ((with_reducible apply Upd.new); rotate_left; focus (with_reducible assumption))))
          rintro e w7 ⟨he, st7, hB7⟩
          subst he
          have hU7 := hB7.1
          have hwS := hnw.size
          have n7 : New w w7 := by
            refine Upd.step ?_ hU7 ?_
            · (repeat (first | with_reducible exact Upd.refl _ _ | with_reducible assumption | with_reducible refine Upd.alloc ?_ _ | with_reducible refine Upd.drew ?_ | with_reducible refine Upd.drewN ?_ _ | ((with_reducible refine Upd.setCell ?_ _ _ ?_); rotate_left; focus (first | (left; simp; done) | (right; simp; done) | (right; simp; omega) | (right; omega))) | ((with_reducible apply Upd.new); rotate_left; focus (with_reducible assumption))))
            · simp; omega
          have hP7 : Pairs w.heap.size n (.slice (some ⟨g, 0, none⟩) P.length gcap) P w7 := by
            refine Pairs.step (w := _) ?_ hm' hB7
            refine hPr.kept ?_
            (repeat (first | with_reducible exact Upd.refl _ _ | with_reducible assumption | with_reducible refine Upd.alloc ?_ _ | with_reducible refine Upd.drew ?_ | with_reducible refine Upd.drewN ?_ _ | ((with_reducible refine Upd.setCell ?_ _ _ ?_); rotate_left; focus (first | (left; simp; done) | (right; simp; done) | (right; simp; omega) | (right; omega))) | ((with_reducible apply Upd.new); rotate_left; focus (with_reducible assumption))))
          have HP7 := Lib.hid hP7
          clear hP7 hB7 hU7
          go_wp2_with fail
          go_roundw
          case rel => exact ⟨k + 1, P, by omega, by go_num, n7, HP7.out⟩
          case measure => simp [intOf]; omega
      · by_cases hon0 : 0 < O k
        · have hon1 : ¬ O k < P.length := fun h => hon ⟨hon0, h⟩
          have hon1' : decide (O k < P.length) = false := by simpa using hon1
          clear hon
          by_cases h5 : K k = 5
          · rw [h5] at q0
            by_cases hp4 : P.length < 4
            · go_wp2_with fail
              go_region_held3 (fun w' => w'.cell? ⟨wr.heap.size + 1, 0, none⟩ = some (.pointer (some ⟨p, 0, none⟩)) ∧ w'.cell? ⟨wr.heap.size + 1, 1, none⟩ = some (.pointer (some ⟨r, 0, none⟩)))
                (first
                  | (go_split_ands
                     refine ⟨?_, ?_⟩ <;> first | exact cell_kept (by assumption) (by assumption) | exact cell_kept ((Upd.refl _ _).alloc _) (by assumption) | exact cell_kept ((Upd.refl _ _).alloc _) (cell_unalloc (by assumption) z5) | (refine cell_kept_set2 ?_ ?_; (focus omega); assumption))
                  | go_keep)
                (first
                  | (go_at_call 8; refine (copy_any p n st _ ?_).mono ?_; (exact sp.kept (S := []) (by (repeat (first | with_reducible exact Upd.refl _ _ | with_reducible assumption | with_reducible refine Upd.alloc ?_ _ | with_reducible refine Upd.drew ?_ | with_reducible refine Upd.drewN ?_ _ | ((with_reducible refine Upd.setCell ?_ _ _ ?_); rotate_left; focus (first | (left; simp; done) | (right; simp; done) | (right; simp; omega) | (right; omega))) | ((with_reducible apply Upd.new); rotate_left; focus (with_reducible assumption))))) (by simp)); rintro e w4 ⟨q, hq, rfl, h4, s4⟩; obtain ⟨hc4, hf4⟩ := h4.facts; (have z4 : wr.heap.size + 1 < w4.heap.size := by have := h4.size; (try simp at *); omega); (try (have z4q : wr.heap.size + 2 < w4.heap.size := by have := h4.size; (try simp at *); omega)); (try (have z4s : wr.heap.size + 2 < q := by (try simp at hq); omega)); (have z4' : wr.heap.size + 1 < q := by (try simp at hq); omega))
                  | (go_at_call 9; refine (rcopy_any r n st _ ?_).mono ?_; (exact sr.kept (S := []) (by (repeat (first | with_reducible exact Upd.refl _ _ | with_reducible assumption | with_reducible refine Upd.alloc ?_ _ | with_reducible refine Upd.drew ?_ | with_reducible refine Upd.drewN ?_ _ | ((with_reducible refine Upd.setCell ?_ _ _ ?_); rotate_left; focus (first | (left; simp; done) | (right; simp; done) | (right; simp; omega) | (right; omega))) | ((with_reducible apply Upd.new); rotate_left; focus (with_reducible assumption))))) (by simp)); rintro e w5 ⟨q', hq', rfl, h5, s5⟩; obtain ⟨hc5, hf5⟩ := h5.facts; (have z5 : wr.heap.size + 1 < w5.heap.size := by have := h4.size; have := h5.size; (try simp at *); omega); (try (have z5q : wr.heap.size + 2 < w5.heap.size := by have := h5.size; (try simp at *); omega)); (try (have z5r : w4.heap.size < w5.heap.size := by have := h5.size; (try simp at *); omega)); (try (have z4t : w4.heap.size < q' := by (try simp at hq'); omega)); (have z45 : w4.heap.size ≤ q' := by (try simp at hq'); omega); (have z6 : w4.heap.size ≤ w5.heap.size := by have := h5.size; (try simp at this); omega)))
              all_goals
                go_split_ands
                have hwS := hnw.size
                have zP : ∀ e ∈ P, e.1 < wr.heap.size ∧ e.2 < wr.heap.size := fun e he => by
                  obtain ⟨_, _, _, st'', s'', r''⟩ := hPr.2.2.2.1 e he
                  exact ⟨s''.lt, r''.lt⟩
                have HZP := Lib.hid zP
                clear zP
                go_wp2_with (at_builtin; refine wp_append_pair rfl _ _ rfl w.heap.size n _ P (by rfl) _ q q' st (by rfl) ?_ hp4 ?_ ?_ ?_ ?_ ?_ ?_ ?_; (focus (refine Pairs.kept hPr ?_; (repeat (first | with_reducible exact Upd.refl _ _ | with_reducible assumption | with_reducible refine Upd.alloc ?_ _ | with_reducible refine Upd.drew ?_ | with_reducible refine Upd.drewN ?_ _ | ((with_reducible refine Upd.setCell ?_ _ _ ?_); rotate_left; focus (first | (left; simp; done) | (right; simp; done) | (right; simp; omega) | (right; omega))) | ((with_reducible apply Upd.new); rotate_left; focus (with_reducible assumption)))))); (focus (simp [go_sem])); (focus (first | (refine Src.kept (S := []) s4 ?_ ?_; (focus ((repeat (first | with_reducible exact Upd.refl _ _ | with_reducible assumption | with_reducible refine Upd.alloc ?_ _ | with_reducible refine Upd.drew ?_ | with_reducible refine Upd.drewN ?_ _ | ((with_reducible refine Upd.setCell ?_ _ _ ?_); rotate_left; focus (first | (left; simp; done) | (right; simp; done) | (right; simp; omega) | (right; omega))) | ((with_reducible apply Upd.new); rotate_left; focus (with_reducible assumption)))); done)); simp; done) | (refine Src.kept (S := [wr.heap.size + 2]) s4 ?_ ?_; (focus (repeat (first | with_reducible exact Upd.refl _ _ | with_reducible assumption | with_reducible refine Upd.alloc ?_ _ | with_reducible refine Upd.drew ?_ | with_reducible refine Upd.drewN ?_ _ | ((with_reducible refine Upd.setCell ?_ _ _ ?_); rotate_left; focus (first | (left; simp; done) | (right; simp; done) | (right; simp; omega) | (right; omega))) | ((with_reducible apply Upd.new); rotate_left; focus (with_reducible assumption))))); simp; omega))); (focus (first | (refine RSrc.kept (S := []) s5 ?_ ?_; (focus ((repeat (first | with_reducible exact Upd.refl _ _ | with_reducible assumption | with_reducible refine Upd.alloc ?_ _ | with_reducible refine Upd.drew ?_ | with_reducible refine Upd.drewN ?_ _ | ((with_reducible refine Upd.setCell ?_ _ _ ?_); rotate_left; focus (first | (left; simp; done) | (right; simp; done) | (right; simp; omega) | (right; omega))) | ((with_reducible apply Upd.new); rotate_left; focus (with_reducible assumption)))); done)); simp; done) | (refine RSrc.kept (S := [w4.heap.size]) s5 ?_ ?_; (focus ((repeat (first | with_reducible exact Upd.refl _ _ | with_reducible assumption | with_reducible refine Upd.alloc ?_ _ | with_reducible refine Upd.drew ?_ | with_reducible refine Upd.drewN ?_ _ | ((with_reducible refine Upd.setCell ?_ _ _ ?_); rotate_left; focus (first | (left; simp; done) | (right; simp; done) | (right; simp; omega) | (right; omega))) | ((with_reducible apply Upd.new); rotate_left; focus (with_reducible assumption)))); done)); simp; omega) | (refine RSrc.kept (S := [wr.heap.size + 2]) s5 ?_ ?_; (focus (repeat (first | with_reducible exact Upd.refl _ _ | with_reducible assumption | with_reducible refine Upd.alloc ?_ _ | with_reducible refine Upd.drew ?_ | with_reducible refine Upd.drewN ?_ _ | ((with_reducible refine Upd.setCell ?_ _ _ ?_); rotate_left; focus (first | (left; simp; done) | (right; simp; done) | (right; simp; omega) | (right; omega))) | ((with_reducible apply Upd.new); rotate_left; focus (with_reducible assumption))))); simp; omega))); (focus (have := s4.lt; omega)); (focus (constructor <;> omega)); (focus (intro e he; have := HZP.out e he; omega)); intro v' w6 hP6 hU6; obtain ⟨g6, hg6, hU6⟩ := hU6; (have n6 : New w w6 := by (refine Upd.step ?_ hU6 ?_; (focus ((repeat (first | with_reducible exact Upd.refl _ _ | with_reducible assumption | with_reducible refine Upd.alloc ?_ _ | with_reducible refine Upd.drew ?_ | with_reducible refine Upd.drewN ?_ _ | ((with_reducible refine Upd.setCell ?_ _ _ ?_); rotate_left; focus (first | (left; simp; done) | (right; simp; done) | (right; simp; omega) | (right; omega))) | ((with_reducible apply Upd.new); rotate_left; focus (with_reducible assumption)))))); simp; omega)))
                go_roundw
                case rel => exact ⟨k + 1, P ++ [(q, q')], by omega, by go_num, n6, hP6⟩
                case measure => simp [intOf]; omega
            · have hp4' : ¬ P.length < 4 := hp4
              go_wp2_with fail
              go_region_held3 (fun w' => w'.cell? ⟨wr.heap.size + 1, 0, none⟩ = some (.pointer (some ⟨p, 0, none⟩)) ∧ w'.cell? ⟨wr.heap.size + 1, 1, none⟩ = some (.pointer (some ⟨r, 0, none⟩)))
                (first
                  | (go_split_ands
                     refine ⟨?_, ?_⟩ <;> first | exact cell_kept (by assumption) (by assumption) | exact cell_kept ((Upd.refl _ _).alloc _) (by assumption) | exact cell_kept ((Upd.refl _ _).alloc _) (cell_unalloc (by assumption) z5) | (refine cell_kept_set2 ?_ ?_; (focus omega); assumption))
                  | go_keep)
                (first
                  | (go_at_call 8; refine (copy_any p n st _ ?_).mono ?_; (exact sp.kept (S := []) (by (repeat (first | with_reducible exact Upd.refl _ _ | with_reducible assumption | with_reducible refine Upd.alloc ?_ _ | with_reducible refine Upd.drew ?_ | with_reducible refine Upd.drewN ?_ _ | ((with_reducible refine Upd.setCell ?_ _ _ ?_); rotate_left; focus (first | (left; simp; done) | (right; simp; done) | (right; simp; omega) | (right; omega))) | ((with_reducible apply Upd.new); rotate_left; focus (with_reducible assumption))))) (by simp)); rintro e w4 ⟨q, hq, rfl, h4, s4⟩; obtain ⟨hc4, hf4⟩ := h4.facts; (have z4 : wr.heap.size + 1 < w4.heap.size := by have := h4.size; (try simp at *); omega); (try (have z4q : wr.heap.size + 2 < w4.heap.size := by have := h4.size; (try simp at *); omega)); (try (have z4s : wr.heap.size + 2 < q := by (try simp at hq); omega)); (have z4' : wr.heap.size + 1 < q := by (try simp at hq); omega))
                  | (go_at_call 9; refine (rcopy_any r n st _ ?_).mono ?_; (exact sr.kept (S := []) (by (repeat (first | with_reducible exact Upd.refl _ _ | with_reducible assumption | with_reducible refine Upd.alloc ?_ _ | with_reducible refine Upd.drew ?_ | with_reducible refine Upd.drewN ?_ _ | ((with_reducible refine Upd.setCell ?_ _ _ ?_); rotate_left; focus (first | (left; simp; done) | (right; simp; done) | (right; simp; omega) | (right; omega))) | ((with_reducible apply Upd.new); rotate_left; focus (with_reducible assumption))))) (by simp)); rintro e w5 ⟨q', hq', rfl, h5, s5⟩; obtain ⟨hc5, hf5⟩ := h5.facts; (have z5 : wr.heap.size + 1 < w5.heap.size := by have := h4.size; have := h5.size; (try simp at *); omega); (try (have z5q : wr.heap.size + 2 < w5.heap.size := by have := h5.size; (try simp at *); omega)); (try (have z5r : w4.heap.size < w5.heap.size := by have := h5.size; (try simp at *); omega)); (try (have z4t : w4.heap.size < q' := by (try simp at hq'); omega)); (have z45 : w4.heap.size ≤ q' := by (try simp at hq'); omega); (have z6 : w4.heap.size ≤ w5.heap.size := by have := h5.size; (try simp at this); omega)))
              all_goals
                go_split_ands
                have hwS := hnw.size
                go_wp2_with fail
                go_roundw
                case rel => exact ⟨k + 1, P, by omega, by go_num, by (repeat (first | with_reducible exact Upd.refl _ _ | with_reducible assumption | with_reducible refine Upd.alloc ?_ _ | with_reducible refine Upd.drew ?_ | with_reducible refine Upd.drewN ?_ _ | ((with_reducible refine Upd.setCell ?_ _ _ ?_); rotate_left; focus (first | (left; simp; done) | (right; simp; done) | (right; simp; omega) | (right; omega))) | ((with_reducible apply Upd.new); rotate_left; focus (with_reducible assumption)))), hPr.kept (by (repeat (first | with_reducible exact Upd.refl _ _ | with_reducible assumption | with_reducible refine Upd.alloc ?_ _ | with_reducible refine Upd.drew ?_ | with_reducible refine Upd.drewN ?_ _ | ((with_reducible refine Upd.setCell ?_ _ _ ?_); rotate_left; focus (first | (left; simp; done) | (right; simp; done) | (right; simp; omega) | (right; omega))) | ((with_reducible apply Upd.new); rotate_left; focus (with_reducible assumption)))))⟩
                case measure => simp [intOf]; omega
          · have e5 : (K k == 5) = false := by simpa using h5
            go_wp2_with fail
            refine (step_any p r n (K k) (O k) (X k) (Y k) (Z k) st _ (sp.kept (S := []) ?_ (by simp)) (sr.kept (S := []) ?_ (by simp)) hpr).mono ?_
            · (repeat (first | with_reducible exact Upd.refl _ _ | with_reducible assumption | with_reducible refine Upd.alloc ?_ _ | with_reducible refine Upd.drew ?_ | with_reducible refine Upd.drewN ?_ _ | ((with_reducible refine Upd.setCell ?_ _ _ ?_); rotate_left; focus (first | (left; simp; done) | (right; simp; done) | (right; simp; omega) | (right; omega))) | ((with_reducible apply Upd.new); rotate_left; focus (with_reducible assumption))))
            · (repeat (first | with_reducible exact Upd.refl _ _ | with_reducible assumption | with_reducible refine Upd.alloc ?_ _ | with_reducible refine Upd.drew ?_ | with_reducible refine Upd.drewN ?_ _ | ((with_reducible refine Upd.setCell ?_ _ _ ?_); rotate_left; focus (first | (left; simp; done) | (right; simp; done) | (right; simp; omega) | (right; omega))) | ((with_reducible apply Upd.new); rotate_left; focus (with_reducible assumption))))
            rintro e w7 ⟨he, st7, hB7⟩
            subst he
            have hU7 := hB7.1
            have hwS := hnw.size
            have n7 : New w w7 := by
              refine Upd.step ?_ hU7 ?_
              · (repeat (first | with_reducible exact Upd.refl _ _ | with_reducible assumption | with_reducible refine Upd.alloc ?_ _ | with_reducible refine Upd.drew ?_ | with_reducible refine Upd.drewN ?_ _ | ((with_reducible refine Upd.setCell ?_ _ _ ?_); rotate_left; focus (first | (left; simp; done) | (right; simp; done) | (right; simp; omega) | (right; omega))) | ((with_reducible apply Upd.new); rotate_left; focus (with_reducible assumption))))
              · simp; omega
            have hP7 : Pairs w.heap.size n (.slice (some ⟨g, 0, none⟩) P.length gcap) P w7 := by
              refine Pairs.step (w := _) ?_ hm0 hB7
              refine hPr.kept ?_
              (repeat (first | with_reducible exact Upd.refl _ _ | with_reducible assumption | with_reducible refine Upd.alloc ?_ _ | with_reducible refine Upd.drew ?_ | with_reducible refine Upd.drewN ?_ _ | ((with_reducible refine Upd.setCell ?_ _ _ ?_); rotate_left; focus (first | (left; simp; done) | (right; simp; done) | (right; simp; omega) | (right; omega))) | ((with_reducible apply Upd.new); rotate_left; focus (with_reducible assumption))))
            have HP7 := Lib.hid hP7
            clear hP7 hB7 hU7
            go_wp2_with fail
            go_roundw
            case rel => exact ⟨k + 1, P, by omega, by go_num, n7, HP7.out⟩
            case measure => simp [intOf]; omega
        · have hon0' : decide (0 < O k) = false := by simpa using hon0
          clear hon
          by_cases h5 : K k = 5
          · rw [h5] at q0
            by_cases hp4 : P.length < 4
            · go_wp2_with fail
              go_region_held3 (fun w' => w'.cell? ⟨wr.heap.size + 1, 0, none⟩ = some (.pointer (some ⟨p, 0, none⟩)) ∧ w'.cell? ⟨wr.heap.size + 1, 1, none⟩ = some (.pointer (some ⟨r, 0, none⟩)))
                (first
                  | (go_split_ands
                     refine ⟨?_, ?_⟩ <;> first | exact cell_kept (by assumption) (by assumption) | exact cell_kept ((Upd.refl _ _).alloc _) (by assumption) | exact cell_kept ((Upd.refl _ _).alloc _) (cell_unalloc (by assumption) z5) | (refine cell_kept_set2 ?_ ?_; (focus omega); assumption))
                  | go_keep)
                (first
                  | (go_at_call 8; refine (copy_any p n st _ ?_).mono ?_; (exact sp.kept (S := []) (by (repeat (first | with_reducible exact Upd.refl _ _ | with_reducible assumption | with_reducible refine Upd.alloc ?_ _ | with_reducible refine Upd.drew ?_ | with_reducible refine Upd.drewN ?_ _ | ((with_reducible refine Upd.setCell ?_ _ _ ?_); rotate_left; focus (first | (left; simp; done) | (right; simp; done) | (right; simp; omega) | (right; omega))) | ((with_reducible apply Upd.new); rotate_left; focus (with_reducible assumption))))) (by simp)); rintro e w4 ⟨q, hq, rfl, h4, s4⟩; obtain ⟨hc4, hf4⟩ := h4.facts; (have z4 : wr.heap.size + 1 < w4.heap.size := by have := h4.size; (try simp at *); omega); (try (have z4q : wr.heap.size + 2 < w4.heap.size := by have := h4.size; (try simp at *); omega)); (try (have z4s : wr.heap.size + 2 < q := by (try simp at hq); omega)); (have z4' : wr.heap.size + 1 < q := by (try simp at hq); omega))
                  | (go_at_call 9; refine (rcopy_any r n st _ ?_).mono ?_; (exact sr.kept (S := []) (by (repeat (first | with_reducible exact Upd.refl _ _ | with_reducible assumption | with_reducible refine Upd.alloc ?_ _ | with_reducible refine Upd.drew ?_ | with_reducible refine Upd.drewN ?_ _ | ((with_reducible refine Upd.setCell ?_ _ _ ?_); rotate_left; focus (first | (left; simp; done) | (right; simp; done) | (right; simp; omega) | (right; omega))) | ((with_reducible apply Upd.new); rotate_left; focus (with_reducible assumption))))) (by simp)); rintro e w5 ⟨q', hq', rfl, h5, s5⟩; obtain ⟨hc5, hf5⟩ := h5.facts; (have z5 : wr.heap.size + 1 < w5.heap.size := by have := h4.size; have := h5.size; (try simp at *); omega); (try (have z5q : wr.heap.size + 2 < w5.heap.size := by have := h5.size; (try simp at *); omega)); (try (have z5r : w4.heap.size < w5.heap.size := by have := h5.size; (try simp at *); omega)); (try (have z4t : w4.heap.size < q' := by (try simp at hq'); omega)); (have z45 : w4.heap.size ≤ q' := by (try simp at hq'); omega); (have z6 : w4.heap.size ≤ w5.heap.size := by have := h5.size; (try simp at this); omega)))
              all_goals
                go_split_ands
                have hwS := hnw.size
                have zP : ∀ e ∈ P, e.1 < wr.heap.size ∧ e.2 < wr.heap.size := fun e he => by
                  obtain ⟨_, _, _, st'', s'', r''⟩ := hPr.2.2.2.1 e he
                  exact ⟨s''.lt, r''.lt⟩
                have HZP := Lib.hid zP
                clear zP
                go_wp2_with (at_builtin; refine wp_append_pair rfl _ _ rfl w.heap.size n _ P (by rfl) _ q q' st (by rfl) ?_ hp4 ?_ ?_ ?_ ?_ ?_ ?_ ?_; (focus (refine Pairs.kept hPr ?_; (repeat (first | with_reducible exact Upd.refl _ _ | with_reducible assumption | with_reducible refine Upd.alloc ?_ _ | with_reducible refine Upd.drew ?_ | with_reducible refine Upd.drewN ?_ _ | ((with_reducible refine Upd.setCell ?_ _ _ ?_); rotate_left; focus (first | (left; simp; done) | (right; simp; done) | (right; simp; omega) | (right; omega))) | ((with_reducible apply Upd.new); rotate_left; focus (with_reducible assumption)))))); (focus (simp [go_sem])); (focus (first | (refine Src.kept (S := []) s4 ?_ ?_; (focus ((repeat (first | with_reducible exact Upd.refl _ _ | with_reducible assumption | with_reducible refine Upd.alloc ?_ _ | with_reducible refine Upd.drew ?_ | with_reducible refine Upd.drewN ?_ _ | ((with_reducible refine Upd.setCell ?_ _ _ ?_); rotate_left; focus (first | (left; simp; done) | (right; simp; done) | (right; simp; omega) | (right; omega))) | ((with_reducible apply Upd.new); rotate_left; focus (with_reducible assumption)))); done)); simp; done) | (refine Src.kept (S := [wr.heap.size + 2]) s4 ?_ ?_; (focus (repeat (first | with_reducible exact Upd.refl _ _ | with_reducible assumption | with_reducible refine Upd.alloc ?_ _ | with_reducible refine Upd.drew ?_ | with_reducible refine Upd.drewN ?_ _ | ((with_reducible refine Upd.setCell ?_ _ _ ?_); rotate_left; focus (first | (left; simp; done) | (right; simp; done) | (right; simp; omega) | (right; omega))) | ((with_reducible apply Upd.new); rotate_left; focus (with_reducible assumption))))); simp; omega))); (focus (first | (refine RSrc.kept (S := []) s5 ?_ ?_; (focus ((repeat (first | with_reducible exact Upd.refl _ _ | with_reducible assumption | with_reducible refine Upd.alloc ?_ _ | with_reducible refine Upd.drew ?_ | with_reducible refine Upd.drewN ?_ _ | ((with_reducible refine Upd.setCell ?_ _ _ ?_); rotate_left; focus (first | (left; simp; done) | (right; simp; done) | (right; simp; omega) | (right; omega))) | ((with_reducible apply Upd.new); rotate_left; focus (with_reducible assumption)))); done)); simp; done) | (refine RSrc.kept (S := [w4.heap.size]) s5 ?_ ?_; (focus ((repeat (first | with_reducible exact Upd.refl _ _ | with_reducible assumption | with_reducible refine Upd.alloc ?_ _ | with_reducible refine Upd.drew ?_ | with_reducible refine Upd.drewN ?_ _ | ((with_reducible refine Upd.setCell ?_ _ _ ?_); rotate_left; focus (first | (left; simp; done) | (right; simp; done) | (right; simp; omega) | (right; omega))) | ((with_reducible apply Upd.new); rotate_left; focus (with_reducible assumption)))); done)); simp; omega) | (refine RSrc.kept (S := [wr.heap.size + 2]) s5 ?_ ?_; (focus (repeat (first | with_reducible exact Upd.refl _ _ | with_reducible assumption | with_reducible refine Upd.alloc ?_ _ | with_reducible refine Upd.drew ?_ | with_reducible refine Upd.drewN ?_ _ | ((with_reducible refine Upd.setCell ?_ _ _ ?_); rotate_left; focus (first | (left; simp; done) | (right; simp; done) | (right; simp; omega) | (right; omega))) | ((with_reducible apply Upd.new); rotate_left; focus (with_reducible assumption))))); simp; omega))); (focus (have := s4.lt; omega)); (focus (constructor <;> omega)); (focus (intro e he; have := HZP.out e he; omega)); intro v' w6 hP6 hU6; obtain ⟨g6, hg6, hU6⟩ := hU6; (have n6 : New w w6 := by (refine Upd.step ?_ hU6 ?_; (focus ((repeat (first | with_reducible exact Upd.refl _ _ | with_reducible assumption | with_reducible refine Upd.alloc ?_ _ | with_reducible refine Upd.drew ?_ | with_reducible refine Upd.drewN ?_ _ | ((with_reducible refine Upd.setCell ?_ _ _ ?_); rotate_left; focus (first | (left; simp; done) | (right; simp; done) | (right; simp; omega) | (right; omega))) | ((with_reducible apply Upd.new); rotate_left; focus (with_reducible assumption)))))); simp; omega)))
                go_roundw
                case rel => exact ⟨k + 1, P ++ [(q, q')], by omega, by go_num, n6, hP6⟩
                case measure => simp [intOf]; omega
            · have hp4' : ¬ P.length < 4 := hp4
              go_wp2_with fail
              go_region_held3 (fun w' => w'.cell? ⟨wr.heap.size + 1, 0, none⟩ = some (.pointer (some ⟨p, 0, none⟩)) ∧ w'.cell? ⟨wr.heap.size + 1, 1, none⟩ = some (.pointer (some ⟨r, 0, none⟩)))
                (first
                  | (go_split_ands
                     refine ⟨?_, ?_⟩ <;> first | exact cell_kept (by assumption) (by assumption) | exact cell_kept ((Upd.refl _ _).alloc _) (by assumption) | exact cell_kept ((Upd.refl _ _).alloc _) (cell_unalloc (by assumption) z5) | (refine cell_kept_set2 ?_ ?_; (focus omega); assumption))
                  | go_keep)
                (first
                  | (go_at_call 8; refine (copy_any p n st _ ?_).mono ?_; (exact sp.kept (S := []) (by (repeat (first | with_reducible exact Upd.refl _ _ | with_reducible assumption | with_reducible refine Upd.alloc ?_ _ | with_reducible refine Upd.drew ?_ | with_reducible refine Upd.drewN ?_ _ | ((with_reducible refine Upd.setCell ?_ _ _ ?_); rotate_left; focus (first | (left; simp; done) | (right; simp; done) | (right; simp; omega) | (right; omega))) | ((with_reducible apply Upd.new); rotate_left; focus (with_reducible assumption))))) (by simp)); rintro e w4 ⟨q, hq, rfl, h4, s4⟩; obtain ⟨hc4, hf4⟩ := h4.facts; (have z4 : wr.heap.size + 1 < w4.heap.size := by have := h4.size; (try simp at *); omega); (try (have z4q : wr.heap.size + 2 < w4.heap.size := by have := h4.size; (try simp at *); omega)); (try (have z4s : wr.heap.size + 2 < q := by (try simp at hq); omega)); (have z4' : wr.heap.size + 1 < q := by (try simp at hq); omega))
                  | (go_at_call 9; refine (rcopy_any r n st _ ?_).mono ?_; (exact sr.kept (S := []) (by (repeat (first | with_reducible exact Upd.refl _ _ | with_reducible assumption | with_reducible refine Upd.alloc ?_ _ | with_reducible refine Upd.drew ?_ | with_reducible refine Upd.drewN ?_ _ | ((with_reducible refine Upd.setCell ?_ _ _ ?_); rotate_left; focus (first | (left; simp; done) | (right; simp; done) | (right; simp; omega) | (right; omega))) | ((with_reducible apply Upd.new); rotate_left; focus (with_reducible assumption))))) (by simp)); rintro e w5 ⟨q', hq', rfl, h5, s5⟩; obtain ⟨hc5, hf5⟩ := h5.facts; (have z5 : wr.heap.size + 1 < w5.heap.size := by have := h4.size; have := h5.size; (try simp at *); omega); (try (have z5q : wr.heap.size + 2 < w5.heap.size := by have := h5.size; (try simp at *); omega)); (try (have z5r : w4.heap.size < w5.heap.size := by have := h5.size; (try simp at *); omega)); (try (have z4t : w4.heap.size < q' := by (try simp at hq'); omega)); (have z45 : w4.heap.size ≤ q' := by (try simp at hq'); omega); (have z6 : w4.heap.size ≤ w5.heap.size := by have := h5.size; (try simp at this); omega)))
              all_goals
                go_split_ands
                have hwS := hnw.size
                go_wp2_with fail
                go_roundw
                case rel => exact ⟨k + 1, P, by omega, by go_num, by (repeat (first | with_reducible exact Upd.refl _ _ | with_reducible assumption | with_reducible refine Upd.alloc ?_ _ | with_reducible refine Upd.drew ?_ | with_reducible refine Upd.drewN ?_ _ | ((with_reducible refine Upd.setCell ?_ _ _ ?_); rotate_left; focus (first | (left; simp; done) | (right; simp; done) | (right; simp; omega) | (right; omega))) | ((with_reducible apply Upd.new); rotate_left; focus (with_reducible assumption)))), hPr.kept (by (repeat (first | with_reducible exact Upd.refl _ _ | with_reducible assumption | with_reducible refine Upd.alloc ?_ _ | with_reducible refine Upd.drew ?_ | with_reducible refine Upd.drewN ?_ _ | ((with_reducible refine Upd.setCell ?_ _ _ ?_); rotate_left; focus (first | (left; simp; done) | (right; simp; done) | (right; simp; omega) | (right; omega))) | ((with_reducible apply Upd.new); rotate_left; focus (with_reducible assumption)))))⟩
                case measure => simp [intOf]; omega
          · have e5 : (K k == 5) = false := by simpa using h5
            go_wp2_with fail
            refine (step_any p r n (K k) (O k) (X k) (Y k) (Z k) st _ (sp.kept (S := []) ?_ (by simp)) (sr.kept (S := []) ?_ (by simp)) hpr).mono ?_
            · (repeat (first | with_reducible exact Upd.refl _ _ | with_reducible assumption | with_reducible refine Upd.alloc ?_ _ | with_reducible refine Upd.drew ?_ | with_reducible refine Upd.drewN ?_ _ | ((with_reducible refine Upd.setCell ?_ _ _ ?_); rotate_left; focus (first | (left; simp; done) | (right; simp; done) | (right; simp; omega) | (right; omega))) | ((with_reducible apply Upd.new); rotate_left; focus (with_reducible assumption))))
            · (repeat (first | with_reducible exact Upd.refl _ _ | with_reducible assumption | with_reducible refine Upd.alloc ?_ _ | with_reducible refine Upd.drew ?_ | with_reducible refine Upd.drewN ?_ _ | ((with_reducible refine Upd.setCell ?_ _ _ ?_); rotate_left; focus (first | (left; simp; done) | (right; simp; done) | (right; simp; omega) | (right; omega))) | ((with_reducible apply Upd.new); rotate_left; focus (with_reducible assumption))))
            rintro e w7 ⟨he, st7, hB7⟩
            subst he
            have hU7 := hB7.1
            have hwS := hnw.size
            have n7 : New w w7 := by
              refine Upd.step ?_ hU7 ?_
              · (repeat (first | with_reducible exact Upd.refl _ _ | with_reducible assumption | with_reducible refine Upd.alloc ?_ _ | with_reducible refine Upd.drew ?_ | with_reducible refine Upd.drewN ?_ _ | ((with_reducible refine Upd.setCell ?_ _ _ ?_); rotate_left; focus (first | (left; simp; done) | (right; simp; done) | (right; simp; omega) | (right; omega))) | ((with_reducible apply Upd.new); rotate_left; focus (with_reducible assumption))))
              · simp; omega
            have hP7 : Pairs w.heap.size n (.slice (some ⟨g, 0, none⟩) P.length gcap) P w7 := by
              refine Pairs.step (w := _) ?_ hm0 hB7
              refine hPr.kept ?_
              (repeat (first | with_reducible exact Upd.refl _ _ | with_reducible assumption | with_reducible refine Upd.alloc ?_ _ | with_reducible refine Upd.drew ?_ | with_reducible refine Upd.drewN ?_ _ | ((with_reducible refine Upd.setCell ?_ _ _ ?_); rotate_left; focus (first | (left; simp; done) | (right; simp; done) | (right; simp; omega) | (right; omega))) | ((with_reducible apply Upd.new); rotate_left; focus (with_reducible assumption))))
            have HP7 := Lib.hid hP7
            clear hP7 hB7 hU7
            go_wp2_with fail
            go_roundw
            case rel => exact ⟨k + 1, P, by omega, by go_num, n7, HP7.out⟩
            case measure => simp [intOf]; omega
    · clear HK HO HX HY HZ sp sr c0 c1 hat
      go_wp2_with fail
      go_loopw [14] (fun i wl => ∃ m : Nat, m ≤ P.length ∧ i = .int .i64 m ∧ New w wl ∧ Pairs w.heap.size n (.slice (some ⟨g, 0, none⟩) P.length gcap) P wl) (fun i _ => P.length - (intOf i).toNat)
      case atStart => exact ⟨0, Nat.zero_le _, rfl, hnw, hPr⟩
      case round =>
        obtain ⟨m, hm, rfl, hnl, hPl'⟩ := hrel
        by_cases hlt' : m < P.length
        · obtain ⟨g0, cap0, hv0, _, _, _, at0⟩ := hPl'.at
          obtain ⟨rfl, rfl⟩ : g = g0 ∧ gcap = cap0 := by simpa using hv0
          obtain ⟨p1, r1, m1, a1, b1, n1, c0, c1, st1, sp1, sr1⟩ := at0 m hlt'
          clear at0 hv0
          go_wp2_with fail
          refine (step_any p1 r1 n 4 0 0 0 0 st1 _ sp1 sr1 n1).mono ?_
          rintro e w4 ⟨he, st4, hB4⟩
          subst he
          have hP4 := hPl'.step m1 hB4
          have k4 : New w w4 := hnl.step hB4.1 (by simp; omega)
          obtain ⟨g0, cap0, hv0, _, _, _, at0⟩ := hP4.at
          obtain ⟨rfl, rfl⟩ : g = g0 ∧ gcap = cap0 := by simpa using hv0
          obtain ⟨p2, r2, m2, a2, b2, n2, c0', c1', st2, sp2, sr2⟩ := at0 m hlt'
          clear at0 hv0 c0 c1 hB4
          go_wp2_with fail
          refine (step_any p2 r2 n 3 0 0 0 0 st2 _ sp2 sr2 n2).mono ?_
          rintro e w5 ⟨he, st5, hB5⟩
          subst he
          have hP5 := hP4.step m2 hB5
          have k5 : New w w5 := k4.step hB5.1 (by simp; omega)
          obtain ⟨g0, cap0, hv0, _, _, _, at0⟩ := hP5.at
          obtain ⟨rfl, rfl⟩ : g = g0 ∧ gcap = cap0 := by simpa using hv0
          obtain ⟨p3, r3, m3, a3, b3, n3, c0, c1, st3, sp3, sr3⟩ := at0 m hlt'
          clear at0 hv0 c0' c1' hB5
          go_wp2_with fail
          refine (step_any p3 r3 n 1 0 0 0 0 st3 _ sp3 sr3 n3).mono ?_
          rintro e w6 ⟨he, st6, hB6⟩
          subst he
          have hP6 := hP5.step m3 hB6
          have k6 : New w w6 := k5.step hB6.1 (by simp; omega)
          clear hB6
          go_wp2_with fail
          go_roundw
          case rel => exact ⟨m + 1, by omega, by go_num, k6, hP6⟩
          case measure => simp [intOf]; omega
        · go_wp2
          go_ret
          exact ⟨rfl, hnl⟩

end Go.Proofs.Ytjjaidhmpddkpaa
