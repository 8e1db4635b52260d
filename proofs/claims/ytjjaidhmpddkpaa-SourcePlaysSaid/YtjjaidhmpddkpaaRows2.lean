/- Words on rows that a call owns. -/
import Derived.Test.YtjjaidhmpddkpaaMem
import Derived.Laws.AppendOwn
namespace Go.Proofs.Ytjjaidhmpddkpaa
open Go.RowKit

/-- A cell of another block, behind two stores into one. -/
theorem cell_kept_set2 {w : World} {b o t i j : Nat} {v x y : Value} (hb : b ≠ t) (hc : w.cell? ⟨b, o, none⟩ = some v) : ((w.setCell ⟨t, i, none⟩ x).setCell ⟨t, j, none⟩ y).cell? ⟨b, o, none⟩ = some v :=
  cell_kept_upd (S := [t]) (((Upd.refl [t] w).setCell ⟨t, i, none⟩ x (Or.inl (by simp))).setCell ⟨t, j, none⟩ y (Or.inl (by simp))) (by simpa using hb) hc
theorem owns_kept {S : List Nat} {w w' : World} {B : Nat} {e : TypeId} {size : Nat} {v : Value} {n : Nat} {xs : List Value} (h : w.ownsRow B e size v n xs) (k : Upd S w w') (hS : ∀ g, v.ownBlock = some g → g ∉ S) : w'.ownsRow B e size v n xs := by
  obtain ⟨h1, h2⟩ := h
  refine ⟨h1, ?_⟩
  rcases h2 with h2 | ⟨g, cap, cur, hv, hg, hh, r⟩
  · exact Or.inl h2
  · subst hv
    exact Or.inr ⟨g, cap, cur, rfl, hg, (k.block g (lt_of_block hh) (hS g rfl)).trans hh, r⟩
theorem owns_at {w : World} {B : Nat} {e : TypeId} {size : Nat} {v : Value} {n : Nat} {xs : List Value} (h : w.ownsRow B e size v n xs) (hn : 0 < n) :
    ∃ g cap, v = .slice (some ⟨g, 0, none⟩) n cap ∧ B ≤ g ∧ n ≤ cap ∧ cap ≤ maxLen ∧ ∀ (j : Nat) (u : Value), xs[j]? = some u → w.cell? ⟨g, j, none⟩ = some u := by
  obtain ⟨h1, h2⟩ := h
  rcases h2 with ⟨_, h2⟩ | ⟨g, cap, cur, hv, hg, hh, hc, hm, hs, ht⟩
  · omega
  · refine ⟨g, cap, hv, hg, hc, hm, fun j u hj => ?_⟩
    subst ht
    have hj' := List.getElem?_take (l := cur.toList) (i := n * size) (j := j)
    rw [hj] at hj'
    have hlt : j < n * size := by
      rcases Nat.lt_or_ge j (n * size) with h | h
      · exact h
      · rw [if_neg (by omega)] at hj'; cases hj'
    rw [if_pos hlt] at hj'
    simp only [World.cell?, hh]
    simpa using hj'.symm
/-- The block of a row is none of another type. -/
theorem owns_ne {w : World} {B : Nat} {e t : TypeId} {size : Nat} {v : Value} {n b : Nat} {xs vs : List Value} (h : w.ownsRow B e size v n xs) (hb : Blk w b vs t) (ht : e ≠ t) : ∀ g, v.ownBlock = some g → g ∉ [b] := by
  intro g hg
  obtain ⟨_, h2⟩ := h
  rcases h2 with ⟨h2, _⟩ | ⟨g', cap, cur, hv, _, hh, _⟩
  · subst h2; cases hg
  · subst hv
    simp only [Value.ownBlock, Option.some.injEq] at hg
    subst hg
    simp only [List.mem_singleton]
    rintro rfl
    unfold Blk at hb
    rw [hh] at hb
    simp only [Option.some.injEq, Obj.cells.injEq] at hb
    exact ht hb.2.1
theorem Upd.grown {w w' : World} {v : Value} {g : Nat} (h : w.grownBy w' v.ownBlock) (hv : v.ownBlock = some g) : Upd [g] w w' :=
  ⟨h.os, h.tape, h.output, h.size, fun k hk hs => h.block k hk (by rw [hv]; simpa using hs)⟩
/-- A row that has just been made whole. -/
theorem owns_new {w : World} {B n : Nat} {e : TypeId} {size : Nat} {cs : Array Value} {k : Nat} (h : cs.size = n * size) (hB : B ≤ w.heap.size) (hn : n ≤ maxLen) (hk : k = w.heap.size) :
    (w.alloc (.cells cs e)).ownsRow B e size (.slice (some ⟨k, 0, none⟩) n n) n cs.toList := by
  subst hk
  refine ⟨by simpa using h, Or.inr ⟨w.heap.size, n, cs, rfl, hB, ?_, Nat.le_refl _, hn, h, ?_⟩⟩
  · show (w.heap.push _)[w.heap.size]? = _
    simp
  · rw [List.take_of_length_le (by simp; omega)]
end Go.Proofs.Ytjjaidhmpddkpaa
