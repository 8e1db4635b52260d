/- Words on memory: what a call has left as it was. -/
import Derived.WalkKit
import Derived.Deep.Draws
import Derived.Laws.NewBlocks
namespace Go.Proofs.Ytjjaidhmpddkpaa
open Go.RowKit

/-- Of the blocks that were there, those that are not listed are as they were; the streams are as they were; no block has gone. -/
structure Upd (S : List Nat) (w w' : World) : Prop where
  os : w'.os = w.os
  tape : w'.tape = w.tape
  output : w'.output = w.output
  size : w.heap.size ≤ w'.heap.size
  block : ∀ k, k < w.heap.size → k ∉ S → w'.heap[k]? = w.heap[k]?

/-- Nothing that was there has turned. -/
abbrev New (w w' : World) : Prop := Upd [] w w'

theorem Upd.refl (S : List Nat) (w : World) : Upd S w w := ⟨rfl, rfl, rfl, Nat.le_refl _, fun _ _ _ => rfl⟩
theorem Upd.step {S T : List Nat} {a b c : World} (h : Upd S a b) (k : Upd T b c) (hT : ∀ i ∈ T, i ∈ S ∨ a.heap.size ≤ i) : Upd S a c :=
  ⟨k.os.trans h.os, k.tape.trans h.tape, k.output.trans h.output, Nat.le_trans h.size k.size, fun i hi hs =>
    (k.block i (Nat.lt_of_lt_of_le hi h.size) (fun hm => (hT i hm).elim hs (fun g => absurd hi (by omega)))).trans (h.block i hi hs)⟩
theorem Upd.new {S : List Nat} {a b c : World} (h : Upd S a b) (k : New b c) : Upd S a c := h.step k (by simp)
theorem Upd.weaken {S T : List Nat} {a b : World} (h : Upd S a b) (hT : ∀ i ∈ S, i ∈ T ∨ a.heap.size ≤ i) : Upd T a b := (Upd.refl T a).step h hT
theorem Upd.drew {S : List Nat} {a w : World} (h : Upd S a w) : Upd S a w.drew := ⟨h.os, h.tape, h.output, h.size, h.block⟩
theorem Upd.alloc {S : List Nat} {a w : World} (h : Upd S a w) (o : Obj) : Upd S a (w.alloc o) :=
  ⟨h.os, h.tape, h.output, by have := h.size; simp; omega, fun k hk hs => (Below.heap_alloc _ _ _ (by have := h.size; omega)).trans (h.block k hk hs)⟩
theorem Upd.setCell {S : List Nat} {a w : World} (h : Upd S a w) (p : Addr) (u : Value) (hp : p.block ∈ S ∨ a.heap.size ≤ p.block) : Upd S a (w.setCell p u) :=
  ⟨h.os, h.tape, h.output, by have := h.size; simpa [World.setCell] using this, fun k hk hs => (Below.heap_setCell _ _ _ _ (by
    rintro rfl
    rcases hp with hp | hp
    · exact hs hp
    · omega)).trans (h.block k hk hs)⟩
theorem Upd.below {S : List Nat} {a w : World} (h : Below a.heap.size a w) : Upd S a w := ⟨h.os, h.tape, h.output, h.size, fun k hk _ => h.block k hk⟩
theorem New.toBelow {a w : World} (h : New a w) : Below a.heap.size a w := ⟨h.os, h.tape, h.output, h.size, fun k hk => h.block k hk (by simp)⟩

/-- A block of cells that may all be written. -/
def Blk (w : World) (b : Nat) (vs : List Value) (t : TypeId) : Prop := w.heap[b]? = some (.cells vs.toArray t (0, 0))
theorem Blk.lt {w : World} {b : Nat} {vs : List Value} {t : TypeId} (h : Blk w b vs t) : b < w.heap.size := lt_of_block h
theorem Blk.cell {w : World} {b : Nat} {vs : List Value} {t : TypeId} (h : Blk w b vs t) (i : Nat) : w.cell? ⟨b, i, none⟩ = vs[i]? := by
  unfold Blk at h; simp [World.cell?, h]
theorem Blk.free {w : World} {b : Nat} {vs : List Value} {t : TypeId} (h : Blk w b vs t) (i : Nat) : w.frozen? ⟨b, i, none⟩ = false := by
  unfold Blk at h; simp [World.frozen?, h]
theorem Blk.kept {S : List Nat} {w w' : World} {b : Nat} {vs : List Value} {t : TypeId} (h : Blk w b vs t) (k : Upd S w w') (hS : b ∉ S) : Blk w' b vs t :=
  (k.block b h.lt hS).trans h
theorem Blk.set {w : World} {b : Nat} {vs : List Value} {t : TypeId} (h : Blk w b vs t) (i : Nat) (u : Value) : Blk (w.setCell ⟨b, i, none⟩ u) b (vs.set i u) t := by
  have hlt := h.lt
  unfold Blk at *
  have h' : w.heap[b] = .cells vs.toArray t (0, 0) := by simpa [Array.getElem?_eq_getElem hlt] using h
  show (w.heap.modify b _)[b]? = _
  rw [Array.getElem?_eq_getElem (by simpa using hlt), Array.getElem_modify_self, h']
  simp
theorem Blk.set_other {w : World} {b : Nat} {vs : List Value} {t : TypeId} (h : Blk w b vs t) (p : Addr) (u : Value) (hp : b ≠ p.block) : Blk (w.setCell p u) b vs t :=
  (Below.heap_setCell w p u b hp).trans h
theorem Blk.alloc {w : World} {b : Nat} {vs : List Value} {t : TypeId} (h : Blk w b vs t) (o : Obj) : Blk (w.alloc o) b vs t :=
  (Below.heap_alloc w o b h.lt).trans h
theorem Blk.drew {w : World} {b : Nat} {vs : List Value} {t : TypeId} (h : Blk w b vs t) : Blk w.drew b vs t := h
theorem Blk.new (w : World) (vs : Array Value) (t : TypeId) : Blk (w.alloc (.cells vs t)) w.heap.size vs.toList t := by
  unfold Blk
  show (w.heap.push _)[w.heap.size]? = _
  simp
theorem Upd.drewN {S : List Nat} {a w : World} (h : Upd S a w) (n : Nat) : Upd S a (w.drewN n) := ⟨h.os, h.tape, h.output, h.size, h.block⟩
theorem Upd.ofDrewN {S : List Nat} {a w : World} {n : Nat} (h : Upd S (a.drewN n) w) : Upd S a w := ⟨h.os, h.tape, h.output, h.size, h.block⟩
theorem Upd.ofDrew {S : List Nat} {a w : World} (h : Upd S a.drew w) : Upd S a w := ⟨h.os, h.tape, h.output, h.size, h.block⟩
theorem Blk.drewN {w : World} {b : Nat} {vs : List Value} {t : TypeId} (h : Blk w b vs t) (n : Nat) : Blk (w.drewN n) b vs t := h
theorem Blk.newAt {w : World} {vs : Array Value} {t : TypeId} {n : Nat} (h : n = w.heap.size) : Blk (w.alloc (.cells vs t)) n vs.toList t := by subst h; exact Blk.new w vs t
theorem addr_add (b o n : Nat) : (⟨b, o, none⟩ : Addr).add n = ⟨b, o + n, none⟩ := by
  unfold Addr.add
  split
  · subst_vars; rfl
  · rfl
theorem lt_of_cell {w : World} {b o : Nat} {v : Value} (h : w.cell? ⟨b, o, none⟩ = some v) : b < w.heap.size := by
  rcases Nat.lt_or_ge b w.heap.size with h' | h'
  · exact h'
  · simp [World.cell?, Array.getElem?_eq_none h'] at h
/-- What the walk wants to know behind a call that turned nothing that was there. -/
theorem Upd.facts {w w1 : World} (h : New w w1) :
    (∀ b o, b < w.heap.size → w1.cell? ⟨b, o, none⟩ = w.cell? ⟨b, o, none⟩) ∧ (∀ b o, b < w.heap.size → w1.frozen? ⟨b, o, none⟩ = w.frozen? ⟨b, o, none⟩) :=
  ⟨fun b o hb => h.toBelow.cell (p := ⟨b, o, none⟩) hb, fun b o hb => h.toBelow.frozen (p := ⟨b, o, none⟩) hb⟩
/-- A cell that holds a value holds it behind a call that turns nothing. -/
theorem cell_kept {w w1 : World} {b o : Nat} {v : Value} (h : New w w1) (hc : w.cell? ⟨b, o, none⟩ = some v) : w1.cell? ⟨b, o, none⟩ = some v :=
  (h.facts.1 b o (lt_of_cell hc)).trans hc
/-- A cell of an old block, out of the world with a block more. -/
theorem cell_unalloc {w : World} {x : Obj} {b o : Nat} {v : Value} (hc : (w.alloc x).cell? ⟨b, o, none⟩ = some v) (hb : b < w.heap.size) : w.cell? ⟨b, o, none⟩ = some v :=
  (World.cell?_alloc_past (w := w) x b o hb).symm.trans hc
/-- A cell outside the listed blocks likewise. -/
theorem cell_kept_upd {S : List Nat} {w w1 : World} {b o : Nat} {v : Value} (h : Upd S w w1) (hS : b ∉ S) (hc : w.cell? ⟨b, o, none⟩ = some v) : w1.cell? ⟨b, o, none⟩ = some v :=
  (World.cell?_of_block (w := w) (h.block b (lt_of_cell hc) hS)).trans hc
/-- The cells of a block of three, and that they may be written. -/
theorem Blk.three {w : World} {b : Nat} {x y z : Value} {t : TypeId} (h : Blk w b [x, y, z] t) :
    w.cell? ⟨b, 0, none⟩ = some x ∧ w.cell? ⟨b, 1, none⟩ = some y ∧ w.cell? ⟨b, 2, none⟩ = some z ∧ w.frozen? ⟨b, 0, none⟩ = false ∧ w.frozen? ⟨b, 1, none⟩ = false ∧ w.frozen? ⟨b, 2, none⟩ = false :=
  ⟨h.cell 0, h.cell 1, h.cell 2, h.free 0, h.free 1, h.free 2⟩
theorem Blk.two {w : World} {b : Nat} {x y : Value} {t : TypeId} (h : Blk w b [x, y] t) :
    w.cell? ⟨b, 0, none⟩ = some x ∧ w.cell? ⟨b, 1, none⟩ = some y ∧ w.frozen? ⟨b, 0, none⟩ = false ∧ w.frozen? ⟨b, 1, none⟩ = false :=
  ⟨h.cell 0, h.cell 1, h.free 0, h.free 1⟩
theorem Blk.one {w : World} {b : Nat} {x : Value} {t : TypeId} (h : Blk w b [x] t) :
    w.cell? ⟨b, 0, none⟩ = some x ∧ w.frozen? ⟨b, 0, none⟩ = false :=
  ⟨h.cell 0, h.free 0⟩
end Go.Proofs.Ytjjaidhmpddkpaa
