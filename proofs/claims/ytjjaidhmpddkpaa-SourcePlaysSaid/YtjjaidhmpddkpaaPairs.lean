/- The inputs of SourcePlays, by two: what holds of all of them round by round. -/
import Derived.Test.YtjjaidhmpddkpaaRows2
import Derived.Test.YtjjaidhmpddkpaaStep
namespace Go.Proofs.Ytjjaidhmpddkpaa
open Go.RowKit

/-- The cells of a list of pairs. -/
def pairCells (P : List (Nat × Nat)) : List Value := P.flatMap fun e => [.pointer (some ⟨e.1, 0, none⟩), .pointer (some ⟨e.2, 0, none⟩)]
theorem pairCells_at : ∀ (P : List (Nat × Nat)) (j : Nat) (e : Nat × Nat), P[j]? = some e → (pairCells P)[2 * j]? = some (.pointer (some ⟨e.1, 0, none⟩)) ∧ (pairCells P)[2 * j + 1]? = some (.pointer (some ⟨e.2, 0, none⟩))
  | [], _, _, h => by simp at h
  | x :: P, 0, e, h => by
    simp at h; subst h
    simp [pairCells]
  | x :: P, j + 1, e, h => by
    obtain ⟨h1, h2⟩ := pairCells_at P j e (by simpa using h)
    unfold pairCells at *
    simp only [List.flatMap_cons, List.cons_append, List.nil_append]
    constructor
    · show (_ :: _ :: _)[2 * j + 1 + 1]? = _
      simpa using h1
    · show (_ :: _ :: _)[2 * j + 1 + 1 + 1]? = _
      simpa using h2

/-- All pairs stand alike, in blocks of their own; the list of them is the call's own. -/
def Pairs (B : Nat) (n : Int) (v : Value) (P : List (Nat × Nat)) (w : World) : Prop :=
  w.ownsRow B 32 2 v P.length (pairCells P) ∧ 0 < P.length ∧ P.length ≤ 4 ∧
  (∀ e ∈ P, B ≤ e.1 ∧ B ≤ e.2 ∧ e.1 ≠ e.2 ∧ ∃ st, Src w e.1 n st ∧ RSrc w e.2 n st) ∧
  (∀ e ∈ P, ∀ f ∈ P, e = f ∨ (e.1 ≠ f.1 ∧ e.1 ≠ f.2 ∧ e.2 ≠ f.1 ∧ e.2 ≠ f.2))

theorem RSrc.blk {w : World} {r : Nat} {n : Int} {st : Option (Int × Int × Int)} (h : RSrc w r n st) : ∃ vs, Blk w r vs 57 := by
  cases st with
  | some t => exact ⟨_, h⟩
  | none => obtain ⟨_, _, _, h⟩ := h; exact ⟨_, h⟩

theorem Pairs.kept {B : Nat} {n : Int} {v : Value} {P : List (Nat × Nat)} {w w' : World} (h : Pairs B n v P w) (k : New w w') : Pairs B n v P w' := by
  obtain ⟨h1, h2, h3, h4, h5⟩ := h
  refine ⟨owns_kept h1 k (by simp), h2, h3, fun e he => ?_, h5⟩
  obtain ⟨a, b, c, st, s, r⟩ := h4 e he
  exact ⟨a, b, c, st, s.kept k (by simp), r.kept k (by simp)⟩

/-- What one needs of the pair number j. -/
theorem Pairs.at {B : Nat} {n : Int} {v : Value} {P : List (Nat × Nat)} {w : World} (h : Pairs B n v P w) : ∃ g cap, v = .slice (some ⟨g, 0, none⟩) P.length cap ∧ B ≤ g ∧ cap ≤ maxLen ∧ P.length ≤ cap ∧
    ∀ j, j < P.length → ∃ p r, (p, r) ∈ P ∧ B ≤ p ∧ B ≤ r ∧ p ≠ r ∧ w.cell? ⟨g, j * 2, none⟩ = some (.pointer (some ⟨p, 0, none⟩)) ∧ w.cell? ⟨g, j * 2 + 1, none⟩ = some (.pointer (some ⟨r, 0, none⟩)) ∧ ∃ st, Src w p n st ∧ RSrc w r n st := by
  obtain ⟨h1, h2, _, h4, _⟩ := h
  obtain ⟨g, cap, hv, hg, hc, hm, hat⟩ := owns_at h1 h2
  refine ⟨g, cap, hv, hg, hm, hc, fun j hj => ?_⟩
  have hj' : P[j]? = some P[j] := List.getElem?_eq_getElem hj
  obtain ⟨c1, c2⟩ := pairCells_at P j _ hj'
  have hmem : P[j] ∈ P := List.getElem_mem hj
  obtain ⟨a, b, c, st, s, r⟩ := h4 _ hmem
  exact ⟨P[j].1, P[j].2, hmem, a, b, c, by rw [Nat.mul_comm]; exact hat _ _ c1, by rw [Nat.mul_comm]; exact hat _ _ c2, st, s, r⟩

/-- A step at one pair. -/
theorem Pairs.step {B : Nat} {n : Int} {v : Value} {P : List (Nat × Nat)} {w w' : World} {p r : Nat} {st : Option (Int × Int × Int)} (h : Pairs B n v P w) (hm : (p, r) ∈ P) (k : Both [p, r] w p r n st st w') : Pairs B n v P w' := by
  obtain ⟨h1, h2, h3, h4, h5⟩ := h
  obtain ⟨k1, k2, k3⟩ := k
  refine ⟨owns_kept h1 k1 (fun g hg => ?_), h2, h3, fun e he => ?_, h5⟩
  · obtain ⟨_, _, _, st', s, r'⟩ := h4 _ hm
    obtain ⟨vs, hr⟩ := r'.blk
    have a1 := owns_ne h1 s (by decide) g hg
    have a2 := owns_ne h1 hr (by decide) g hg
    simp only [List.mem_cons, List.not_mem_nil, or_false] at *
    omega
  · obtain ⟨a, b, c, st', s, r'⟩ := h4 e he
    refine ⟨a, b, c, ?_⟩
    rcases h5 e he _ hm with rfl | ⟨n1, n2, n3, n4⟩
    · exact ⟨st, k2, k3⟩
    · exact ⟨st', s.kept k1 (by simp; omega), r'.kept k1 (by simp; omega)⟩

/-- One more pair, in new blocks. -/
theorem Pairs.more {B : Nat} {n : Int} {v v' : Value} {P : List (Nat × Nat)} {w w' : World} {p r : Nat} {st : Option (Int × Int × Int)} (h : Pairs B n v P w) (hl : P.length < 4) (hp : Src w p n st) (hr : RSrc w r n st) (hpr : p ≠ r)
    (hB : B ≤ p ∧ B ≤ r) (hf : ∀ e ∈ P, e.1 ≠ p ∧ e.1 ≠ r ∧ e.2 ≠ p ∧ e.2 ≠ r) (ho : w'.ownsRow B 32 2 v' (P.length + 1) (pairCells P ++ [.pointer (some ⟨p, 0, none⟩), .pointer (some ⟨r, 0, none⟩)]))
    (hg : w.grownBy w' v.ownBlock) : Pairs B n v' (P ++ [(p, r)]) w' := by
  obtain ⟨h1, h2, h3, h4, h5⟩ := h
  obtain ⟨g, cap, hv, _⟩ := owns_at h1 h2
  have hvb : v.ownBlock = some g := by rw [hv]; rfl
  have k := Upd.grown hg hvb
  have keepS : ∀ {q : Nat} {st : Option (Int × Int × Int)}, Src w q n st → Src w' q n st := fun hq => hq.kept k (fun hm => by
    have := owns_ne h1 hq (by decide) g hvb
    simp only [List.mem_singleton] at *
    omega)
  have keepR : ∀ {q : Nat} {st : Option (Int × Int × Int)}, RSrc w q n st → RSrc w' q n st := fun hq => hq.kept k (fun hm => by
    obtain ⟨vs, hb⟩ := hq.blk
    have := owns_ne h1 hb (by decide) g hvb
    simp only [List.mem_singleton] at *
    omega)
  refine ⟨by simpa [pairCells] using ho, by simp, by simp; omega, fun e he => ?_, fun e he f hf' => ?_⟩
  · rcases List.mem_append.1 he with he | he
    · obtain ⟨a, b, c, st', s, r'⟩ := h4 e he
      exact ⟨a, b, c, st', keepS s, keepR r'⟩
    · simp at he; subst he
      exact ⟨hB.1, hB.2, hpr, st, keepS hp, keepR hr⟩
  · rcases List.mem_append.1 he with he | he <;> rcases List.mem_append.1 hf' with hf' | hf'
    · exact h5 e he f hf'
    · simp at hf'; subst hf'
      obtain ⟨a, b, c, d⟩ := hf e he
      exact Or.inr ⟨a, b, c, d⟩
    · simp at he; subst he
      obtain ⟨a, b, c, d⟩ := hf f hf'
      exact Or.inr ⟨Ne.symm a, Ne.symm c, Ne.symm b, Ne.symm d⟩
    · simp at he hf'; subst he; subst hf'; exact Or.inl rfl

theorem infoPair : (Try.prog.info? 32).map (fun i => (i.zero, i.size, i.bytes)) = some (some (.agg #[.pointer none, .pointer none]), 2, 16) := by kernel_rfl

/-- The append of one more pair. -/
theorem wp_append_pair {ops : Array Oper} {rest : List Oper} {o : Oper} {a : Act} {w : World} {Q : Exit → Act → World → Prop} (hgd : o.guard = none) (s x : Operand)
    (ho : o.op = .call { callee := .builtin .append, args := #[s, x], argTypes := #[33, 33] }) (B : Nat) (n : Int) (v : Value) (P : List (Nat × Nat)) (hs : a.eval s = v) (b : Nat) (p r : Nat) (st : Option (Int × Int × Int))
    (hx : a.eval x = .slice (some ⟨b, 0, none⟩) 1 1) (hP : Pairs B n v P w) (hl : P.length < 4) (hc : w.cell? ⟨b, 0, none⟩ = some (.pointer (some ⟨p, 0, none⟩)) ∧ w.cell? ⟨b, 1, none⟩ = some (.pointer (some ⟨r, 0, none⟩)))
    (hp : Src w p n st) (hr : RSrc w r n st) (hpr : p ≠ r) (hB : B ≤ p ∧ B ≤ r) (hf : ∀ e ∈ P, e.1 ≠ p ∧ e.1 ≠ r ∧ e.2 ≠ p ∧ e.2 ≠ r)
    (h : ∀ v' w', Pairs B n v' (P ++ [(p, r)]) w' → (∃ g, B ≤ g ∧ Upd [g] w w') → wpList Try.prog ops Q rest (a.put o.dst v') w') : wpList Try.prog ops Q (o :: rest) a w := by
  obtain ⟨i0, hi0, hi1, hi2, hi3⟩ := info_parts infoPair
  obtain ⟨g, cap, hv, hg, _⟩ := hP.at
  have hBs : B ≤ w.heap.size := by have := hp.lt; omega
  refine wpList_append_own _ hgd s x 33 ho B 32 i0 (.agg #[.pointer none, .pointer none]) 2 16 Try.underlying33 hi0 hi1 hi2 hi3 rfl (by decide) v P.length (pairCells P) hs hP.1 ⟨b, 0, none⟩ 1 1
    [.pointer (some ⟨p, 0, none⟩), .pointer (some ⟨r, 0, none⟩)] hx rfl ?_ (by simp [Value.oneCell']) (by unfold maxLen; omega) (by omega) hBs ?_
  · intro j u hj
    rw [addr_add]
    match j, hj with
    | 0, hj => simp at hj; subst hj; simpa using hc.1
    | 1, hj => simp at hj; subst hj; simpa using hc.2
    | j + 2, hj => simp at hj
  · intro v' w' ho' hg' _
    exact h v' w' (hP.more hl hp hr hpr hB hf ho' hg') ⟨g, hg, Upd.grown hg' (by rw [hv]; rfl)⟩

/-- What a step leaves. -/
def Stepped (p r : Nat) (n : Int) (w : World) (e : Ending) (w' : World) : Prop := e = .returned (.bool true) ∧ ∃ st, Both [p, r] w p r n st st w'

theorem step_any (p r : Nat) (n kind on x y z : Int) (st : Option (Int × Int × Int)) (w : World) (hp : Src w p n st) (hr : RSrc w r n st) (hpr : p ≠ r) :
    Calls Try.prog 10 #[.agg #[.pointer (some ⟨p, 0, none⟩), .pointer (some ⟨r, 0, none⟩)], .agg #[.int .i64 kind, .int .i64 on, .int .u64 x, .int .u64 y, .int .u64 z]] w (Stepped p r n w) := by
  have new : ∀ {w' : World}, New w w' → Both [p, r] w p r n st st w' := fun h => ⟨h.weaken (by simp), hp.kept h (by simp), hr.kept h (by simp)⟩
  by_cases h1 : kind = 1
  · subst h1; exact (step_send p r n on x y z st w hp hr).mono fun e w' h => ⟨h.1, st, new h.2⟩
  by_cases h2 : kind = 2
  · subst h2; exact (step_adv p r n on x y z st w hp hr hpr).mono fun e w' h => ⟨h.1, _, h.2⟩
  by_cases h3 : kind = 3
  · subst h3; exact (step_close p r n on x y z st w hp hr hpr).mono fun e w' h => ⟨h.1, _, h.2⟩
  by_cases h4 : kind = 4
  · subst h4; exact (step_epoch p r n on x y z st w hp hr).mono fun e w' h => ⟨h.1, st, new h.2⟩
  exact (step_other p r kind on x y z h1 h2 h3 h4 w).mono fun e w' h => ⟨h.1, st, new h.2⟩
end Go.Proofs.Ytjjaidhmpddkpaa
