/- SourcePlays: inputs of any arity and their copies answer every call as the document's do, in whatever order they are asked; proved of every arity and every script. -/
import Derived.Test.YtjjaidhmpddkpaaRows
import Derived.Test.YtjjaidhmpddkpaaPlays
import Derived.ProofKit
import Derived.Deep.Slices
import Derived.Deep.Fields
import Derived.ChangeSame
namespace Go.Proofs.Ytjjaidhmpddkpaa
open Go.ChangeShapes Go.WideShapes Go.ChangeAt Go.RowKit Go.Deep

theorem Try.own : ownKnob Try.prog.godebug = none := by kernel_rfl
theorem Try.laidOut : laidOutB Try.prog = true := by kernel_rfl
theorem cellsTime : Try.prog.cellsOf 36 = 3 := by kernel_rfl
theorem cellsU64 : Try.prog.cellsOf 34 = 1 := by kernel_rfl
theorem cellsInt : Try.prog.cellsOf 3 = 1 := by kernel_rfl
theorem cellsOp : Try.prog.cellsOf 38 = 5 := by kernel_rfl

/-- The three cells of a time that reads. -/
theorem time_cells {H : Type} {enc : TypeId × Value → H} {w : World} {base : Nat} {spare : Nat → Bool} {held : Bool} {n : Nat} {cs : List Value} {x : DataW H × List MemPlace}
    (h : DataW.trod enc Try.prog w base spare held n 36 cs = some x) : ∃ a b c : Int, cs = [.int .u64 a, .int .u64 b, .int .u64 c] := by
  obtain ⟨ys, m, _, _, hlen, hyl, hf⟩ := DataW.trod_struct Try.underlying36 h
  rw [cellsTime] at hlen
  match cs, hlen, ys, hyl with
  | [u, v, z], _, [y0, y1, y2], _ =>
    have h0 := hf 0 _ rfl
    have h1 := hf 1 _ rfl
    have h2 := hf 2 _ rfl
    simp [cellsU64] at h0 h1 h2
    obtain ⟨a, e0, _, _⟩ := DataW.trod_int Try.underlying34 h0
    obtain ⟨b, e1, _, _⟩ := DataW.trod_int Try.underlying34 h1
    obtain ⟨c, e2, _, _⟩ := DataW.trod_int Try.underlying34 h2
    simp only [List.cons.injEq, and_true] at e0 e1 e2
    exact ⟨a, b, c, by rw [e0, e1, e2]⟩

/-- The five cells of a call that reads. -/
theorem op_cells {H : Type} {enc : TypeId × Value → H} {w : World} {base : Nat} {spare : Nat → Bool} {held : Bool} {n : Nat} {cs : List Value} {x : DataW H × List MemPlace}
    (h : DataW.trod enc Try.prog w base spare held n 38 cs = some x) : ∃ k o a b c : Int, cs = [.int .i64 k, .int .i64 o, .int .u64 a, .int .u64 b, .int .u64 c] := by
  obtain ⟨ys, m, _, _, hlen, hyl, hf⟩ := DataW.trod_struct Try.underlying38 h
  rw [cellsOp] at hlen
  match cs, hlen, ys, hyl with
  | [u, v, z0, z1, z2], _, [y0, y1, y2], _ =>
    have h0 := hf 0 _ rfl
    have h1 := hf 1 _ rfl
    have h2 := hf 2 _ rfl
    simp [cellsInt, cellsTime] at h0 h1 h2
    obtain ⟨k, e0, _, _⟩ := DataW.trod_int Try.underlying3 h0
    obtain ⟨o, e1, _, _⟩ := DataW.trod_int Try.underlying3 h1
    obtain ⟨a, b, c, e2⟩ := time_cells h2
    simp only [List.cons.injEq, and_true] at e0 e1 e2
    exact ⟨k, o, a, b, c, by rw [e0, e1, e2.1, e2.2.1, e2.2.2]⟩

set_option maxRecDepth 100000 in
theorem plays_lifted (os : Os) (started : os.Started) (H : Type) (enc : TypeId × Value → H) :
    ReturnsInHanded {} Try.checked os 3 .any (Rows.sourcePlaysSpec.pre6 enc Try.prog Try.f3 Rows.sourcePlaysRow.domain false) (Rows.sourcePlaysSpec.post enc Try.prog Try.f3 false true false false) := by
  refine returnsInHanded_of_change (C := Try.checked) Try.own started (by kernel_rfl) Try.func3
    (ChangeSpec.witness6 (enc := enc) (C := Try.checked) false ⟨#[], #[.int .i64 0, .slice none 0 0], []⟩ 8 (by kernel_rfl) (by kernel_rfl) (by kernel_rfl) (by kernel_rfl)) ?_
  intro W base args ds gs before hval0 hW hcnd _
  have hval : ∀ (j : Nat) t v, Try.f3.params[j]? = some t → args[j]? = some v → Value.okWide Try.prog W .any base t v := hval0
  have hW' := hW
  obtain ⟨p, q, hA0, hV, rfl, _, _⟩ := hW
  have hA : DataW.TrodAll enc Try.prog W 0 (fun _ => true) true Try.f3.params.toList args.toList ds p := hA0
  rw [Try.params3] at hA hval
  obtain ⟨v0, v1, d0, d1, p0, p1, rfl, rfl, rfl, h0, h1⟩ := trodAll_two hA
  obtain ⟨rfl, rfl⟩ := trodVars_none hV
  obtain ⟨n, rfl, rfl, rfl, wn⟩ := open_int Try.underlying3 (hval 0 3 v0 rfl rfl) h0
  have h1k := h1
  obtain ⟨fuel, hf⟩ := h1
  clear hA0 hval0
  simp only [List.append_nil] at hW'
  have hlt : ∀ x ∈ p1, x.block < W.heap.size := fun x hx => by simpa using hW'.lt x (by simpa using hx)
  have hargs : ∀ (W' : World), Below W.heap.size W W' → DataW.Trod enc Try.prog W' 0 (fun b => decide (b < W.heap.size)) true 22 v1 d1 p1 :=
    fun W' hn => Below.trod Try.laidOut (by kernel_rfl) (of_decide_eq_true (by kernel_rfl)) h1k hn hlt
  obtain ⟨a0, len, cap, rfl⟩ := okWide_slice Try.underlying22 (hval 1 22 v1 rfl rfl)
  have done : Calls Try.prog 3 #[.int .i64 n, .slice a0 len cap] W fun e w' => e = .returned (.bool true) ∧ New W w' := by
    by_cases hn : n < 1 ∨ 3 < n
    · exact plays_bad n _ (by unfold fitsN; rw [if_pos (by omega)]) hn W
    have hF : fitsN 0 0 n = 0 := by unfold fitsN; rw [if_neg (by omega)]
    rcases open_slice Try.underlying22 hf with ⟨hcs, hx⟩ | ⟨a, len', cap', m, fu, D, Pl, hcs, _, hl, hm, hmm, hx, hi⟩
    · simp [Value.cells] at hcs
      obtain ⟨rfl, rfl, rfl⟩ := hcs
      exact plays_any none 0 0 0 0 n hF (by omega) (by omega) (fun _ => 0) (fun _ => 0) (fun _ => 0) (fun _ => 0) (fun _ => 0) W (fun h => absurd h (by omega)) (by unfold maxLen; omega) (fun k h => absurd h (by omega)) (fun k h => absurd h (by omega)) (fun k h => absurd h (by omega)) (fun k h => absurd h (by omega)) (fun k h => absurd h (by omega))
    · simp [Value.cells] at hcs
      obtain ⟨rfl, rfl, rfl⟩ := hcs
      rw [cellsOp] at hi hx
      simp only [if_true] at hmm
      subst hmm
      have hcells : ∀ k, ∃ x : Int × Int × Int × Int × Int, k < m → W.cell? (a.add (k * 5)) = some (.int .i64 x.1) ∧ W.cell? ((a.add (k * 5)).add 1) = some (.int .i64 x.2.1) ∧ W.cell? ((a.add (k * 5)).add 2) = some (.int .u64 x.2.2.1)
          ∧ W.cell? ((a.add (k * 5)).add 3) = some (.int .u64 x.2.2.2.1) ∧ W.cell? ((a.add (k * 5)).add 4) = some (.int .u64 x.2.2.2.2) := by
        intro k
        by_cases hk : k < m
        · obtain ⟨cs', hc, ht⟩ := hi k hk
          obtain ⟨k', o, x, y, z, rfl⟩ := op_cells ht
          obtain ⟨_, _, hat⟩ := World.cells?_some hc
          exact ⟨(k', o, x, y, z), fun _ => ⟨by simpa [Addr.add] using hat 0 (by simp), hat 1 (by simp), hat 2 (by simp), hat 3 (by simp), hat 4 (by simp)⟩⟩
        · exact ⟨(0, 0, 0, 0, 0), fun h => absurd h hk⟩
      obtain ⟨X, hX⟩ := Classical.axiomOfChoice hcells
      by_cases h0 : len = 0
      · subst h0
        exact plays_any _ 0 0 0 _ n hF (by omega) (by omega) (fun _ => 0) (fun _ => 0) (fun _ => 0) (fun _ => 0) (fun _ => 0) W (fun h => absurd h (by omega)) (by unfold maxLen; omega) (fun k h => absurd h (by omega)) (fun k h => absurd h (by omega)) (fun k h => absurd h (by omega)) (fun k h => absurd h (by omega)) (fun k h => absurd h (by omega))
      · obtain ⟨b, off, spot⟩ := a
        have hspot : spot = none := by simpa [Addr.add] using World.cell?_spot (hX 0 (by omega)).1
        subst hspot
        exact plays_any _ b off len m n hF (by omega) (by omega) (fun k => (X k).1) (fun k => (X k).2.1) (fun k => (X k).2.2.1) (fun k => (X k).2.2.2.1) (fun k => (X k).2.2.2.2) W (fun _ => rfl) (by omega)
          (fun k hk => by simpa only [addr_add] using (hX k (by omega)).1) (fun k hk => by simpa only [addr_add] using (hX k (by omega)).2.1) (fun k hk => by simpa only [addr_add] using (hX k (by omega)).2.2.1)
          (fun k hk => by simpa only [addr_add] using (hX k (by omega)).2.2.2.1) (fun k hk => by simpa only [addr_add] using (hX k (by omega)).2.2.2.2)
  refine done.mono fun e W' ⟨he, hw⟩ => ?_
  subst he
  exact ⟨_, rfl, ⟨_, _, _, [], _, [], hW', trodAll_mk1 (shut_bool Try.underlying4 true), trodAll_mk2 (shut_int Try.underlying3 wn) (hargs _ hw.toBelow), rfl, hw.toBelow.frame _, fun h => by cases h⟩⟩

theorem plays_holds : Rows.SourcePlaysSaid :=
  OpenClaim.holds_of_wide 3 Try.f3 rfl rfl rfl rfl rfl rfl rfl ⟨rfl, rfl, rfl, rfl, rfl⟩ rfl rfl rfl rfl rfl (by kernel_rfl) Try.func3 (by kernel_rfl)
    (of_decide_eq_true (by kernel_rfl)) (by unfold Func.isWrapper; first | (rw [if_pos (by decide +kernel)]; kernel_rfl) | (rw [if_neg (by decide +kernel)]; exact ⟨rfl, rfl⟩))
    (fun os started H enc _ => plays_lifted os started H enc)
end Go.Proofs.Ytjjaidhmpddkpaa
