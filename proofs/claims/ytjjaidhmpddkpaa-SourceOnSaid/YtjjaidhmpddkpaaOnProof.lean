/- SourceOn, without the document's answer: an epoch of an input never goes back, whatever is asked of it; proved of every list of times. -/
import Derived.Test.YtjjaidhmpddkpaaRows
import Derived.Test.YtjjaidhmpddkpaaOnWalk
import Derived.ProofKit
import Derived.Deep.Slices
import Derived.Deep.Fields
import Derived.ChangeSame
namespace Go.Proofs.Ytjjaidhmpddkpaa
open Go.ChangeShapes Go.WideShapes Go.ChangeAt Go.RowKit Go.Deep

theorem Try.own : ownKnob Try.prog.godebug = none := by kernel_rfl
theorem Try.laidOut : laidOutB Try.prog = true := by kernel_rfl
theorem cellsTime : Try.prog.cellsOf 36 = 3 := by kernel_rfl
theorem cellsU64 : Try.prog.cellsOf 34 = 1 := by kernel_rfl

/-- The three cells of a time that reads. -/
theorem time_cells {H : Type} {enc : TypeId × Value → H} {w : World} {base : Nat} {spare : Nat → Bool} {held : Bool} {n : Nat} {cs : List Value} {x : DataW H × List MemPlace}
    (h : DataW.trod enc Try.prog w base spare held n 36 cs = some x) : ∃ a b c : Int, cs = [.int .u64 a, .int .u64 b, .int .u64 c] := by
  obtain ⟨ys, m, _, _, hlen, hyl, hf⟩ := DataW.trod_struct Try.underlying36 h
  rw [cellsTime] at hlen
  match cs, hlen, ys, hyl with
  | [u, v, z], _, [y0, y1, y2], _ =>
    have h0 := hf 0 _ rfl
    have h1 := hf 1 _ rfl
    have h2 := hf 2 _ rfl
    simp [cellsU64] at h0 h1 h2
    obtain ⟨a, e0, _, _⟩ := DataW.trod_int Try.underlying34 h0
    obtain ⟨b, e1, _, _⟩ := DataW.trod_int Try.underlying34 h1
    obtain ⟨c, e2, _, _⟩ := DataW.trod_int Try.underlying34 h2
    simp only [List.cons.injEq, and_true] at e0 e1 e2
    exact ⟨a, b, c, by rw [e0, e1, e2]⟩

set_option maxRecDepth 100000 in
theorem on_lifted (os : Os) (started : os.Started) (H : Type) (enc : TypeId × Value → H) :
    ReturnsInHanded {} Try.checked os 4 .any (Rows.sourceOnSpec.pre6 enc Try.prog Try.f4 Rows.sourceOnRow.domain false) (Rows.sourceOnSpec.post enc Try.prog Try.f4 false true false false) := by
  refine returnsInHanded_of_change (C := Try.checked) Try.own started (by kernel_rfl) Try.func4
    (ChangeSpec.witness6 (enc := enc) (C := Try.checked) false ⟨#[], #[.slice none 0 0], []⟩ 8 (by kernel_rfl) (by kernel_rfl) (by kernel_rfl) (by kernel_rfl)) ?_
  intro W base args ds gs before hval0 hW hcnd _
  have hval : ∀ (j : Nat) t v, Try.f4.params[j]? = some t → args[j]? = some v → Value.okWide Try.prog W .any base t v := hval0
  have hW' := hW
  obtain ⟨p, q, hA0, hV, rfl, _, _⟩ := hW
  have hA : DataW.TrodAll enc Try.prog W 0 (fun _ => true) true Try.f4.params.toList args.toList ds p := hA0
  rw [Try.params4] at hA hval
  obtain ⟨v0, d0, rfl, rfl, h0⟩ := trodAll_one hA
  obtain ⟨rfl, rfl⟩ := trodVars_none hV
  have h0k := h0
  obtain ⟨fuel, hf⟩ := h0
  clear hA0 hval0
  simp only [List.append_nil] at hW'
  have hlt : ∀ x ∈ p, x.block < W.heap.size := fun x hx => by simpa using hW'.lt x hx
  have hargs : ∀ (W' : World), Below W.heap.size W W' → DataW.Trod enc Try.prog W' 0 (fun b => decide (b < W.heap.size)) true 43 v0 d0 p :=
    fun W' hn => Below.trod Try.laidOut (by kernel_rfl) (of_decide_eq_true (by kernel_rfl)) h0k hn hlt
  obtain ⟨a0, len, cap, rfl⟩ := okWide_slice Try.underlying43 (hval 0 43 v0 rfl rfl)
  have done : Calls Try.prog 4 #[.slice a0 len cap] W fun e w' => e = .returned (.bool true) ∧ New W w' := by
    rcases open_slice Try.underlying43 hf with ⟨hcs, hx⟩ | ⟨a, len', cap', m, n, D, Pl, hcs, _, hl, hm, hmm, hx, hi⟩
    · simp [Value.cells] at hcs
      obtain ⟨rfl, rfl, rfl⟩ := hcs
      exact on_nil none 0 W
    · simp [Value.cells] at hcs
      obtain ⟨rfl, rfl, rfl⟩ := hcs
      rw [cellsTime] at hi hx
      simp only [if_true] at hmm
      subst hmm
      have hcells : ∀ k, ∃ x : Int × Int × Int, k < m → W.cell? (a.add (k * 3)) = some (.int .u64 x.1) ∧ W.cell? ((a.add (k * 3)).add 1) = some (.int .u64 x.2.1) ∧ W.cell? ((a.add (k * 3)).add 2) = some (.int .u64 x.2.2) := by
        intro k
        by_cases hk : k < m
        · obtain ⟨cs', hc, ht⟩ := hi k hk
          obtain ⟨x, y, z, rfl⟩ := time_cells ht
          obtain ⟨_, _, hat⟩ := World.cells?_some hc
          exact ⟨(x, y, z), fun _ => ⟨by simpa [Addr.add] using hat 0 (by simp), hat 1 (by simp), hat 2 (by simp)⟩⟩
        · exact ⟨(0, 0, 0), fun h => absurd h hk⟩
      obtain ⟨X, hX⟩ := Classical.axiomOfChoice hcells
      by_cases h0 : len = 0
      · subst h0; exact on_nil _ _ W
      · obtain ⟨b, off, spot⟩ := a
        have hspot : spot = none := by simpa [Addr.add] using World.cell?_spot (hX 0 (by omega)).1
        subst hspot
        have hb : b < W.heap.size := lt_of_cell (by simpa [Addr.add] using (hX 0 (by omega)).1)
        exact on_any b off len m (fun k => (X k).1) (fun k => (X k).2.1) (fun k => (X k).2.2) W hb (by omega)
          (fun k hk => by simpa only [addr_add] using (hX k (by omega)).1) (fun k hk => by simpa only [addr_add] using (hX k (by omega)).2.1) (fun k hk => by simpa only [addr_add] using (hX k (by omega)).2.2)
  refine done.mono fun e W' ⟨he, hw⟩ => ?_
  subst he
  exact ⟨_, rfl, ⟨_, _, _, [], _, [], hW', trodAll_mk1 (shut_bool Try.underlying4 true), trodAll_mk1 (hargs _ hw.toBelow), rfl, hw.toBelow.frame _, fun h => by cases h⟩⟩

theorem on_holds : Rows.SourceOnSaid :=
  OpenClaim.holds_of_wide 4 Try.f4 rfl rfl rfl rfl rfl rfl rfl ⟨rfl, rfl, rfl, rfl, rfl⟩ rfl rfl rfl rfl rfl (by kernel_rfl) Try.func4 (by kernel_rfl)
    (of_decide_eq_true (by kernel_rfl)) (by unfold Func.isWrapper; first | (rw [if_pos (by decide +kernel)]; kernel_rfl) | (rw [if_neg (by decide +kernel)]; exact ⟨rfl, rfl⟩))
    (fun os started H enc _ => on_lifted os started H enc)
end Go.Proofs.Ytjjaidhmpddkpaa
