import Derived.Test.YtdmcmlajpajaaaaSr1
import Derived.RegionTactic
import Derived.BigRegion
namespace Go.Proofs.Ytdmcmlajpajaaaa
open Go.RowKit Go.Sx
/-- Bytes that the call has made. -/
def OwnC (w : World) (base g cap : Nat) (V : Nat → Int) (S : Nat → Bool) : Prop := ∃ xs : List Value, w.ownsRow base 24 2 (.slice (some ⟨g, 0, none⟩) 256 cap) 256 xs ∧ ∀ i, i < 256 → ∀ j, j < 2 → xs[i * 2 + j]? = some (ByC V S i j)
theorem OwnC.cell {w : World} {base g cap : Nat} {V : Nat → Int} {S : Nat → Bool} (h : OwnC w base g cap V S) {i j : Nat} (hi : i < 256) (hj : j < 2) : w.cell? ⟨g, i * 2 + j, none⟩ = some (ByC V S i j) := by
  obtain ⟨xs, ho, hx⟩ := h
  rw [ho.cellAt _ (by omega)]
  exact hx i hi j hj
theorem OwnC.frozen {w : World} {base g cap : Nat} {V : Nat → Int} {S : Nat → Bool} (h : OwnC w base g cap V S) (o : Nat) : w.frozen? ⟨g, o, none⟩ = false := by
  obtain ⟨xs, ho, hx⟩ := h
  exact ho.frozenAt o
theorem OwnC.lt {w : World} {base g cap : Nat} {V : Nat → Int} {S : Nat → Bool} (h : OwnC w base g cap V S) : base ≤ g ∧ g < w.heap.size := by
  obtain ⟨xs, ho, hx⟩ := h
  exact ho.lt g rfl
theorem OwnC.same {w w' : World} {base g cap : Nat} {V : Nat → Int} {S : Nat → Bool} (h : OwnC w base g cap V S) (e : w'.heap[g]? = w.heap[g]?) : OwnC w' base g cap V S := by
  obtain ⟨xs, ho, hx⟩ := h
  refine ⟨xs, ⟨ho.1, ?_⟩, hx⟩
  rcases ho.2 with ⟨h', _⟩ | ⟨g', cap', cur, h', r⟩
  · cases h'
  · cases h'
    exact .inr ⟨g, cap, cur, rfl, r.1, by rw [e]; exact r.2.1, r.2.2⟩
theorem OwnC.store {w : World} {base g cap : Nat} {V : Nat → Int} {S : Nat → Bool} (h : OwnC w base g cap V S) {k : Nat} (x : Int) (hk : k < 256) : OwnC (w.setCell ⟨g, k * 2, none⟩ (.int .u8 x)) base g cap (fun i => if i = k then x else V i) S := by
  obtain ⟨xs, ho, hx⟩ := h
  refine ⟨_, (ho.stored (k * 2) (.int .u8 x)).1, fun i hi j hj => ?_⟩
  have hl : xs.length = 512 := ho.1
  rw [List.getElem?_set]
  split
  · next e =>
    obtain rfl : i = k := by omega
    obtain rfl : j = 0 := by omega
    simp [ByC, hl]; omega
  · next e =>
    rw [hx i hi j hj]
    unfold ByC
    by_cases hj0 : j = 0
    · subst hj0
      have : i ≠ k := fun e' => e (by omega)
      simp [this]
    · simp [hj0]
theorem OwnC.vals {w : World} {base g cap : Nat} {V V' : Nat → Int} {S S' : Nat → Bool} (h : OwnC w base g cap V S) (e : ∀ i, i < 256 → V i = V' i ∧ S i = S' i) : OwnC w base g cap V' S' := by
  obtain ⟨xs, ho, hx⟩ := h
  refine ⟨xs, ho, fun i hi j hj => (hx i hi j hj).trans ?_⟩
  unfold ByC
  rw [(e i hi).1, (e i hi).2]
theorem OwnC.below {w w' : World} {base g cap : Nat} {V : Nat → Int} {S : Nat → Bool} (h : OwnC w base g cap V S) (hb : Below w.heap.size w w') : OwnC w' base g cap V S := h.same (hb.block g h.lt.2)
theorem OwnC.of {w : World} {base g cap : Nat} {L : BL} (h : OwnL w base g cap L) (hl : L.length = 256) : OwnC w base g cap (vL L) (sL L) := by
  unfold OwnL at h
  rw [hl] at h
  exact ⟨_, h, fun i hi j hj => cellsL_get (by omega) hj⟩
end Go.Proofs.Ytdmcmlajpajaaaa
