import Derived.Test.YtdmcmlajpajaaaaSg1
namespace Go.Proofs.Ytdmcmlajpajaaaa
open Go.RowKit Go.Sx
theorem infoB : (Try.prog.info? 24).map (fun i => (i.zero, i.size, i.bytes)) = some (some (.agg #[.int .u8 0, .bool false]), 2, 2) := by kernel_rfl
/-- Bytes that the call has made. -/
def OwnB (w : World) (base g : Nat) (V : Nat → Int) (S : Nat → Bool) : Prop := ∃ xs : List Value, w.ownsRow base 24 2 (.slice (some ⟨g, 0, none⟩) 256 256) 256 xs ∧ ∀ i, i < 256 → ∀ j, j < 2 → xs[i * 2 + j]? = some (ByC V S i j)
theorem OwnB.cell {w : World} {base g : Nat} {V : Nat → Int} {S : Nat → Bool} (h : OwnB w base g V S) {i j : Nat} (hi : i < 256) (hj : j < 2) : w.cell? ⟨g, i * 2 + j, none⟩ = some (ByC V S i j) := by
  obtain ⟨xs, ho, hx⟩ := h
  rw [ho.cellAt _ (by omega)]
  exact hx i hi j hj
theorem OwnB.frozen {w : World} {base g : Nat} {V : Nat → Int} {S : Nat → Bool} (h : OwnB w base g V S) (o : Nat) : w.frozen? ⟨g, o, none⟩ = false := by
  obtain ⟨xs, ho, hx⟩ := h
  exact ho.frozenAt o
theorem OwnB.lt {w : World} {base g : Nat} {V : Nat → Int} {S : Nat → Bool} (h : OwnB w base g V S) : base ≤ g ∧ g < w.heap.size := by
  obtain ⟨xs, ho, hx⟩ := h
  exact ho.lt g rfl
theorem OwnB.same {w w' : World} {base g : Nat} {V : Nat → Int} {S : Nat → Bool} (h : OwnB w base g V S) (e : w'.heap[g]? = w.heap[g]?) : OwnB w' base g V S := by
  obtain ⟨xs, ho, hx⟩ := h
  refine ⟨xs, ⟨ho.1, ?_⟩, hx⟩
  rcases ho.2 with ⟨h', _⟩ | ⟨g', cap', cur, h', r⟩
  · cases h'
  · cases h'
    exact .inr ⟨g, 256, cur, rfl, r.1, by rw [e]; exact r.2.1, r.2.2⟩
theorem OwnB.store {w : World} {base g : Nat} {V : Nat → Int} {S : Nat → Bool} (h : OwnB w base g V S) {k : Nat} (x : Int) (hk : k < 256) : OwnB (w.setCell ⟨g, k * 2, none⟩ (.int .u8 x)) base g (fun i => if i = k then x else V i) S := by
  obtain ⟨xs, ho, hx⟩ := h
  refine ⟨_, (ho.stored (k * 2) (.int .u8 x)).1, fun i hi j hj => ?_⟩
  have hl : xs.length = 512 := ho.1
  rw [List.getElem?_set]
  split
  · next e =>
    obtain rfl : i = k := by omega
    obtain rfl : j = 0 := by omega
    simp [ByC, hl]; omega
  · next e =>
    rw [hx i hi j hj]
    unfold ByC
    by_cases hj0 : j = 0
    · subst hj0
      have : i ≠ k := fun e' => e (by omega)
      simp [this]
    · simp [hj0]
theorem OwnB.vals {w : World} {base g : Nat} {V V' : Nat → Int} {S S' : Nat → Bool} (h : OwnB w base g V S) (e : ∀ i, i < 256 → V i = V' i ∧ S i = S' i) : OwnB w base g V' S' := by
  obtain ⟨xs, ho, hx⟩ := h
  refine ⟨xs, ho, fun i hi j hj => (hx i hi j hj).trans ?_⟩
  unfold ByC
  rw [(e i hi).1, (e i hi).2]
theorem step_val (i k : Nat) : (if i = k then (239 : Int) else if i < k then 239 else 0) = if i < k + 1 then 239 else 0 := by
  by_cases h : i = k
  · rw [if_pos h, if_pos (by omega)]
  · rw [if_neg h]
    by_cases h' : i < k
    · rw [if_pos h', if_pos (by omega)]
    · rw [if_neg h', if_neg (by omega)]
set_option maxRecDepth 100000 in
theorem none_any (w : World) : Calls Try.prog 27 #[] w fun e w' => ∃ g, e = .returned (.slice (some ⟨g, 0, none⟩) 256 256) ∧ OwnB w' w.heap.size g (fun _ => 239) (fun _ => false) ∧ Below w.heap.size w w' := by
  obtain ⟨i0, hi, hz0, hz1, hz2⟩ := info_parts infoB
  go_enter Try.func27, Try.ntmps27
  go_wp2_with (at_make; go_loud (refine wpList_make_full _ rfl _ _ 22 rfl w.heap.size 24 i0 (.agg #[.int .u8 0, .bool false]) 2 Try.underlying22 hi hz0 hz1 .i64 .i64 256 256 256 rfl rfl rfl rfl (by rw [hz2]; decide) (by decide) (Nat.le_refl _) ?_); intro w1 hown hgrow)
  have hz : OwnB w1 w.heap.size w.heap.size (fun i => if i < 0 then 239 else 0) (fun _ => false) := ⟨_, hown, fun i hi j hj => by
    rw [Array.getElem?_toList]
    simp only [madeCells, Array.getElem?_map, Array.getElem?_range]
    rw [if_pos (by omega)]
    match j, hj with
    | 0, _ => simp [ByC, Value.cells]
    | 1, _ => simp [ByC, Value.cells]⟩
  have hb1 : Below w.heap.size w w1 := (Below.refl _ _).grown hgrow (Nat.le_refl _) (fun k hk => by cases hk)
  clear hown hgrow
  go_loopw [2] (fun i wr => ∃ k : Nat, k ≤ 256 ∧ i = .int .i64 k ∧ OwnB wr w.heap.size w.heap.size (fun i => if i < k then 239 else 0) (fun _ => false) ∧ Below w.heap.size w wr) (fun i _ => 256 - (intOf i).toNat)
  case atStart => exact ⟨0, Nat.zero_le _, rfl, hz, hb1⟩
  case round =>
    obtain ⟨k, hk, rfl, hO, hbl⟩ := hrel
    by_cases hlt : k < 256
    · have c0 : wr.cell? ⟨w.heap.size, k * 2, none⟩ = some _ := hO.cell hlt (j := 0) (by omega)
      have f0 := hO.frozen (k * 2)
      go_wp2
      go_roundw
      case rel => exact ⟨k + 1, by omega, by go_num, (hO.store 239 hlt).vals (fun i hi => ⟨step_val i k, rfl⟩), hbl.setCell (Nat.le_refl _) _⟩
      case measure => simp [intOf]; omega
    · go_wp2
      go_ret
      exact ⟨_, rfl, hO.vals (fun i hi => ⟨if_pos (by omega), rfl⟩), hbl⟩
end Go.Proofs.Ytdmcmlajpajaaaa
