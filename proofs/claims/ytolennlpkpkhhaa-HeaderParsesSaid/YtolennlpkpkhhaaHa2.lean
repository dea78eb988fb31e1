import Derived.Test.YtolennlpkpkhhaaHa1
namespace Go.Proofs.Ytolennlpkpkhhaa
open Go.RowKit Go.Sx
def in6 (v : Int) : Bool := decide (v = 1 ∨ v = 2 ∨ v = 4 ∨ v = 8 ∨ v = 16 ∨ v = 32)
theorem index6 (v : Int) (g : Nat) (w : World) (c0 : w.cell? ⟨g, 0, none⟩ = some (.int .i64 1)) (c1 : w.cell? ⟨g, 1, none⟩ = some (.int .i64 2)) (c2 : w.cell? ⟨g, 2, none⟩ = some (.int .i64 4)) (c3 : w.cell? ⟨g, 3, none⟩ = some (.int .i64 8)) (c4 : w.cell? ⟨g, 4, none⟩ = some (.int .i64 16)) (c5 : w.cell? ⟨g, 5, none⟩ = some (.int .i64 32)) :
    Calls Try.prog 26 #[.slice (some ⟨g, 0, none⟩) 6 6, .int .i64 v] w fun e w' => (∃ z : Int, e = .returned (.int .i64 z) ∧ decide (0 ≤ z) = in6 v) ∧ w = w' := by
  go_enter Try.func26, Try.ntmps26
  go_wp2
  refine wp_loop_rounds 7 ?_
  repeat (any_goals (rw [rounds_succ]; go_wp2))
  all_goals
    go_ret
    refine ⟨⟨_, rfl, ?_⟩, rfl⟩
    simp only [beq_iff_eq, beq_eq_false_iff_ne, ne_eq] at *
    unfold in6
    rw [Bool.eq_iff_iff]
    simp only [decide_eq_true_eq]
    omega
theorem contains6 (v : Int) (g : Nat) (w : World) (c0 : w.cell? ⟨g, 0, none⟩ = some (.int .i64 1)) (c1 : w.cell? ⟨g, 1, none⟩ = some (.int .i64 2)) (c2 : w.cell? ⟨g, 2, none⟩ = some (.int .i64 4)) (c3 : w.cell? ⟨g, 3, none⟩ = some (.int .i64 8)) (c4 : w.cell? ⟨g, 4, none⟩ = some (.int .i64 16)) (c5 : w.cell? ⟨g, 5, none⟩ = some (.int .i64 32)) :
    Calls Try.prog 25 #[.slice (some ⟨g, 0, none⟩) 6 6, .int .i64 v] w fun e w' => e = .returned (.bool (in6 v)) ∧ w = w' := by
  go_enter Try.func25, Try.ntmps25
  go_wp2_with fail
  refine (index6 v g _ c0 c1 c2 c3 c4 c5).mono ?_
  rintro e w' ⟨⟨z, rfl, hz⟩, rfl⟩
  go_wp2
  go_ret
  exact ⟨rfl, rfl⟩
def powB (n u : Int) : Bool := decide (n = u ∨ n = 2 * u ∨ n = 4 * u ∨ n = 8 * u ∨ n = 16 * u ∨ n = 32 * u)
theorem pow_lem (n u : Int) (hu : u = 16384 ∨ u = 8192) (h0 : -1 ≤ n) : (in6 (n.tdiv u) = true → ∀ r, n.tmod u = r → (r == 0) = powB n u) ∧ (in6 (n.tdiv u) = false → powB n u = false) := by
  by_cases hn : n = -1
  · subst hn
    rcases hu with rfl | rfl <;> refine ⟨fun h => ?_, fun _ => ?_⟩ <;> first | rfl | (exact absurd h (by decide))
  · have h1 : n.tdiv u = n / u := Int.tdiv_eq_ediv_of_nonneg (by omega)
    have h2 : n.tmod u = n % u := Int.tmod_eq_emod_of_nonneg (by omega)
    rw [h1, h2]
    unfold in6 powB
    refine ⟨fun h r hr => ?_, fun h => ?_⟩
    · rw [decide_eq_true_eq] at h
      rw [Bool.eq_iff_iff]
      simp only [beq_iff_eq, decide_eq_true_eq]
      rcases hu with rfl | rfl <;> omega
    · rw [decide_eq_false_iff_not] at h ⊢
      rcases hu with rfl | rfl <;> omega
theorem powers_any (n u : Int) (hu : u = 16384 ∨ u = 8192) (h0 : -1 ≤ n) (h1 : n ≤ 1000000000) (w : World) : Calls Try.prog 21 #[.int .i64 n, .int .i64 u] w fun e w' => e = .returned (.bool (powB n u)) ∧ Below w.heap.size w w' := by
  obtain ⟨l1, l2⟩ := pow_lem n u hu h0
  have l1 := hidI l1
  have l2 := hidI l2
  obtain ⟨z, hz⟩ : ∃ z, z = powB n u := ⟨_, rfl⟩
  rw [← hz]
  have HZ := hidI hz; clear hz
  have hq : wrap64 (n.tdiv u) = n.tdiv u := by
    refine wrap_is _ ?_ ?_
    · by_cases hn : n = -1
      · subst hn; rcases hu with rfl | rfl <;> decide
      · rw [Int.tdiv_eq_ediv_of_nonneg (by omega)]; rcases hu with rfl | rfl <;> omega
    · by_cases hn : n = -1
      · subst hn; rcases hu with rfl | rfl <;> decide
      · rw [Int.tdiv_eq_ediv_of_nonneg (by omega)]; rcases hu with rfl | rfl <;> omega
  obtain ⟨q, hq2⟩ : ∃ q, q = n.tdiv u := ⟨_, rfl⟩
  rw [← hq2] at hq l1 l2
  obtain ⟨r, hr⟩ : ∃ r, r = n.tmod u := ⟨_, rfl⟩
  have hr' := hr.symm
  have hq' := hq2.symm
  have hu0 : u ≠ 0 := by omega
  clear hq2 hr
  have HR := hidI hr'
  have b0 : Below w.heap.size w (w.alloc (.cells #[.int .i64 1, .int .i64 2, .int .i64 4, .int .i64 8, .int .i64 16, .int .i64 32] 3)) := (Below.refl _ _).alloc (Nat.le_refl _) _
  go_enter Try.func21, Try.ntmps21
  go_wp2_with fail
  have cc := blk_new w (.cells #[.int .i64 1, .int .i64 2, .int .i64 4, .int .i64 8, .int .i64 16, .int .i64 32] 3)
  refine (contains6 q w.heap.size _ (blk_cell cc 0) (blk_cell cc 1) (blk_cell cc 2) (blk_cell cc 3) (blk_cell cc 4) (blk_cell cc 5)).mono ?_
  cases h6 : in6 q
  · have HF := hidI (l2.out h6)
    clear h6
    rintro e w' ⟨rfl, rfl⟩
    go_wp2
    go_ret
    exact ⟨ret_bool (HF.out.symm.trans HZ.out.symm), b0⟩
  · have HF := hidI (l1.out h6 r HR.out)
    clear h6
    rintro e w' ⟨rfl, rfl⟩
    go_wp2
    all_goals
      go_ret
      exact ⟨ret_bool (HF.out.trans HZ.out.symm), b0⟩
end Go.Proofs.Ytolennlpkpkhhaa
