import Derived.Test.YtkhjfcbloahjeaaPa3
namespace Go.Proofs.Ytkhjfcbloahjeaa
open Go.RowKit Go.Sx
theorem ckB_all {R : Nat → Int} {n : Nat} {m : Int} (h : ckB R n m = true) : ∀ i, i < n → prev R i < R i ∧ R i < m := by
  intro i hi
  unfold ckB at h
  rw [List.all_eq_true] at h
  simpa using h i (by simpa using hi)
theorem ckB_mono {R : Nat → Int} {n : Nat} {m : Int} (h : ckB R n m = true) : ∀ j, j < n → 0 ≤ R j ∧ ∀ i, i < j → R i < R j := by
  have ha := ckB_all h
  intro j
  induction j with
  | zero => intro hj; have := ha 0 hj; simp [prev] at this; exact ⟨by omega, fun i hi => absurd hi (by omega)⟩
  | succ j ih =>
    intro hj
    have h1 := ha (j + 1) hj
    simp [prev] at h1
    have h2 := ih (by omega)
    refine ⟨by omega, fun i hi => ?_⟩
    by_cases e : i = j
    · subst e; omega
    · have := h2.2 i (by omega); omega
/-- How many are below. -/
def cnt (R : Nat → Int) : Nat → Int → Nat
  | 0, _ => 0
  | m + 1, k => cnt R m k + if R m < k then 1 else 0
theorem inR_succ (R : Nat → Int) (m : Nat) (k : Int) : inR R (m + 1) k = (inR R m k || decide (R m = k)) := by
  unfold inR; rw [List.range_succ, List.any_append]; simp
theorem inR_none {R : Nat → Int} {m : Nat} {k : Int} (h : ∀ i, i < m → R i ≠ k) : inR R m k = false := by
  unfold inR; rw [List.any_eq_false]; intro i hi; simpa using h i (by simpa using hi)
theorem cnt_succ {R : Nat → Int} {m : Nat} (h : ∀ j, j < m → ∀ i, i < j → R i < R j) (k : Int) : cnt R m (k + 1) = cnt R m k + if inR R m k then 1 else 0 := by
  induction m with
  | zero => rfl
  | succ m ih =>
    have ih' := ih (fun j hj => h j (by omega))
    rw [inR_succ]
    simp only [cnt]
    rw [ih']
    by_cases e : R m = k
    · rw [inR_none (fun i hi => by have := h m (by omega) i hi; omega)]
      simp [e]; omega
    · by_cases l : R m < k
      · have a : R m < k + 1 := by omega
        simp [e, l, a]; omega
      · have a : ¬ R m < k + 1 := by omega
        simp [e, l, a]
theorem cnt_le (R : Nat → Int) (m : Nat) (k : Int) : cnt R m k ≤ m := by
  induction m with
  | zero => exact Nat.le_refl _
  | succ m ih => simp only [cnt]; split <;> omega
theorem cnt_zero {R : Nat → Int} {m : Nat} (h : ∀ j, j < m → 0 ≤ R j) : cnt R m 0 = 0 := by
  induction m with
  | zero => rfl
  | succ m ih => simp only [cnt]; rw [ih (fun j hj => h j (by omega)), if_neg (by have := h m (by omega); omega)]
theorem cnt_all {R : Nat → Int} {m : Nat} {k : Int} (h : ∀ j, j < m → R j < k) : cnt R m k = m := by
  induction m with
  | zero => rfl
  | succ m ih => simp only [cnt]; rw [ih (fun j hj => h j (by omega)), if_pos (h m (by omega))]
end Go.Proofs.Ytkhjfcbloahjeaa
