import Derived.Test.YtkhjfcbloahjeaaPm3
namespace Go.Proofs.Ytkhjfcbloahjeaa
open Go.RowKit Go.Sx
/-- A text with another octet at one place. -/
structure Chg (x y : ByteArray) (k : Nat) : Prop where
  lt : k < x.size
  sz : y.size = x.size
  eq : ∀ i, i ≠ k → bt y i = bt x i
theorem low_self (x : ByteArray) (sec : Nat → Bool) : lowB x x sec = true := by
  unfold lowB
  rw [Bool.and_eq_true]
  refine ⟨?_, by simp⟩
  rw [List.all_eq_true]
  intro i _
  simp
theorem low_chg {x y : ByteArray} {k : Nat} (h : Chg x y k) (sec : Nat → Bool) : lowB x y sec = (decide (bt x k = bt y k) || sec k) := by
  unfold lowB
  rw [h.sz]
  simp only [Nat.min_self, decide_true, Bool.and_true]
  rw [Bool.eq_iff_iff, List.all_eq_true]
  constructor
  · intro ha
    exact ha k (by simpa using h.lt)
  · intro ha i hi
    by_cases e : i = k
    · subst e; exact ha
    · rw [h.eq i e]; simp
theorem bt_ext {x y : ByteArray} (hs : x.size = y.size) (h : ∀ i, i < x.size → bt x i = bt y i) : x = y := by
  apply ByteArray.ext
  apply Array.ext hs
  intro i h1 h2
  have := h i h1
  unfold bt at this
  rw [Array.getD_eq_getD_getElem?, Array.getD_eq_getD_getElem?, Array.getElem?_eq_getElem h1, Array.getElem?_eq_getElem h2, Option.getD_some, Option.getD_some] at this
  exact UInt8.toNat_inj.1 (by omega)
theorem eqS_iff (x y : ByteArray) : eqS x y = true ↔ x = y := by
  unfold eqS
  rw [beq_iff_eq]
  constructor
  · intro h
    apply ByteArray.ext
    have e : ∀ z : ByteArray, z.toList = z.data.toList := ByteArray.toList_eq
    rw [e, e] at h
    exact Array.toList_inj.1 h
  · rintro rfl; rfl
theorem eqS_self (x : ByteArray) : eqS x x = true := (eqS_iff x x).2 rfl
theorem eqS_chg {x y : ByteArray} {k : Nat} (h : Chg x y k) : eqS x y = decide (bt x k = bt y k) := by
  rw [Bool.eq_iff_iff, eqS_iff, decide_eq_true_iff]
  constructor
  · rintro rfl; rfl
  · intro e
    refine bt_ext h.sz.symm fun i _ => ?_
    by_cases he : i = k
    · subst he; exact e
    · exact (h.eq i he).symm
theorem chg_mk (x c : ByteArray) (k : Nat) (h : k < x.size) (hc : c.size = 1) : Chg x (x.extract 0 k ++ c ++ x.extract (k + 1) x.size) k := by
  have hs : (x.extract 0 k ++ c ++ x.extract (k + 1) x.size).size = x.size := by
    simp only [ByteArray.size_append, ByteArray.size_extract]; omega
  refine ⟨h, hs, fun i hi => ?_⟩
  have hx : x.data.size = x.size := rfl
  have hc' : c.data.size = 1 := hc
  have e : (x.extract 0 k ++ c ++ x.extract (k + 1) x.size).data[i]? = x.data[i]? := by
    rw [ByteArray.data_append, ByteArray.data_append, ByteArray.data_extract, ByteArray.data_extract]
    rcases Nat.lt_or_ge i k with h1 | h1
    · rw [Array.getElem?_append_left (by simp only [Array.size_append, Array.size_extract]; omega), Array.getElem?_append_left (by simp only [Array.size_extract]; omega), Array.getElem?_extract]
      rw [if_pos (by omega), Nat.zero_add]
    · rw [Array.getElem?_append_right (by simp only [Array.size_append, Array.size_extract]; omega), Array.getElem?_extract]
      simp only [Array.size_append, Array.size_extract]
      rcases Nat.lt_or_ge i x.size with h2 | h2
      · rw [if_pos (by omega)]
        congr 1; omega
      · rw [if_neg (by omega), Array.getElem?_eq_none (by omega)]
  unfold bt
  rw [Array.getD_eq_getD_getElem?, Array.getD_eq_getD_getElem?, e]
theorem eqR_self (A : Nat → Int) (n : Nat) : eqR A A n n = true := by unfold eqR; simp
end Go.Proofs.Ytkhjfcbloahjeaa
