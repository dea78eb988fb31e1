import Derived.Test.YtkhjfcbloahjeaaQm3
namespace Go.Proofs.Ytkhjfcbloahjeaa
open Go.RowKit Go.Sx
def ByC (V : Nat → Int) (S : Nat → Bool) (i j : Nat) : Value := if j = 0 then .int .u8 (V i) else .bool (S i)
theorem infoB : (Try.prog.info? 67).map (fun i => (i.zero, i.size, i.bytes)) = some (some (.agg #[.int .u8 0, .bool false]), 2, 2) := by kernel_rfl
/-- Bytes that the call has made. -/
def OwnM (w : World) (base g N : Nat) (V : Nat → Int) (S : Nat → Bool) : Prop := ∃ xs : List Value, w.ownsRow base 67 2 (.slice (some ⟨g, 0, none⟩) N N) N xs ∧ ∀ i, i < N → ∀ j, j < 2 → xs[i * 2 + j]? = some (ByC V S i j)
theorem OwnM.cell {w : World} {base g N : Nat} {V : Nat → Int} {S : Nat → Bool} (h : OwnM w base g N V S) {i j : Nat} (hi : i < N) (hj : j < 2) : w.cell? ⟨g, i * 2 + j, none⟩ = some (ByC V S i j) := by
  obtain ⟨xs, ho, hx⟩ := h
  rw [ho.cellAt _ (by omega)]
  exact hx i hi j hj
theorem OwnM.frozen {w : World} {base g N : Nat} {V : Nat → Int} {S : Nat → Bool} (h : OwnM w base g N V S) (o : Nat) : w.frozen? ⟨g, o, none⟩ = false := by
  obtain ⟨xs, ho, hx⟩ := h
  exact ho.frozenAt o
theorem OwnM.lt {w : World} {base g N : Nat} {V : Nat → Int} {S : Nat → Bool} (h : OwnM w base g N V S) : base ≤ g ∧ g < w.heap.size := by
  obtain ⟨xs, ho, hx⟩ := h
  exact ho.lt g rfl
theorem OwnM.same {w w' : World} {base g N : Nat} {V : Nat → Int} {S : Nat → Bool} (h : OwnM w base g N V S) (e : w'.heap[g]? = w.heap[g]?) : OwnM w' base g N V S := by
  obtain ⟨xs, ho, hx⟩ := h
  refine ⟨xs, ⟨ho.1, ?_⟩, hx⟩
  rcases ho.2 with ⟨h', _⟩ | ⟨g', cap', cur, h', r⟩
  · cases h'
  · cases h'
    exact .inr ⟨g, N, cur, rfl, r.1, by rw [e]; exact r.2.1, r.2.2⟩
theorem OwnM.below {w w' : World} {base g N : Nat} {V : Nat → Int} {S : Nat → Bool} (h : OwnM w base g N V S) (hb : Below w.heap.size w w') : OwnM w' base g N V S := h.same (hb.block g h.lt.2)
theorem OwnM.put {w : World} {base g N : Nat} {V V' : Nat → Int} {S S' : Nat → Bool} (h : OwnM w base g N V S) {k j : Nat} (v : Value) (hk : k < N) (hj : j < 2) (hv : v = ByC V' S' k j) (he : ∀ i, i < N → ∀ l, l < 2 → ¬ (i = k ∧ l = j) → ByC V' S' i l = ByC V S i l) : OwnM (w.setCell ⟨g, k * 2 + j, none⟩ v) base g N V' S' := by
  obtain ⟨xs, ho, hx⟩ := h
  refine ⟨_, (ho.stored (k * 2 + j) v).1, fun i hi l hl => ?_⟩
  have hlen : xs.length = N * 2 := ho.1
  rw [List.getElem?_set]
  split
  · next e =>
    obtain rfl : i = k := by omega
    obtain rfl : l = j := by omega
    rw [if_pos (by omega), hv]
  · next e =>
    rw [hx i hi l hl, he i hi l hl (fun hh => e (by omega))]
theorem OwnM.putV {w : World} {base g N : Nat} {V : Nat → Int} {S : Nat → Bool} (h : OwnM w base g N V S) {k : Nat} (x : Int) (hk : k < N) : OwnM (w.setCell ⟨g, k * 2, none⟩ (.int .u8 x)) base g N (fun i => if i = k then x else V i) S :=
  h.put (j := 0) (.int .u8 x) hk (by omega) (by simp [ByC]) (fun i hi l hl hne => by
    unfold ByC
    by_cases h0 : l = 0
    · have : i ≠ k := fun e => hne ⟨e, h0⟩
      simp [h0, this]
    · simp [h0])
theorem OwnM.putS {w : World} {base g N : Nat} {V : Nat → Int} {S : Nat → Bool} (h : OwnM w base g N V S) {k : Nat} (x : Bool) (hk : k < N) : OwnM (w.setCell ⟨g, k * 2 + 1, none⟩ (.bool x)) base g N V (fun i => if i = k then x else S i) :=
  h.put (j := 1) (.bool x) hk (by omega) (by simp [ByC]) (fun i hi l hl hne => by
    unfold ByC
    by_cases h0 : l = 0
    · simp [h0]
    · have : i ≠ k := fun e => hne ⟨e, by omega⟩
      simp [h0, this])
theorem OwnM.vals {w : World} {base g N : Nat} {V V' : Nat → Int} {S S' : Nat → Bool} (h : OwnM w base g N V S) (e : ∀ i, i < N → V i = V' i ∧ S i = S' i) : OwnM w base g N V' S' := by
  obtain ⟨xs, ho, hx⟩ := h
  refine ⟨xs, ho, fun i hi j hj => (hx i hi j hj).trans ?_⟩
  unfold ByC
  rw [(e i hi).1, (e i hi).2]
theorem OwnM.new {w w' : World} {N : Nat} (h : w'.ownsRow w.heap.size 67 2 (.slice (some ⟨w.heap.size, 0, none⟩) N N) N (madeCells (Value.agg #[.int .u8 0, .bool false]).cells (N * 2)).toList) : OwnM w' w.heap.size w.heap.size N (fun _ => 0) (fun _ => false) :=
  ⟨_, h, fun i hi j hj => by
    rw [Array.getElem?_toList]
    simp only [madeCells, Array.getElem?_map, Array.getElem?_range]
    rw [if_pos (by omega)]
    match j, hj with
    | 0, _ => simp [Value.cells, ByC]
    | 1, _ => simp [Value.cells, ByC]⟩
theorem bt_out {p : ByteArray} {k : Nat} (h : p.size ≤ k) : bt p k = 0 := by
  have h' : p.data.size ≤ k := h
  unfold bt
  rw [Array.getD_eq_getD_getElem?, Array.getElem?_eq_none h']
  rfl
theorem step_v (i k : Nat) (f : Nat → Int) : (if i = k then f k else if i < k then f i else 0) = if i < k + 1 then f i else 0 := by
  by_cases e : i = k
  · subst e; rw [if_pos rfl, if_pos (by omega)]
  · rw [if_neg e]
    by_cases e2 : i < k
    · rw [if_pos e2, if_pos (by omega)]
    · rw [if_neg e2, if_neg (by omega)]
theorem step_s (i k : Nat) (f : Nat → Bool) : (if i = k then f k else if i < k then f i else false) = if i < k + 1 then f i else false := by
  by_cases e : i = k
  · subst e; rw [if_pos rfl, if_pos (by omega)]
  · rw [if_neg e]
    by_cases e2 : i < k
    · rw [if_pos e2, if_pos (by omega)]
    · rw [if_neg e2, if_neg (by omega)]
/-- Made by the document. -/
theorem rmake_any (N : Nat) (p : ByteArray) (ao : Option Addr) (n c : Nat) (F T : Nat → Int) (w : World) (hN : N ≤ 65536) (hp : p.size ≤ 1000000) (hl : n ≤ 1000000) (h : RgAt w ao n F T) :
    Calls Try.prog 24 #[.int .i64 N, .string p, .slice ao n c] w fun e w' => e = .returned (.slice (some ⟨w.heap.size, 0, none⟩) N N) ∧ OwnM w' w.heap.size w.heap.size N (bt p) (fun i => inG F T n (i : Int)) ∧ Below w.heap.size w w' := by
  obtain ⟨i0, hi, hz0, hz1, hz2⟩ := info_parts infoB
  go_enter Try.func24, Try.ntmps24
  go_wp2_with (at_make; go_loud (refine wpList_make_full _ rfl _ _ 51 rfl w.heap.size 67 i0 (.agg #[.int .u8 0, .bool false]) 2 Try.underlying51 hi hz0 hz1 .i64 .i64 N N N rfl rfl rfl rfl (by rw [hz2]; omega) (by unfold maxLen; omega) (Nat.le_refl _) ?_); intro w1 hown hgrow)
  have hz := OwnM.new hown
  have hb1 : Below w.heap.size w w1 := (Below.refl _ _).grown hgrow (Nat.le_refl _) (fun k hk => by cases hk)
  clear hown hgrow
  go_loopw [8] (fun i wr => ∃ k : Nat, k ≤ N ∧ i = .int .i64 k ∧ OwnM wr w.heap.size w.heap.size N (fun i => if i < k then bt p i else 0) (fun i => if i < k then inG F T n (i : Int) else false) ∧ Below w.heap.size w wr) (fun i _ => N - (intOf i).toNat)
  case atStart => exact ⟨0, Nat.zero_le _, rfl, hz.vals (fun i hi => ⟨by simp, by simp⟩), hb1⟩
  case round =>
    obtain ⟨k, hk, rfl, hO, hbl⟩ := hrel
    by_cases hlt : k < N
    · have c0 : wr.cell? ⟨w.heap.size, k * 2, none⟩ = some _ := hO.cell hlt (j := 0) (by omega)
      have c1 : wr.cell? ⟨w.heap.size, k * 2 + 1, none⟩ = some _ := hO.cell hlt (j := 1) (by omega)
      have f0 := hO.frozen (k * 2)
      have f1 := hO.frozen (k * 2 + 1)
      by_cases hkp : k < p.size
      · obtain ⟨x0, hx0⟩ : ∃ x0, x0 = bt p k := ⟨_, rfl⟩
        have x1 : ((p[k]'hkp).toNat : Int) = x0 := (bt_eq p k hkp).trans hx0.symm
        have HX := hidI hx0; clear hx0
        have bW : Below w.heap.size w (wr.setCell ⟨w.heap.size, k * 2, none⟩ (.int .u8 x0)) := hbl.setCell (p := ⟨w.heap.size, k * 2, none⟩) (Nat.le_refl _) _
        have O1 := hO.putV x0 hlt
        have d1 : (wr.setCell ⟨w.heap.size, k * 2, none⟩ (.int .u8 x0)).cell? ⟨w.heap.size, k * 2 + 1, none⟩ = some _ := O1.cell hlt (j := 1) (by omega)
        have g1 := O1.frozen (k * 2 + 1)
        go_wp2_with fail
        refine (rin_any ao n c F T k _ hl (h.below bW)).mono ?_
        rintro e w2 ⟨rfl, rfl⟩
        go_wp2_with fail
        refine ⟨⟨k + 1, by omega, by simp, (O1.putS (inG F T n (k : Int)) hlt).vals (fun i hi => ⟨?_, step_s i k (fun i => inG F T n (i : Int))⟩), bW.setCell (p := ⟨w.heap.size, k * 2 + 1, none⟩) (Nat.le_refl _) _⟩, by simp [intOf]; omega⟩
        rw [HX.out]; exact step_v i k _
      · go_wp2_with fail
        refine (rin_any ao n c F T k _ hl (h.below hbl)).mono ?_
        rintro e w2 ⟨rfl, rfl⟩
        go_wp2_with fail
        refine ⟨⟨k + 1, by omega, by simp, (hO.putS (inG F T n (k : Int)) hlt).vals (fun i hi => ⟨?_, step_s i k (fun i => inG F T n (i : Int))⟩), hbl.setCell (p := ⟨w.heap.size, k * 2 + 1, none⟩) (Nat.le_refl _) _⟩, by simp [intOf]; omega⟩
        by_cases e : i = k
        · subst e; rw [if_neg (by omega), if_pos (by omega), bt_out (by omega)]
        · by_cases e2 : i < k
          · rw [if_pos e2, if_pos (by omega)]
          · rw [if_neg e2, if_neg (by omega)]
    · obtain rfl : k = N := by omega
      go_wp2
      go_ret
      exact ⟨rfl, hO.vals (fun i hi => ⟨if_pos hi, if_pos hi⟩), hbl⟩
end Go.Proofs.Ytkhjfcbloahjeaa
