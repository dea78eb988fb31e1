import Derived.Test.YtdgjenlejalgeaaBl7
import Derived.Laws.AppendOwn
import Derived.Laws.AppendOwnNone
namespace Go.Proofs.Ytdgjenlejalgeaa
open Go.RowKit Go.Sx
theorem infoQ : (Try.prog.info? 46).map (fun i => (i.zero, i.size, i.bytes)) = some (some (.agg #[.int .u8 0, .bool false, .int .u8 0, .int .u8 0]), 4, 4) := by kernel_rfl
theorem info_partsQ {t : TypeId} {z : Option Value} {s b : Nat} (h : (Try.prog.info? t).map (fun i => (i.zero, i.size, i.bytes)) = some (z, s, b)) : ∃ i, Try.prog.info? t = some i ∧ i.zero = z ∧ i.size = s ∧ i.bytes = b := by
  cases hi : Try.prog.info? t with
  | none => rw [hi] at h; cases h
  | some i => rw [hi] at h; cases h; exact ⟨i, rfl, rfl, rfl, rfl⟩
abbrev RQ := By × Fl
def cell4 (x : RQ) : List Value := [.int .u8 x.1.v, .bool x.1.s, .int .u8 x.2.p, .int .u8 x.2.s]
def cellsQ : List RQ → List Value
  | [] => []
  | x :: l => cell4 x ++ cellsQ l
theorem cellsQ_len (l : List RQ) : (cellsQ l).length = l.length * 4 := by
  induction l with
  | nil => rfl
  | cons x l ih => simp only [cellsQ, cell4, List.length_append, List.length_cons, List.length_nil, ih]; omega
theorem cellsQ_app (l m : List RQ) : cellsQ (l ++ m) = cellsQ l ++ cellsQ m := by
  induction l with
  | nil => rfl
  | cons x l ih => simp only [List.cons_append, cellsQ, ih, List.append_assoc]
theorem cellsQ_one (l : List RQ) : ∀ u ∈ cellsQ l, u.oneCell' = true := by
  induction l with
  | nil => intro u hu; cases hu
  | cons x l ih =>
    intro u hu
    simp only [cellsQ, cell4, List.mem_append, List.mem_cons, List.not_mem_nil, or_false] at hu
    rcases hu with (rfl | rfl | rfl | rfl) | hu
    · rfl
    · rfl
    · rfl
    · rfl
    · exact ih u hu
theorem cellsQ_get : ∀ (l : List RQ) (i j : Nat) (x : RQ), l[i]? = some x → j < 4 → (cellsQ l)[i * 4 + j]? = (cell4 x)[j]?
  | [], i, j, x, h, _ => by simp at h
  | y :: l, 0, j, x, h, hj => by
    simp only [List.getElem?_cons_zero, Option.some.injEq] at h
    subst h
    simp only [cellsQ]
    rw [List.getElem?_append_left (by simp [cell4]; omega), Nat.zero_mul, Nat.zero_add]
  | y :: l, i + 1, j, x, h, hj => by
    simp only [List.getElem?_cons_succ] at h
    simp only [cellsQ]
    rw [List.getElem?_append_right (by simp [cell4]; omega)]
    have : (i + 1) * 4 + j - (cell4 y).length = i * 4 + j := by simp [cell4]; omega
    rw [this]
    exact cellsQ_get l i j x h hj
/-- A row of results that the call owns. -/
def OwnQ (w : World) (base : Nat) (v : Value) (l : List RQ) : Prop := w.ownsRow base 46 4 v l.length (cellsQ l)
theorem OwnQ.none (w : World) (base : Nat) : OwnQ w base (.slice none 0 0) [] := ⟨rfl, .inl ⟨rfl, rfl⟩⟩
theorem OwnQ.grown {w w' : World} {base : Nat} {v : Value} {l : List RQ} (h : OwnQ w base v l) (hb : Below w.heap.size w w') : OwnQ w' base v l := by
  refine ⟨h.1, ?_⟩
  have hl := World.ownsRow.lt h
  rcases h.2 with e | ⟨g', cap', cur, e, r⟩
  · exact .inl e
  · subst e
    exact .inr ⟨g', _, cur, rfl, r.1, by rw [hb.block g' (hl g' rfl).2]; exact r.2.1, r.2.2⟩
theorem OwnQ.other {w w' : World} {base : Nat} {v : Value} {l : List RQ} (h : OwnQ w base v l) (hk : ∀ k, base ≤ k → w'.heap[k]? = w.heap[k]?) : OwnQ w' base v l := by
  refine ⟨h.1, ?_⟩
  rcases h.2 with e | ⟨g', cap', cur, e, r⟩
  · exact .inl e
  · subst e
    exact .inr ⟨g', _, cur, rfl, r.1, by rw [hk g' r.1]; exact r.2.1, r.2.2⟩
theorem OwnQ.mono {w : World} {base b' : Nat} {v : Value} {l : List RQ} (h : OwnQ w base v l) (hb : b' ≤ base) : OwnQ w b' v l := by
  refine ⟨h.1, ?_⟩
  rcases h.2 with e | ⟨g', cap', cur, e, r⟩
  · exact .inl e
  · exact .inr ⟨g', cap', cur, e, Nat.le_trans hb r.1, r.2⟩
theorem app_q {w : World} {base : Nat} {v : Value} {l : List RQ} (ty : TypeId) (hown : OwnQ w base v l) (g m c : Nat) (M : List RQ) (hm : m = M.length) (hM : ∀ j u, (cellsQ M)[j]? = some u → w.cell? ⟨g, j, none⟩ = some u) (hlen : l.length + m ≤ 1000) (hbase : base ≤ w.heap.size) :
    ∃ v' w', (Builtin.append_ #[42, 42] ty #[v, .slice (some ⟨g, 0, none⟩) m c]).run Try.prog w = .ok v' w' ∧ OwnQ w' base v' (l ++ M) ∧ Below base w w' := by
  obtain ⟨i0, hi, hz0, hz1, hz2⟩ := info_partsQ infoQ
  obtain ⟨v', w', hr, h2, h3, h4⟩ := run_append_own (P := Try.prog) w base 42 ty 46 i0 _ 4 4 Try.underlying42 hi hz0 hz1 hz2 rfl (by decide) _ _ _ hown ⟨g, 0, none⟩ m c (cellsQ M) (by rw [cellsQ_len, hm]) (fun j u hj => by rw [addr_add, Nat.zero_add]; exact hM j u hj) (cellsQ_one M) (by unfold maxLen; omega) (by omega) hbase
  refine ⟨v', w', hr, ?_, (Below.refl base w).grown h3 hbase (fun k hk => (World.ownsRow.lt hown k hk).1)⟩
  show w'.ownsRow base 46 4 v' (l ++ M).length (cellsQ (l ++ M))
  rw [List.length_append, ← hm, cellsQ_app]
  exact h2
theorem app_qop {w : World} {o : Oper} {a : Act} {K : Act → World → Prop} {Q : Exit → Act → World → Prop} (s x : Operand)
    (ho : o.op = .call { callee := .builtin .append, args := #[s, x], argTypes := #[42, 42] }) {base : Nat} {v : Value} {l : List RQ} (hs : a.eval s = v) (hown : OwnQ w base v l)
    (g m c : Nat) (M : List RQ) (hx : a.eval x = .slice (some ⟨g, 0, none⟩) m c) (hm : m = M.length) (hM : ∀ j u, (cellsQ M)[j]? = some u → w.cell? ⟨g, j, none⟩ = some u) (hlen : l.length + m ≤ 1000) (hbase : base ≤ w.heap.size)
    (h : ∀ v' w', OwnQ w' base v' (l ++ M) → Below base w w' → K (a.put o.dst v') w') : Oper.wp Try.prog o a w K Q := by
  obtain ⟨v', w', hr, h1, h2⟩ := app_q o.type hown g m c M hm hM hlen hbase
  unfold Oper.wp
  simp [execOp, ho, resolve, invoke, builtin, hs, hx, hr, Result.andThen]
  exact h v' w' h1 h2
theorem app_qlist {w : World} {ops : Array Oper} {rest : List Oper} {o : Oper} {a : Act} {Q : Exit → Act → World → Prop} (hg : o.guard = none) (s x : Operand)
    (ho : o.op = .call { callee := .builtin .append, args := #[s, x], argTypes := #[42, 42] }) {base : Nat} {v : Value} {l : List RQ} (hs : a.eval s = v) (hown : OwnQ w base v l)
    (g m c : Nat) (M : List RQ) (hx : a.eval x = .slice (some ⟨g, 0, none⟩) m c) (hm : m = M.length) (hM : ∀ j u, (cellsQ M)[j]? = some u → w.cell? ⟨g, j, none⟩ = some u) (hlen : l.length + m ≤ 1000) (hbase : base ≤ w.heap.size)
    (h : ∀ v' w', OwnQ w' base v' (l ++ M) → Below base w w' → wpList Try.prog ops Q rest (a.put o.dst v') w') : wpList Try.prog ops Q (o :: rest) a w := by
  refine wpList_plain hg fun K' hK' => ?_
  exact app_qop s x ho hs hown g m c M hx hm hM hlen hbase fun v' w' h1 h2 => hK' _ _ (h v' w' h1 h2)
theorem newQ {w : World} {x : RQ} {t : TypeId} : ∀ j u, (cellsQ [x])[j]? = some u → (w.alloc (.cells #[.int .u8 x.1.v, .bool x.1.s, .int .u8 x.2.p, .int .u8 x.2.s] t)).cell? ⟨w.heap.size, j, none⟩ = some u := by
  intro j u hj
  refine (blk_cell (blk_new w _) j).trans ?_
  have hj4 : j < 4 := by have := (List.getElem?_eq_some_iff.1 hj).1; rwa [cellsQ_len] at this
  match j, hj4, hj with
  | 0, _, hj => simpa [cellsQ, cell4] using hj
  | 1, _, hj => simpa [cellsQ, cell4] using hj
  | 2, _, hj => simpa [cellsQ, cell4] using hj
  | 3, _, hj => simpa [cellsQ, cell4] using hj
theorem newQ3 {w : World} {x y z : RQ} {t : TypeId} : ∀ j u, (cellsQ [x, y, z])[j]? = some u → (w.alloc (.cells #[.int .u8 x.1.v, .bool x.1.s, .int .u8 x.2.p, .int .u8 x.2.s, .int .u8 y.1.v, .bool y.1.s, .int .u8 y.2.p, .int .u8 y.2.s, .int .u8 z.1.v, .bool z.1.s, .int .u8 z.2.p, .int .u8 z.2.s] t)).cell? ⟨w.heap.size, j, none⟩ = some u := by
  intro j u hj
  refine (blk_cell (blk_new w _) j).trans ?_
  rw [← hj]
  simp [cellsQ, cell4]
def toldL (f : Fl) (a m : By) (bit : Int) (brk : Bool) : List RQ :=
  [(adcB f a m, adcF f a m), (adcB f a (sbcM m), adcF f a (sbcM m)), (sbxB a m, sbxF f a m), (aslB a, aslF f a), (lsrB a, lsrF f a), (rolB f a, rolF f a), (rorB f a, rorF f a), (arrB f a m, arrF f a m), (getF f bit, setF f bit a), (pushB f brk, pullF a), (⟨0, false⟩, sbxF f a m), (⟨0, false⟩, bitF f a m), (⟨0, false⟩, nzF f a)]
end Go.Proofs.Ytdgjenlejalgeaa
