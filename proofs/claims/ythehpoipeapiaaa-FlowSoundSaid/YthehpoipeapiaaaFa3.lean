import Derived.Test.YthehpoipeapiaaaFa2
namespace Go.Proofs.Ythehpoipeapiaaa
open Go.RowKit Go.Sx Go.MapKept
/-! A map of integers by integers -/
def lk : List (Int × Int) → Int → Option Int
  | [], _ => none
  | (a, b) :: l, s => if s = a then some b else lk l s
def Rep : List MapEntry → List (Int × Int) → Prop
  | [], [] => True
  | e :: es, p :: l => e.key = .int .i64 p.1 ∧ e.val = .int .i64 p.2 ∧ Rep es l
  | _, _ => False
theorem find_rep (s : Int) : ∀ (es : List MapEntry) (l : List (Int × Int)) (i : Nat), Rep es l →
    (Instr.findNow (.int .i64) (.int .i64 s) es i = some none ∧ lk l s = none) ∨ ∃ j v, Instr.findNow (.int .i64) (.int .i64 s) es i = some (some (i + j, .int .i64 v)) ∧ lk l s = some v ∧ (∃ e, es[j]? = some e ∧ e.key = .int .i64 s) ∧
      ∀ x : Int, Rep (es.modify j fun e => { e with key := .int .i64 s, val := .int .i64 x }) (l.set j (s, x)) ∧ ∀ s', lk (l.set j (s, x)) s' = if s' = s then some x else lk l s'
  | [], [], i, _ => .inl ⟨rfl, rfl⟩
  | e :: es, p :: l, i, h => by
    obtain ⟨h1, h2, h3⟩ := h
    by_cases hs : s = p.1
    · refine .inr ⟨0, p.2, ?_, by simp [lk, hs], ⟨e, rfl, by rw [h1, hs]⟩, fun x => ⟨⟨rfl, rfl, h3⟩, fun s' => ?_⟩⟩
      · simp [Instr.findNow, h1, h2, Instr.sameNow, hs]
      · obtain ⟨a, b⟩ := p
        simp only at hs
        subst hs
        simp only [List.set_cons_zero, lk]
        split <;> rfl
    · have hf : ∀ i, Instr.findNow (.int .i64) (.int .i64 s) (e :: es) i = Instr.findNow (.int .i64) (.int .i64 s) es (i + 1) := fun i => by
        have hb : (s == p.1) = false := by simpa using hs
        simp [Instr.findNow, h1, Instr.sameNow, hb]
      have hlk : lk (p :: l) s = lk l s := by simp [lk, hs]
      rcases find_rep s es l (i + 1) h3 with ⟨k1, k2⟩ | ⟨j, v, k1, k2, k3, k4⟩
      · exact .inl ⟨(hf i).trans k1, hlk.trans k2⟩
      · refine .inr ⟨j + 1, v, (hf i).trans (by rw [k1]; congr 3; omega), hlk.trans k2, k3, fun x => ⟨⟨h1, h2, (k4 x).1⟩, fun s' => ?_⟩⟩
        simp only [List.set_cons_succ, lk, (k4 x).2]
        split
        · next e' => rw [if_neg (by rw [e']; exact fun h => hs h.symm)]
        · rfl
  | [], _ :: _, _, h => h.elim
  | _ :: _, [], _, h => h.elim
theorem rep_push : ∀ (es : List MapEntry) (l : List (Int × Int)) (s x : Int) (b : Nat), Rep es l → Rep (es ++ [{ key := .int .i64 s, val := .int .i64 x, born := b }]) (l ++ [(s, x)])
  | [], [], _, _, _, _ => ⟨rfl, rfl, trivial⟩
  | _ :: es, _ :: l, s, x, b, h => ⟨h.1, h.2.1, rep_push es l s x b h.2.2⟩
  | [], _ :: _, _, _, _, h => h.elim
  | _ :: _, [], _, _, _, h => h.elim
theorem lk_push : ∀ (l : List (Int × Int)) (s x s' : Int), lk l s = none → lk (l ++ [(s, x)]) s' = if s' = s then some x else lk l s'
  | [], s, x, s', _ => by simp [lk]
  | (a, b) :: l, s, x, s', h => by
    simp only [lk] at h
    split at h
    · cases h
    · next hs =>
      simp only [List.cons_append, lk, lk_push l s x s' h]
      split
      · next e => rw [if_neg (by rw [e]; exact fun h => hs h.symm)]
      · rfl
def MapI (w : World) (r : Nat) (f : Int → Option Int) : Prop := ∃ es clock l, w.heap[r]? = some (.map es clock) ∧ Rep es.toList l ∧ f = lk l
theorem MapI.new (w : World) : MapI (w.alloc (.map #[] 0)) w.heap.size fun _ => none := ⟨#[], 0, [], blk_new _ _, trivial, rfl⟩
theorem MapI.lt {w : World} {r : Nat} {f : Int → Option Int} (h : MapI w r f) : r < w.heap.size := by
  obtain ⟨es, c, l, h, _⟩ := h
  exact blk_lt h
theorem MapI.below {w w' : World} {r : Nat} {f : Int → Option Int} (h : MapI w r f) (hb : Below w.heap.size w w') : MapI w' r f := by
  have hl := h.lt
  obtain ⟨es, c, l, h, h2⟩ := h
  exact ⟨es, c, l, (hb.block _ hl).trans h, h2⟩
theorem u51 : Try.prog.underlying 51 = some (.map 3 2) := Try.underlying51
theorem MapI.look {w : World} {r : Nat} {f : Int → Option Int} (h : MapI w r f) (s : Int) :
    (Instr.lookup 51 (.map (some r)) (.int .i64 s) true).run Try.prog w = .ok (.tuple #[.int .i64 ((f s).getD 0), .bool (f s).isSome]) w := by
  obtain ⟨es, c, l, hb, hr, rfl⟩ := h
  have hk : Try.prog.underlying 3 = some (.int .i64) := Try.underlying3
  have hz : (zeroValue 2).run Try.prog w = .ok (.int .i64 0) w := by simp [go_sem]
  have hc : ∀ b, (Instr.checkKey b 10000 3 (.int .i64 s)).run Try.prog w = .ok () w := fun b => MapKept.run_checkKey (k := .int .i64 s) hk (by simp [IsKey]) b 9999
  rcases find_rep s es.toList l 0 hr with ⟨k1, k2⟩ | ⟨j, v, k1, k2, _⟩
  · simp [Instr.lookup, run_underlying u51, MapKept.run_getObj_map hb, hc, MapKept.run_findKey hk k1, Result.andThen, hz, k2]
  · simp [Instr.lookup, run_underlying u51, MapKept.run_getObj_map hb, hc, MapKept.run_findKey hk k1, Result.andThen, k2]
theorem MapI.update {w : World} {r : Nat} {f : Int → Option Int} (h : MapI w r f) (s x : Int) :
    ∃ w', (Instr.mapUpdate 51 (.map (some r)) (.int .i64 s) (.int .i64 x)).run Try.prog w = .ok () w' ∧ MapI w' r (fun s' => if s' = s then some x else f s') ∧ w.grownBy w' (some r) := by
  obtain ⟨es, c, l, hb, hr, rfl⟩ := h
  have hk : Try.prog.underlying 3 = some (.int .i64) := Try.underlying3
  have hc : ∀ b, (Instr.checkKey b 10000 3 (.int .i64 s)).run Try.prog w = .ok () w := fun b => MapKept.run_checkKey (k := .int .i64 s) hk (by simp [IsKey]) b 9999
  have hg : ∀ o, w.grownBy { w with heap := w.heap.setIfInBounds r o } (some r) := fun o => ⟨rfl, rfl, rfl, by simp, fun k _ hne => (MapKept.heap_set hb).2 k (fun e => hne (by rw [e]))⟩
  rcases find_rep s es.toList l 0 hr with ⟨k1, k2⟩ | ⟨j, v, k1, k2, ⟨e, he, hke⟩, k4⟩
  · refine ⟨_, by simp [Instr.mapUpdate, run_underlying u51, MapKept.run_getObj_map hb, hc, MapKept.run_findKey hk k1, MapKept.run_setObj_map _ hb, Result.andThen]; rfl, ?_, hg _⟩
    refine ⟨_, _, l ++ [(s, x)], (MapKept.heap_set hb).1, ?_, ?_⟩
    · simpa using rep_push _ _ s x c hr
    · funext s'; exact (lk_push l s x s' k2).symm
  · rw [Nat.zero_add] at k1
    have hj : es[j]? = some e := by simpa using he
    have hst : ∀ w : World, (Instr.keyThatStays (.int .i64 s) (.int .i64 s)).run Try.prog w = .ok (.int .i64 s) w := fun w => by simp [Instr.keyThatStays, Instr.sameBits]
    refine ⟨_, by simp [Instr.mapUpdate, run_underlying u51, MapKept.run_getObj_map hb, hc, MapKept.run_findKey hk k1, hj, hke, hst, MapKept.run_setObj_map _ hb, Result.andThen]; rfl, ?_, hg _⟩
    refine ⟨_, _, l.set j (s, x), (MapKept.heap_set hb).1, ?_, ?_⟩
    · simpa using (k4 x).1
    · funext s'; exact ((k4 x).2 s').symm
end Go.Proofs.Ythehpoipeapiaaa
