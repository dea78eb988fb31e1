import Derived.Test.YtdmcmlajpajaaaaSg3
import Derived.Laws.AppendOwnNone
namespace Go.Proofs.Ytdmcmlajpajaaaa
open Go.RowKit Go.Sx
abbrev BL := List (Int × Bool)
def cellsL (L : BL) : List Value := L.flatMap fun p => [.int .u8 p.1, .bool p.2]
def vL (L : BL) (i : Nat) : Int := (L.getD i (0, false)).1
def sL (L : BL) (i : Nat) : Bool := (L.getD i (0, false)).2
/-- A list of bytes in memory. -/
def RowL (w : World) (ao : Option Addr) (L : BL) : Prop := RowAt w ao L.length 2 (ByC (vL L) (sL L))
theorem cellsL_len (L : BL) : (cellsL L).length = L.length * 2 := by
  unfold cellsL; induction L with
  | nil => rfl
  | cons p L ih => simp [List.flatMap_cons] at ih ⊢; omega
theorem cellsL_app (L M : BL) : cellsL (L ++ M) = cellsL L ++ cellsL M := by unfold cellsL; rw [List.flatMap_append]
theorem cellsL_get : ∀ {L : BL} {i j : Nat}, i < L.length → j < 2 → (cellsL L)[i * 2 + j]? = some (ByC (vL L) (sL L) i j)
  | [], i, j, h, _ => by simp at h
  | p :: L, i, j, h, hj => by
    unfold cellsL
    rw [List.flatMap_cons]
    match i, j, hj with
    | 0, 0, _ => simp [ByC, vL]
    | 0, 1, _ => simp [ByC, sL]
    | i + 1, j, hj =>
      rw [List.getElem?_append_right (by simp; omega)]
      have := cellsL_get (L := L) (i := i) (j := j) (by simpa using h) hj
      unfold cellsL at this
      rw [show (i + 1) * 2 + j - [Value.int .u8 p.1, Value.bool p.2].length = i * 2 + j by simp; omega, this]
      simp [ByC, vL, sL]
theorem anyL_list (L : BL) : (List.range L.length).any (sL L) = L.any (·.2) := by
  rw [Bool.eq_iff_iff, List.any_eq_true, List.any_eq_true]
  constructor
  · rintro ⟨i, hi, hs⟩
    have hi' : i < L.length := by simpa using hi
    refine ⟨L[i], List.getElem_mem hi', ?_⟩
    simpa [sL, List.getD_eq_getElem?_getD, hi'] using hs
  · rintro ⟨p, hp, hs⟩
    obtain ⟨i, hi, rfl⟩ := List.getElem_of_mem hp
    exact ⟨i, by simpa using hi, by simpa [sL, List.getD_eq_getElem?_getD, hi] using hs⟩
theorem RowL.cells {w : World} {ad : Addr} {L : BL} (h : RowL w (some ad) L) : ∀ j u, (cellsL L)[j]? = some u → w.cell? (ad.add j) = some u := by
  intro j u hj
  have hlt : j < L.length * 2 := by
    have := (List.getElem?_eq_some_iff.1 hj).1
    rwa [cellsL_len] at this
  have hi : j / 2 < L.length := by omega
  obtain ⟨b, off, e, _, hc⟩ := h (j / 2) hi
  cases e
  have h1 := hc (j % 2) (by omega)
  have h2 := cellsL_get (L := L) (i := j / 2) (j := j % 2) hi (by omega)
  rw [show j / 2 * 2 + j % 2 = j by omega, hj] at h2
  cases h2
  rw [show off + j / 2 * 2 + j % 2 = off + j by omega] at h1
  rw [← h1]
  congr 1
  unfold Addr.add
  split
  · next h0 => subst h0; rfl
  · rfl
/-- A list of bytes that the call owns. -/
def OwnL (w : World) (base g cap : Nat) (L : BL) : Prop := w.ownsRow base 24 2 (.slice (some ⟨g, 0, none⟩) L.length cap) L.length (cellsL L)
theorem OwnL.row {w : World} {base g cap : Nat} {L : BL} (h : OwnL w base g cap L) : RowL w (some ⟨g, 0, none⟩) L := by
  intro i hi
  have hlt := h.lt g rfl
  refine ⟨g, 0, rfl, hlt.2, fun j hj => ?_⟩
  have := World.ownsRow.cellAt h (i * 2 + j) (by omega)
  rw [cellsL_get hi hj] at this
  rw [Nat.zero_add]; exact this
theorem OwnL.same {w w' : World} {base g cap : Nat} {L : BL} (h : OwnL w base g cap L) (e : w'.heap[g]? = w.heap[g]?) : OwnL w' base g cap L := by
  unfold OwnL at h ⊢
  refine ⟨h.1, ?_⟩
  rcases h.2 with ⟨h', _⟩ | ⟨g', cap', cur, h', r⟩
  · cases h'
  · cases h'
    exact .inr ⟨g, cap, cur, rfl, r.1, by rw [e]; exact r.2.1, r.2.2⟩
theorem OwnL.below {w w' : World} {base g cap : Nat} {L : BL} (h : OwnL w base g cap L) (hb : Below w.heap.size w w') : OwnL w' base g cap L := h.same (hb.block g (World.ownsRow.lt h g rfl).2)
/-- What an append onto bytes that the call owns brings. -/
theorem app_run {w : World} {base g cap : Nat} {L M : BL} (ty : TypeId) (hown : OwnL w base g cap L) (a : Addr) (c : Nat) (hM : RowL w (some a) M) (hlen : L.length + M.length ≤ 1000000) (hbase : base ≤ w.heap.size) :
    ∃ g' cap' w', (Builtin.append_ #[22, 22] ty #[.slice (some ⟨g, 0, none⟩) L.length cap, .slice (some a) M.length c]).run Try.prog w = .ok (.slice (some ⟨g', 0, none⟩) (L ++ M).length cap') w' ∧
      OwnL w' base g' cap' (L ++ M) ∧ OwnL w' base g cap L ∧ w.grownBy w' (some g) ∧ (g' = g ∨ w.heap.size ≤ g') := by
  obtain ⟨i0, hi, hz0, hz1, hz2⟩ := info_parts infoB
  have h1 : ∀ u ∈ cellsL M, u.oneCell' = true := by
    intro u hu
    unfold cellsL at hu
    simp only [List.mem_flatMap] at hu
    obtain ⟨p, _, hp⟩ := hu
    simp at hp
    rcases hp with rfl | rfl <;> rfl
  have hl2 : (cellsL M).length = M.length * 2 := cellsL_len M
  obtain ⟨v', w', hr, h2, h3, h4⟩ := run_append_own (P := Try.prog) w base 22 ty 24 i0 _ 2 2 Try.underlying22 hi hz0 hz1 hz2 rfl (by decide) _ _ _ hown a M.length c (cellsL M) hl2 hM.cells h1 (by unfold maxLen; omega) (by omega) hbase
  have hnn : v' ≠ .slice none 0 0 := fun e => by have := (h4.1 e).1; cases this
  rw [← cellsL_app, ← List.length_append] at h2
  obtain ⟨g', cap', rfl⟩ : ∃ g' cap', v' = .slice (some ⟨g', 0, none⟩) (L ++ M).length cap' := by
    rcases h2.2 with ⟨e, _⟩ | ⟨g', cap', cur, e, _⟩
    · exact absurd (by rw [e]) hnn
    · exact ⟨g', cap', e⟩
  suffices hh : OwnL w' base g cap L ∧ (g' = g ∨ w.heap.size ≤ g') from ⟨g', cap', w', hr, h2, hh.1, h3, hh.2⟩
  obtain ⟨hlenL, hv⟩ := hown
  rcases hv with ⟨e, _⟩ | ⟨g0, cap0, cur, e, hbg, hg, hnc, hcm, hcs, htake⟩
  · cases e
  cases e
  by_cases hroom : L.length + M.length ≤ cap
  · have hfit : L.length * i0.size + (cellsL M).length ≤ cur.size := by rw [hz1, hl2, hcs, ← Nat.add_mul]; exact Nat.mul_le_mul_right _ hroom
    have hr2 := run_append_room (P := Try.prog) w 22 ty 24 i0 Try.underlying22 hi g L.length cap cur hg a M.length c (cellsL M) (by rw [hz1]; exact hl2) hM.cells h1 hroom hfit
    rw [hr] at hr2
    injection hr2 with hv2 hw
    subst hw
    refine ⟨?_, .inl (by injection hv2 with e; cases e; rfl)⟩
    rw [hz1]
    have hcl : L.length * 2 ≤ cur.size := by rw [hcs]; exact Nat.mul_le_mul_right _ hnc
    refine ⟨hlenL, .inr ⟨g, cap, _, rfl, hbg, setRow_heap w g cur _ 24 _ hg, hnc, hcm, ?_, ?_⟩⟩
    · simp only [List.size_toArray, List.length_append, List.length_take, List.length_drop, Array.length_toList, hl2, ← hcs]
      rw [hz1, hl2] at hfit
      omega
    · simp only [List.append_assoc]
      rw [List.take_append_of_le_length (by simp; omega), List.take_take, Nat.min_self, htake]
  · have holds : ∀ j u, (cellsL L)[j]? = some u → w.cell? ((⟨g, 0, none⟩ : Addr).add j) = some u := World.ownsRow.cells (v := .slice (some ⟨g, 0, none⟩) L.length cap) ⟨hlenL, .inr ⟨g, cap, cur, rfl, hbg, hg, hnc, hcm, hcs, htake⟩⟩ (g := g) rfl
    have hr2 := run_append_grow (P := Try.prog) w 22 ty 24 i0 _ Try.underlying22 hi hz0 ⟨g, 0, none⟩ L.length cap (cellsL L) (by rw [hz1]; exact cellsL_len L) holds a M.length c (cellsL M) (by rw [hz1]; exact hl2) hM.cells (by omega) (by omega) (growslice_fits (by omega) (by rw [hz2]; omega))
    rw [hr] at hr2
    injection hr2 with hv2 hw
    subst hw
    refine ⟨?_, .inr (by injection hv2 with e; cases e; exact Nat.le_refl _)⟩
    refine ⟨hlenL, .inr ⟨g, cap, cur, rfl, hbg, ?_, hnc, hcm, hcs, htake⟩⟩
    rw [Below.heap_alloc _ _ _ (by exact (Array.getElem?_eq_some_iff.1 hg).1)]
    exact hg
theorem app_law {w : World} {ops : Array Oper} {rest : List Oper} {o : Oper} {a : Act} {Q : Exit → Act → World → Prop} (hw : Region.wanted o (yielded ops a.tmps) = true) (s x : Operand)
    (ho : o.op = .call { callee := .builtin .append, args := #[s, x], argTypes := #[22, 22] }) {base g cap n m : Nat} {L M : BL} (hs : a.eval s = .slice (some ⟨g, 0, none⟩) n cap) (hown : OwnL w base g cap L)
    (ao : Option Addr) (c : Nat) (hx : a.eval x = .slice ao m c) (hn : n = L.length) (hm : m = M.length) (hnil : ao = none → M.length = 0 ∧ c = 0) (hM : RowL w ao M) (hlen : L.length + M.length ≤ 1000000) (hbase : base ≤ w.heap.size)
    (h : ∀ g' cap' w', OwnL w' base g' cap' (L ++ M) → OwnL w' base g cap L → w.grownBy w' (some g) → (g' = g ∨ w.heap.size ≤ g') → wpList Try.prog ops Q rest (a.put o.dst (.slice (some ⟨g', 0, none⟩) (n + m) cap')) w') : wpList Try.prog ops Q (o :: rest) a w := by
  subst hn
  subst hm
  rw [← List.length_append] at h
  refine wpList_step fun K hK => ?_
  rw [if_pos hw]
  cases ao with
  | none =>
    obtain ⟨hm, rfl⟩ := hnil rfl
    obtain rfl : M = [] := List.eq_nil_of_length_eq_zero hm
    obtain ⟨i0, hi, hz0, hz1, hz2⟩ := info_parts infoB
    have hrun := run_append_owned_none (P := Try.prog) (w := w) base 22 o.type 24 i0 2 Try.underlying22 hi _ _ _ hown
    have hx' : a.eval x = .slice none 0 0 := hx
    unfold Oper.wp
    simp [execOp, ho, resolve, invoke, builtin, hs, hx', hrun, Result.andThen]
    have := h g cap w (by rw [List.append_nil]; exact hown) hown ⟨rfl, rfl, rfl, Nat.le_refl _, fun _ _ _ => rfl⟩ (.inl rfl)
    rw [List.append_nil] at this
    exact hK _ _ this
  | some ad =>
    obtain ⟨g', cap', w', hr, h1, h2, h3, h4⟩ := app_run o.type hown ad c hM hlen hbase
    unfold Oper.wp
    simp [execOp, ho, resolve, invoke, builtin, hs, hx, hr, Result.andThen]
    have := hK _ _ (h g' cap' w' h1 h2 h3 h4)
    simp only [List.length_append] at this
    exact this
theorem own_new (w : World) (base : Nat) (hb : base ≤ w.heap.size) : OwnL (w.alloc (.cells #[] 24)) base w.heap.size 0 [] :=
  ⟨rfl, .inr ⟨w.heap.size, 0, #[], rfl, hb, by show (w.heap.push _)[w.heap.size]? = _; simp, Nat.le_refl _, by decide, rfl, rfl⟩⟩
end Go.Proofs.Ytdmcmlajpajaaaa
