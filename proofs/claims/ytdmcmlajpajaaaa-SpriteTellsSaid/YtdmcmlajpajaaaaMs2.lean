import Derived.Test.YtdmcmlajpajaaaaMs1

import Derived.Laws.AppendOwnNone



namespace Go.Proofs.Ytdmcmlajpajaaaa
open Go.RowKit Go.Sx
abbrev BL := List (Int × Bool)
def cellsL (L : BL) : List Value := L.flatMap fun p => [.int .u8 p.1, .bool p.2]
def vL (L : BL) (i : Nat) : Int := (L.getD i (0, false)).1
def sL (L : BL) (i : Nat) : Bool := (L.getD i (0, false)).2
/-- A list of bytes in memory. -/
def RowL (w : World) (ao : Option Addr) (L : BL) : Prop := RowAt w ao L.length 2 (ByC (vL L) (sL L))
theorem cellsL_len (L : BL) : (cellsL L).length = L.length * 2 := by
  unfold cellsL; induction L with
  | nil => rfl
  | cons p L ih => simp [List.flatMap_cons] at ih ⊢; omega
theorem cellsL_app (L M : BL) : cellsL (L ++ M) = cellsL L ++ cellsL M := by unfold cellsL; rw [List.flatMap_append]
theorem cellsL_get : ∀ {L : BL} {i j : Nat}, i < L.length → j < 2 → (cellsL L)[i * 2 + j]? = some (ByC (vL L) (sL L) i j)
  | [], i, j, h, _ => by simp at h
  | p :: L, i, j, h, hj => by
    unfold cellsL
    rw [List.flatMap_cons]
    match i, j, hj with
    | 0, 0, _ => simp [ByC, vL]
    | 0, 1, _ => simp [ByC, sL]
    | i + 1, j, hj =>
      rw [List.getElem?_append_right (by simp; omega)]
      have := cellsL_get (L := L) (i := i) (j := j) (by simpa using h) hj
      unfold cellsL at this
      rw [show (i + 1) * 2 + j - [Value.int .u8 p.1, Value.bool p.2].length = i * 2 + j by simp; omega, this]
      simp [ByC, vL, sL]
theorem anyL_list (L : BL) : (List.range L.length).any (sL L) = L.any (·.2) := by
  rw [Bool.eq_iff_iff, List.any_eq_true, List.any_eq_true]
  constructor
  · rintro ⟨i, hi, hs⟩
    have hi' : i < L.length := by simpa using hi
    refine ⟨L[i], List.getElem_mem hi', ?_⟩
    simpa [sL, List.getD_eq_getElem?_getD, hi'] using hs
  · rintro ⟨p, hp, hs⟩
    obtain ⟨i, hi, rfl⟩ := List.getElem_of_mem hp
    exact ⟨i, by simpa using hi, by simpa [sL, List.getD_eq_getElem?_getD, hi] using hs⟩
theorem RowL.cells {w : World} {ad : Addr} {L : BL} (h : RowL w (some ad) L) : ∀ j u, (cellsL L)[j]? = some u → w.cell? (ad.add j) = some u := by
  intro j u hj
  have hlt : j < L.length * 2 := by
    have := (List.getElem?_eq_some_iff.1 hj).1
    rwa [cellsL_len] at this
  have hi : j / 2 < L.length := by omega
  obtain ⟨b, off, e, _, hc⟩ := h (j / 2) hi
  cases e
  have h1 := hc (j % 2) (by omega)
  have h2 := cellsL_get (L := L) (i := j / 2) (j := j % 2) hi (by omega)
  rw [show j / 2 * 2 + j % 2 = j by omega, hj] at h2
  cases h2
  rw [show off + j / 2 * 2 + j % 2 = off + j by omega] at h1
  rw [← h1]
  congr 1
  unfold Addr.add
  split
  · next h0 => subst h0; rfl
  · rfl
/-- A list of bytes that the call owns. -/
def OwnL (w : World) (base g cap : Nat) (L : BL) : Prop := w.ownsRow base 24 2 (.slice (some ⟨g, 0, none⟩) L.length cap) L.length (cellsL L)
theorem OwnL.row {w : World} {base g cap : Nat} {L : BL} (h : OwnL w base g cap L) : RowL w (some ⟨g, 0, none⟩) L := by
  intro i hi
  have hlt := h.lt g rfl
  refine ⟨g, 0, rfl, hlt.2, fun j hj => ?_⟩
  have := World.ownsRow.cellAt h (i * 2 + j) (by omega)
  rw [cellsL_get hi hj] at this
  rw [Nat.zero_add]; exact this
theorem OwnL.same {w w' : World} {base g cap : Nat} {L : BL} (h : OwnL w base g cap L) (e : w'.heap[g]? = w.heap[g]?) : OwnL w' base g cap L := by
  unfold OwnL at h ⊢
  refine ⟨h.1, ?_⟩
  rcases h.2 with ⟨h', _⟩ | ⟨g', cap', cur, h', r⟩
  · cases h'
  · cases h'
    exact .inr ⟨g, cap, cur, rfl, r.1, by rw [e]; exact r.2.1, r.2.2⟩
theorem OwnL.below {w w' : World} {base g cap : Nat} {L : BL} (h : OwnL w base g cap L) (hb : Below w.heap.size w w') : OwnL w' base g cap L := h.same (hb.block g (World.ownsRow.lt h g rfl).2)
/-- What an append onto bytes that the call owns brings. -/
theorem app_run {w : World} {base g cap : Nat} {L M : BL} (ty : TypeId) (hown : OwnL w base g cap L) (a : Addr) (c : Nat) (hM : RowL w (some a) M) (hlen : L.length + M.length ≤ 1000000) (hbase : base ≤ w.heap.size) :
    ∃ g' cap' w', (Builtin.append_ #[22, 22] ty #[.slice (some ⟨g, 0, none⟩) L.length cap, .slice (some a) M.length c]).run Try.prog w = .ok (.slice (some ⟨g', 0, none⟩) (L ++ M).length cap') w' ∧
      OwnL w' base g' cap' (L ++ M) ∧ OwnL w' base g cap L ∧ w.grownBy w' (some g) ∧ (g' = g ∨ w.heap.size ≤ g') := by
  obtain ⟨i0, hi, hz0, hz1, hz2⟩ := info_parts infoB
  have h1 : ∀ u ∈ cellsL M, u.oneCell' = true := by
    intro u hu
    unfold cellsL at hu
    simp only [List.mem_flatMap] at hu
    obtain ⟨p, _, hp⟩ := hu
    simp at hp
    rcases hp with rfl | rfl <;> rfl
  have hl2 : (cellsL M).length = M.length * 2 := cellsL_len M
  obtain ⟨v', w', hr, h2, h3, h4⟩ := run_append_own (P := Try.prog) w base 22 ty 24 i0 _ 2 2 Try.underlying22 hi hz0 hz1 hz2 rfl (by decide) _ _ _ hown a M.length c (cellsL M) hl2 hM.cells h1 (by unfold maxLen; omega) (by omega) hbase
  have hnn : v' ≠ .slice none 0 0 := fun e => by have := (h4.1 e).1; cases this
  rw [← cellsL_app, ← List.length_append] at h2
  obtain ⟨g', cap', rfl⟩ : ∃ g' cap', v' = .slice (some ⟨g', 0, none⟩) (L ++ M).length cap' := by
    rcases h2.2 with ⟨e, _⟩ | ⟨g', cap', cur, e, _⟩
    · exact absurd (by rw [e]) hnn
    · exact ⟨g', cap', e⟩
  suffices hh : OwnL w' base g cap L ∧ (g' = g ∨ w.heap.size ≤ g') from ⟨g', cap', w', hr, h2, hh.1, h3, hh.2⟩
  obtain ⟨hlenL, hv⟩ := hown
  rcases hv with ⟨e, _⟩ | ⟨g0, cap0, cur, e, hbg, hg, hnc, hcm, hcs, htake⟩
  · cases e
  cases e
  by_cases hroom : L.length + M.length ≤ cap
  · have hfit : L.length * i0.size + (cellsL M).length ≤ cur.size := by rw [hz1, hl2, hcs, ← Nat.add_mul]; exact Nat.mul_le_mul_right _ hroom
    have hr2 := run_append_room (P := Try.prog) w 22 ty 24 i0 Try.underlying22 hi g L.length cap cur hg a M.length c (cellsL M) (by rw [hz1]; exact hl2) hM.cells h1 hroom hfit
    rw [hr] at hr2
    injection hr2 with hv2 hw
    subst hw
    refine ⟨?_, .inl (by injection hv2 with e; cases e; rfl)⟩
    rw [hz1]
    have hcl : L.length * 2 ≤ cur.size := by rw [hcs]; exact Nat.mul_le_mul_right _ hnc
    refine ⟨hlenL, .inr ⟨g, cap, _, rfl, hbg, setRow_heap w g cur _ 24 _ hg, hnc, hcm, ?_, ?_⟩⟩
    · simp only [List.size_toArray, List.length_append, List.length_take, List.length_drop, Array.length_toList, hl2, ← hcs]
      rw [hz1, hl2] at hfit
      omega
    · simp only [List.append_assoc]
      rw [List.take_append_of_le_length (by simp; omega), List.take_take, Nat.min_self, htake]
  · have holds : ∀ j u, (cellsL L)[j]? = some u → w.cell? ((⟨g, 0, none⟩ : Addr).add j) = some u := World.ownsRow.cells (v := .slice (some ⟨g, 0, none⟩) L.length cap) ⟨hlenL, .inr ⟨g, cap, cur, rfl, hbg, hg, hnc, hcm, hcs, htake⟩⟩ (g := g) rfl
    have hr2 := run_append_grow (P := Try.prog) w 22 ty 24 i0 _ Try.underlying22 hi hz0 ⟨g, 0, none⟩ L.length cap (cellsL L) (by rw [hz1]; exact cellsL_len L) holds a M.length c (cellsL M) (by rw [hz1]; exact hl2) hM.cells (by omega) (by omega) (growslice_fits (by omega) (by rw [hz2]; omega))
    rw [hr] at hr2
    injection hr2 with hv2 hw
    subst hw
    refine ⟨?_, .inr (by injection hv2 with e; cases e; exact Nat.le_refl _)⟩
    refine ⟨hlenL, .inr ⟨g, cap, cur, rfl, hbg, ?_, hnc, hcm, hcs, htake⟩⟩
    rw [Below.heap_alloc _ _ _ (by exact (Array.getElem?_eq_some_iff.1 hg).1)]
    exact hg
theorem app_law {w : World} {ops : Array Oper} {rest : List Oper} {o : Oper} {a : Act} {Q : Exit → Act → World → Prop} (hw : Region.wanted o (yielded ops a.tmps) = true) (s x : Operand)
    (ho : o.op = .call { callee := .builtin .append, args := #[s, x], argTypes := #[22, 22] }) {base g cap n m : Nat} {L M : BL} (hs : a.eval s = .slice (some ⟨g, 0, none⟩) n cap) (hown : OwnL w base g cap L)
    (ao : Option Addr) (c : Nat) (hx : a.eval x = .slice ao m c) (hn : n = L.length) (hm : m = M.length) (hnil : ao = none → M.length = 0 ∧ c = 0) (hM : RowL w ao M) (hlen : L.length + M.length ≤ 1000000) (hbase : base ≤ w.heap.size)
    (h : ∀ g' cap' w', OwnL w' base g' cap' (L ++ M) → OwnL w' base g cap L → w.grownBy w' (some g) → (g' = g ∨ w.heap.size ≤ g') → wpList Try.prog ops Q rest (a.put o.dst (.slice (some ⟨g', 0, none⟩) (n + m) cap')) w') : wpList Try.prog ops Q (o :: rest) a w := by
  subst hn
  subst hm
  rw [← List.length_append] at h
  refine wpList_step fun K hK => ?_
  rw [if_pos hw]
  cases ao with
  | none =>
    obtain ⟨hm, rfl⟩ := hnil rfl
    obtain rfl : M = [] := List.eq_nil_of_length_eq_zero hm
    obtain ⟨i0, hi, hz0, hz1, hz2⟩ := info_parts infoB
    have hrun := run_append_owned_none (P := Try.prog) (w := w) base 22 o.type 24 i0 2 Try.underlying22 hi _ _ _ hown
    have hx' : a.eval x = .slice none 0 0 := hx
    unfold Oper.wp
    simp [execOp, ho, resolve, invoke, builtin, hs, hx', hrun, Result.andThen]
    have := h g cap w (by rw [List.append_nil]; exact hown) hown ⟨rfl, rfl, rfl, Nat.le_refl _, fun _ _ _ => rfl⟩ (.inl rfl)
    rw [List.append_nil] at this
    exact hK _ _ this
  | some ad =>
    obtain ⟨g', cap', w', hr, h1, h2, h3, h4⟩ := app_run o.type hown ad c hM hlen hbase
    unfold Oper.wp
    simp [execOp, ho, resolve, invoke, builtin, hs, hx, hr, Result.andThen]
    have := hK _ _ (h g' cap' w' h1 h2 h3 h4)
    simp only [List.length_append] at this
    exact this
theorem own_new (w : World) (base : Nat) (hb : base ≤ w.heap.size) : OwnL (w.alloc (.cells #[] 24)) base w.heap.size 0 [] :=
  ⟨rfl, .inr ⟨w.heap.size, 0, #[], rfl, hb, by show (w.heap.push _)[w.heap.size]? = _; simp, Nat.le_refl _, by decide, rfl, rfl⟩⟩
end Go.Proofs.Ytdmcmlajpajaaaa
namespace Go.Proofs.Ytdmcmlajpajaaaa
open Go.RowKit Go.Sx
theorem adr_no (ao : Option Addr) (n cap : Nat) (i line : Int) (t tb : Bool) (w : World) (h0 : mayB n i line = false) :
    Calls Try.prog 13 #[.slice ao n cap, .int .i64 i, .int .i64 line, .bool t, .bool tb] w fun e w' => e = .returned (.tuple #[.int .u16 0, .bool false, .int .i64 1]) ∧ Below w.heap.size w w' := by
  have H := hidI h0; clear h0
  go_enter Try.func13, Try.ntmps13
  go_wp2_with (go_at_call 23; refine (may_any _ _ _ _ _ _).mono ?_; rw [H.out]; rintro e w' ⟨rfl, rfl⟩)
  refine bodyPost_ret (v := .tuple #[.int .u16 0, .bool false, .int .i64 1]) (by simp [results, Try.results13, go_sem]) rfl ⟨rfl, ?_⟩
  first | exact Below.refl _ _ | exact (Below.refl _ _).alloc (Nat.le_refl _) _
/-- Bytes in memory. -/
structure RW (w : World) (b off : Nat) (V : Nat → Int) (S : Nat → Bool) : Prop where
  lt : b < w.heap.size
  c : ∀ i, i < 256 → ∀ j, j < 2 → w.cell? ⟨b, off + i * 2 + j, none⟩ = some (ByC V S i j)
theorem RW.below {w w' : World} {b off : Nat} {V : Nat → Int} {S : Nat → Bool} (h : RW w b off V S) (hb : Below w.heap.size w w') : RW w' b off V S :=
  ⟨Nat.lt_of_lt_of_le h.lt hb.size, fun i hi j hj => (hb.cell (p := ⟨b, off + i * 2 + j, none⟩) h.lt).trans (h.c i hi j hj)⟩
theorem RW.at {w : World} {b off : Nat} {V : Nat → Int} {S : Nat → Bool} (h : RW w b off V S) (k j o : Nat) (hk : k < 256) (hj : j < 2) (ho : o = off + k * 2 + j) : w.cell? ⟨b, o, none⟩ = some (ByC V S k j) := by rw [ho]; exact h.c k hk j hj
structure VB (V : Nat → Int) : Prop where
  b : ∀ i, i < 256 → 0 ≤ V i ∧ V i ≤ 255
theorem adrR {w : World} {b off : Nat} {V : Nat → Int} {S : Nat → Bool} (h : RW w b off V S) (hV : VB V) (cap : Nat) (hcap : 256 ≤ cap) (i : Nat) (hi64 : i < 64) (line : Int) (hl0 : 0 ≤ line) (hl1 : line ≤ 255) (tall table : Bool) :
    Calls Try.prog 13 #[.slice (some ⟨b, off, none⟩) 256 cap, .int .i64 i, .int .i64 line, .bool tall, .bool table] w fun e w' => e = .returned (.tuple #[.int .u16 (adr (V (4 * i)) (V (4 * i + 1)) (V (4 * i + 2)) line tall table), .bool (S (4 * i) || (S (4 * i + 1) || S (4 * i + 2))), .int .i64 0]) ∧ Below w.heap.size w w' :=
  adr_walk b off cap i _ _ _ line _ _ _ tall table w h.lt hi64 hcap hl0 hl1 (hV.b _ (by omega)).1 (hV.b _ (by omega)).2 (hV.b _ (by omega)).1 (hV.b _ (by omega)).2 (hV.b _ (by omega)).1 (hV.b _ (by omega)).2
    (h.at (4 * i) 0 _ (by omega) (by omega) (by omega)) (h.at (4 * i) 1 _ (by omega) (by omega) (by omega)) (h.at (4 * i + 1) 0 _ (by omega) (by omega) (by omega)) (h.at (4 * i + 1) 1 _ (by omega) (by omega) (by omega)) (h.at (4 * i + 2) 0 _ (by omega) (by omega) (by omega)) (h.at (4 * i + 2) 1 _ (by omega) (by omega) (by omega))
theorem radrR {w : World} {b off : Nat} {V : Nat → Int} {S : Nat → Bool} (h : RW w b off V S) (hV : VB V) (cap : Nat) (hcap : 256 ≤ cap) (i : Nat) (hi64 : i < 64) (line : Int) (hl0 : 0 ≤ line) (hl1 : line ≤ 255) (tall table : Bool) :
    Calls Try.prog 17 #[.slice (some ⟨b, off, none⟩) 256 cap, .int .i64 i, .int .i64 line, .bool tall, .bool table] w fun e w' => e = .returned (.tuple #[.int .u16 (adr (V (4 * i)) (V (4 * i + 1)) (V (4 * i + 2)) line tall table), .bool (S (4 * i) || (S (4 * i + 1) || S (4 * i + 2)))]) ∧ Below w.heap.size w w' :=
  radr_walk b off cap i _ _ _ line _ _ _ tall table w h.lt hi64 hcap hl0 hl1 (hV.b _ (by omega)).1 (hV.b _ (by omega)).2 (hV.b _ (by omega)).1 (hV.b _ (by omega)).2 (hV.b _ (by omega)).1 (hV.b _ (by omega)).2
    (h.at (4 * i) 0 _ (by omega) (by omega) (by omega)) (h.at (4 * i) 1 _ (by omega) (by omega) (by omega)) (h.at (4 * i + 1) 0 _ (by omega) (by omega) (by omega)) (h.at (4 * i + 1) 1 _ (by omega) (by omega) (by omega)) (h.at (4 * i + 2) 0 _ (by omega) (by omega) (by omega)) (h.at (4 * i + 2) 1 _ (by omega) (by omega) (by omega))
def unS (S : Nat → Bool) (i : Nat) (sa sc : Bool) : Bool := S (4 * i) || S (4 * i + 1) || S (4 * i + 2) || S (4 * i + 3) || sa || sc
/-- The unit of a sprite. -/
def unU (V : Nat → Int) (S : Nat → Bool) (i : Nat) (a c : Int) (sa sc : Bool) : Value :=
  unV (V (4 * i + 3)) (if V (4 * i + 2) / 64 % 2 = 1 then rv a else a) (if V (4 * i + 2) / 64 % 2 = 1 then rv c else c) (V (4 * i + 2) % 4) (decide (V (4 * i + 2) / 32 % 2 = 1)) (decide (i = 0)) (unS S i sa sc)
theorem unR {w : World} {b off : Nat} {V : Nat → Int} {S : Nat → Bool} (h : RW w b off V S) (hV : VB V) (cap : Nat) (hcap : 256 ≤ cap) (i : Nat) (hi64 : i < 64) (a c : Int) (sa sc : Bool) (ha0 : 0 ≤ a) (ha1 : a ≤ 255) (hc0 : 0 ≤ c) (hc1 : c ≤ 255) :
    Calls Try.prog 14 #[.slice (some ⟨b, off, none⟩) 256 cap, .int .i64 i, .agg #[.int .u8 a, .bool sa], .agg #[.int .u8 c, .bool sc]] w fun e w' => e = .returned (.tuple #[unU V S i a c sa sc, .int .i64 0]) ∧ Below w.heap.size w w' :=
  un_yes b off cap i _ _ _ _ _ _ _ _ a c sa sc w h.lt hi64 hcap (hV.b _ (by omega)).1 (hV.b _ (by omega)).2 ha0 ha1 hc0 hc1
    (h.at (4 * i) 0 _ (by omega) (by omega) (by omega)) (h.at (4 * i) 1 _ (by omega) (by omega) (by omega)) (h.at (4 * i + 1) 0 _ (by omega) (by omega) (by omega)) (h.at (4 * i + 1) 1 _ (by omega) (by omega) (by omega)) (h.at (4 * i + 2) 0 _ (by omega) (by omega) (by omega)) (h.at (4 * i + 2) 1 _ (by omega) (by omega) (by omega)) (h.at (4 * i + 3) 0 _ (by omega) (by omega) (by omega)) (h.at (4 * i + 3) 1 _ (by omega) (by omega) (by omega))
theorem runR {w : World} {b off : Nat} {V : Nat → Int} {S : Nat → Bool} (h : RW w b off V S) (hV : VB V) (cap : Nat) (i : Nat) (hi64 : i < 64) (a c : Int) (sa sc : Bool) (ha0 : 0 ≤ a) (ha1 : a ≤ 255) (hc0 : 0 ≤ c) (hc1 : c ≤ 255) :
    Calls Try.prog 18 #[.slice (some ⟨b, off, none⟩) 256 cap, .int .i64 i, .agg #[.int .u8 a, .bool sa], .agg #[.int .u8 c, .bool sc]] w fun e w' => e = .returned (unU V S i a c sa sc) ∧ Below w.heap.size w w' := by
  have := runit b off cap i (V (4 * i + 2)) (V (4 * i + 3)) (fun k => S (4 * i + k)) a c sa sc w h.lt hi64 (hV.b _ (by omega)).1 (hV.b _ (by omega)).2 ha0 ha1 hc0 hc1
    (h.at (4 * i + 2) 0 _ (by omega) (by omega) (by omega)) (h.at (4 * i + 3) 0 _ (by omega) (by omega) (by omega)) (fun k hk => h.at (4 * i + k) 1 _ (by omega) (by omega) (by omega))
  have e : accS (fun k => S (4 * i + k)) (sa || sc) 4 = unS S i sa sc := by
    simp only [accS, unS, List.range, List.range.loop, List.any_cons, List.any_nil, Nat.add_zero]
    cases sa <;> cases sc <;> simp [Bool.or_assoc]
  rw [e] at this
  exact this
/-- What is asked, in a block of its own. -/
structure QW (w wk : World) (I line lv hv x : Int) (t tb ls hs : Bool) : Prop where
  b : wk.heap[w.heap.size]? = some (.cells #[.int .i64 I, .int .i64 line, .bool t, .bool tb, .int .u8 lv, .bool ls, .int .u8 hv, .bool hs, .int .i64 x] 26 (0, 0))
  bl : Below w.heap.size w wk
theorem QW.below {w wk wl : World} {I line lv hv x : Int} {t tb ls hs : Bool} (h : QW w wk I line lv hv x t tb ls hs) (hb : Below wk.heap.size wk wl) : QW w wl I line lv hv x t tb ls hs :=
  ⟨(hb.block _ (blk_lt h.b)).trans h.b, h.bl.trans (hb.mono h.bl.size)⟩
theorem QW.new (w : World) (I line lv hv x : Int) (t tb ls hs : Bool) : QW w (w.alloc (.cells #[.int .i64 I, .int .i64 line, .bool t, .bool tb, .int .u8 lv, .bool ls, .int .u8 hv, .bool hs, .int .i64 x] 26)) I line lv hv x t tb ls hs :=
  ⟨blk_new _ _, (Below.refl _ _).alloc (Nat.le_refl _) _⟩
end Go.Proofs.Ytdmcmlajpajaaaa
namespace Go.Proofs.Ytdmcmlajpajaaaa
open Go.RowKit Go.Sx
abbrev askV (I line lv hv x : Int) (t tb ls hs : Bool) : Value := .agg #[.int .i64 I, .int .i64 line, .bool t, .bool tb, .int .u8 lv, .bool ls, .int .u8 hv, .bool hs, .int .i64 x]
set_option maxRecDepth 100000 in
set_option maxHeartbeats 3200000 in
theorem tells_yes (b off n cap : Nat) (V : Nat → Int) (S : Nat → Bool) (i : Nat) (line lv hv x : Int) (t tb ls hs : Bool) (w : World) (hR : RW w b off V S) (hV : VB V) (hc : n ≤ cap) (hn : min n 257 = 256) (hi64 : i < 64) (hl0 : 0 ≤ line) (hl1 : line ≤ 255)
    (hv0 : 0 ≤ lv) (hv1 : lv ≤ 255) (hw0 : 0 ≤ hv) (hw1 : hv ≤ 255) :
    Calls Try.prog 6 #[.slice (some ⟨b, off, none⟩) n cap, askV i line lv hv x t tb ls hs] w fun e w' => e = .returned (.bool true) ∧ Below w.heap.size w w' := by
  have HN := hidI hn; clear hn
  have M0 : Hid (mayB 256 0 line = true) := by show mayB _ _ _ = true; unfold mayB; rw [decide_eq_true_iff]; omega
  have MI : Hid (mayB 256 i line = true) := by show mayB _ _ _ = true; unfold mayB; rw [decide_eq_true_iff]; omega
  have MU : Hid (mayB 256 i 0 = true) := by show mayB _ _ _ = true; unfold mayB; rw [decide_eq_true_iff]; omega
  go_enter Try.func6, Try.ntmps6
  go_wp2_with fail
  refine (few_any _ n cap _ hc).mono ?_
  rw [HN.out]
  rintro e w1 ⟨⟨cap', rfl, hc'⟩, rfl⟩
  have Q1 := QW.new w i line lv hv x t tb ls hs
  have R1 := hR.below ((Below.refl w.heap.size w).alloc (Nat.le_refl _) (.cells #[.int .i64 i, .int .i64 line, .bool t, .bool tb, .int .u8 lv, .bool ls, .int .u8 hv, .bool hs, .int .i64 x] 26))
  go_wp2_with fail
  refine (Find_yes b off cap' V S line t _ R1.lt hc' hl0 hl1 hV.b R1.c).mono ?_
  rintro e w2 ⟨ao, m, cp, rfl, hm, hmc, hr2, hb2⟩
  have Q2 := Q1.below hb2
  have R2 := R1.below hb2
  clear R1
  clear Q1
  obtain ⟨mo, hmo⟩ : ∃ mo, mo = decide (8 < (fnd V line t 64).length) := ⟨_, rfl⟩
  obtain ⟨se, hse⟩ : ∃ se, se = secs S 64 := ⟨_, rfl⟩
  rw [← hmo, ← hse]
  have HM := hidI hm; clear hm
  have HMO := hidI hmo; clear hmo
  have HSE := hidI hse; clear hse
  have q0 : w2.cell? ⟨w.heap.size, 0, none⟩ = some (.int .i64 i) := blk_cell Q2.b 0
  have q1 : w2.cell? ⟨w.heap.size, 1, none⟩ = some (.int .i64 line) := blk_cell Q2.b 1
  have q2 : w2.cell? ⟨w.heap.size, 2, none⟩ = some (.bool t) := blk_cell Q2.b 2
  have q3 : w2.cell? ⟨w.heap.size, 3, none⟩ = some (.bool tb) := blk_cell Q2.b 3
  go_wp2_with fail
  clear q0 q1 q2 q3
  refine (adrR R2 hV cap' hc' i hi64 line hl0 hl1 t tb).mono ?_
  rintro e w3 ⟨rfl, hb3⟩
  have Q3 := Q2.below hb3
  have R3 := R2.below hb3
  clear R2
  have A3 := hr2.below hb3
  clear hr2
  clear Q2
  obtain ⟨ad, had⟩ : ∃ ad, ad = adr (V (4 * i)) (V (4 * i + 1)) (V (4 * i + 2)) line t tb := ⟨_, rfl⟩
  obtain ⟨asx, has⟩ : ∃ asx, asx = (S (4 * i) || (S (4 * i + 1) || S (4 * i + 2))) := ⟨_, rfl⟩
  rw [← had, ← has]
  have HAD := hidI had; clear had
  have HAS := hidI has; clear has
  have q0 : w3.cell? ⟨w.heap.size, 0, none⟩ = some (.int .i64 i) := blk_cell Q3.b 0
  have q4 : w3.cell? ⟨w.heap.size, 4, none⟩ = some (.int .u8 lv) := blk_cell Q3.b 4
  have q5 : w3.cell? ⟨w.heap.size, 5, none⟩ = some (.bool ls) := blk_cell Q3.b 5
  have q6 : w3.cell? ⟨w.heap.size, 6, none⟩ = some (.int .u8 hv) := blk_cell Q3.b 6
  have q7 : w3.cell? ⟨w.heap.size, 7, none⟩ = some (.bool hs) := blk_cell Q3.b 7
  go_wp2_with fail
  clear q0 q4 q5 q6 q7
  refine (unR R3 hV cap' hc' i hi64 lv hv ls hs hv0 hv1 hw0 hw1).mono ?_
  rintro e w4 ⟨rfl, hb4⟩
  have Q4 := Q3.below hb4
  have R4 := R3.below hb4
  clear R3
  have A4 := A3.below hb4
  clear A3
  clear Q3
  obtain ⟨u0, u1, u2, u3, u4, u5, u6, hu⟩ : ∃ u0 u1 u2 u3 u4 u5 u6, unU V S i lv hv ls hs = unV u0 u1 u2 u3 u4 u5 u6 := ⟨_, _, _, _, _, _, _, rfl⟩
  rw [hu]
  have HU := hidI hu; clear hu
  clear hb2 hb3 hb4
  have lq : w.heap.size < w4.heap.size := blk_lt Q4.b
  have nq : w.heap.size ≠ w4.heap.size := by omega
  have q1 : w4.cell? ⟨w.heap.size, 1, none⟩ = some (.int .i64 line) := blk_cell Q4.b 1
  go_wp2_with fail
  refine (May_any _ _ _ _ _ _).mono ?_
  rw [M0.out]
  rintro e w5 ⟨rfl, rfl⟩
  clear q1
  have Q5 := Q4.below ((Below.refl w4.heap.size w4).alloc (Nat.le_refl _) (.cells #[.int .u8 u0, .int .u8 u1, .int .u8 u2, .int .u8 u3, .bool u4, .bool u5, .bool u6] 44))
  have R5 := R4.below ((Below.refl w4.heap.size w4).alloc (Nat.le_refl _) (.cells #[.int .u8 u0, .int .u8 u1, .int .u8 u2, .int .u8 u3, .bool u4, .bool u5, .bool u6] 44))
  clear R4
  have A5 := A4.below ((Below.refl w4.heap.size w4).alloc (Nat.le_refl _) (.cells #[.int .u8 u0, .int .u8 u1, .int .u8 u2, .int .u8 u3, .bool u4, .bool u5, .bool u6] 44))
  clear A4
  have U5 := blk_new w4 (.cells #[.int .u8 u0, .int .u8 u1, .int .u8 u2, .int .u8 u3, .bool u4, .bool u5, .bool u6] 44)
  clear Q4
  obtain ⟨w5, hw5⟩ : ∃ w5, w5 = w4.alloc (.cells #[.int .u8 u0, .int .u8 u1, .int .u8 u2, .int .u8 u3, .bool u4, .bool u5, .bool u6] 44) := ⟨_, rfl⟩
  rw [← hw5] at Q5 R5 A5 U5 ⊢
  clear hw5
  obtain ⟨gu, hgu⟩ : ∃ gu, gu = w4.heap.size := ⟨_, rfl⟩
  rw [← hgu] at U5 lq nq ⊢
  clear hgu
  have q1 : w5.cell? ⟨w.heap.size, 1, none⟩ = some (.int .i64 line) := blk_cell Q5.b 1
  have q2 : w5.cell? ⟨w.heap.size, 2, none⟩ = some (.bool t) := blk_cell Q5.b 2
  go_wp2_with fail
  clear q1 q2
  refine (rFind_any b off cap' V S line t _ R5.lt hl0 hl1 hV.b R5.c).mono ?_
  rintro e w6 ⟨bo, m', cp', rfl, hm', hmc', hr6, hb6⟩
  rw [← HMO.out, ← HSE.out]
  obtain rfl : m = m' := by rw [HM.out, hm']
  clear hm'
  have A6 := A5.below hb6
  have Q6 := Q5.below hb6
  have R6 := R5.below hb6
  have U6 := (hb6.block _ (blk_lt U5)).trans U5
  clear hb6 Q5 R5 A5 U5
  have hm8 : m ≤ 1000000 := by have := HM.out; omega
  go_wp2_with fail
  refine (ints_eq ao bo m cp cp' _ w6 hm8 A6 hr6).mono ?_
  rintro e w7 ⟨rfl, hb7⟩
  have Q7 := Q6.below hb7
  have R7 := R6.below hb7
  have U7 := (hb7.block _ (blk_lt U6)).trans U6
  clear hb7 Q6 R6 A6 hr6 U6
  have q0 : w7.cell? ⟨w.heap.size, 0, none⟩ = some (.int .i64 i) := blk_cell Q7.b 0
  have q1 : w7.cell? ⟨w.heap.size, 1, none⟩ = some (.int .i64 line) := blk_cell Q7.b 1
  have q2 : w7.cell? ⟨w.heap.size, 2, none⟩ = some (.bool t) := blk_cell Q7.b 2
  have q3 : w7.cell? ⟨w.heap.size, 3, none⟩ = some (.bool tb) := blk_cell Q7.b 3
  go_wp2_with fail
  refine (May_any _ _ _ _ _ _).mono ?_
  rw [MI.out]
  rintro e w8 ⟨rfl, rfl⟩
  go_wp2_with fail
  refine (radrR R7 hV cap' hc' i hi64 line hl0 hl1 t tb).mono ?_
  rw [← HAD.out, ← HAS.out]
  rintro e w8 ⟨rfl, hb8⟩
  clear q0 q1 q2 q3
  have Q8 := Q7.below hb8
  have R8 := R7.below hb8
  have U8 := (hb8.block _ (blk_lt U7)).trans U7
  clear hb8 Q7 R7 U7
  have q0 : w8.cell? ⟨w.heap.size, 0, none⟩ = some (.int .i64 i) := blk_cell Q8.b 0
  have q4 : w8.cell? ⟨w.heap.size, 4, none⟩ = some (.int .u8 lv) := blk_cell Q8.b 4
  have q5 : w8.cell? ⟨w.heap.size, 5, none⟩ = some (.bool ls) := blk_cell Q8.b 5
  have q6 : w8.cell? ⟨w.heap.size, 6, none⟩ = some (.int .u8 hv) := blk_cell Q8.b 6
  have q7 : w8.cell? ⟨w.heap.size, 7, none⟩ = some (.bool hs) := blk_cell Q8.b 7
  have y0 : w8.cell? ⟨gu, 0, none⟩ = some (.int .u8 u0) := blk_cell U8 0
  have y1 : w8.cell? ⟨gu, 1, none⟩ = some (.int .u8 u1) := blk_cell U8 1
  have y2 : w8.cell? ⟨gu, 2, none⟩ = some (.int .u8 u2) := blk_cell U8 2
  have y3 : w8.cell? ⟨gu, 3, none⟩ = some (.int .u8 u3) := blk_cell U8 3
  have y4 : w8.cell? ⟨gu, 4, none⟩ = some (.bool u4) := blk_cell U8 4
  have y5 : w8.cell? ⟨gu, 5, none⟩ = some (.bool u5) := blk_cell U8 5
  have y6 : w8.cell? ⟨gu, 6, none⟩ = some (.bool u6) := blk_cell U8 6
  go_wp2_with fail
  refine (May_any _ _ _ _ _ _).mono ?_
  rw [MU.out]
  rintro e w9 ⟨rfl, rfl⟩
  go_upto_region 19 with fail
  have hgu : gu < w8.heap.size := blk_lt U8
  have hgw : w.heap.size < w8.heap.size := blk_lt Q8.b
  have hHeld0 : w8.cell? ⟨gu, 0, none⟩ = some (.int .u8 u0) ∧ w8.cell? ⟨gu, 1, none⟩ = some (.int .u8 u1) ∧ w8.cell? ⟨gu, 2, none⟩ = some (.int .u8 u2) ∧ w8.cell? ⟨gu, 3, none⟩ = some (.int .u8 u3) ∧ w8.cell? ⟨gu, 4, none⟩ = some (.bool u4) ∧ w8.cell? ⟨gu, 5, none⟩ = some (.bool u5) ∧ w8.cell? ⟨gu, 6, none⟩ = some (.bool u6) ∧ w8.cell? ⟨w.heap.size, 0, none⟩ = some (.int .i64 i) ∧ w8.cell? ⟨w.heap.size, 4, none⟩ = some (.int .u8 lv) ∧ w8.cell? ⟨w.heap.size, 5, none⟩ = some (.bool ls) ∧ w8.cell? ⟨w.heap.size, 6, none⟩ = some (.int .u8 hv) ∧ w8.cell? ⟨w.heap.size, 7, none⟩ = some (.bool hs) := ⟨y0, y1, y2, y3, y4, y5, y6, q0, q4, q5, q6, q7⟩
  refine wp_region_noPanic ?_
  refine wp_region_held_drew (S := (fun w' => w'.cell? ⟨gu, 0, none⟩ = some (.int .u8 u0) ∧ w'.cell? ⟨gu, 1, none⟩ = some (.int .u8 u1) ∧ w'.cell? ⟨gu, 2, none⟩ = some (.int .u8 u2) ∧ w'.cell? ⟨gu, 3, none⟩ = some (.int .u8 u3) ∧ w'.cell? ⟨gu, 4, none⟩ = some (.bool u4) ∧ w'.cell? ⟨gu, 5, none⟩ = some (.bool u5) ∧ w'.cell? ⟨gu, 6, none⟩ = some (.bool u6) ∧ w'.cell? ⟨w.heap.size, 0, none⟩ = some (.int .i64 i) ∧ w'.cell? ⟨w.heap.size, 4, none⟩ = some (.int .u8 lv) ∧ w'.cell? ⟨w.heap.size, 5, none⟩ = some (.bool ls) ∧ w'.cell? ⟨w.heap.size, 6, none⟩ = some (.int .u8 hv) ∧ w'.cell? ⟨w.heap.size, 7, none⟩ = some (.bool hs))) (by kernel_rfl) hHeld0 (fun hHeld => ?_)
  refine wpAnyH_take (i := 0) (oi := ⟨_, _, _, _, _, _⟩) (v := ?_) rfl (by kernel_rfl) (by kernel_rfl) (by kernel_rfl) (fun _ _ _ h => h) (Or.inl ⟨by rfl, ?_⟩) (by assumption) ?_
  rotate_left
  · (intro w hSw; (try dsimp only at hSw); go_simp); with_reducible rfl
  simp only [Act.put, List.setIfInBounds_toArray, List.set_cons_zero, List.set_cons_succ]
  refine wpAnyH_take (i := 1) (oi := ⟨_, _, _, _, _, _⟩) (v := ?_) rfl (by kernel_rfl) (by kernel_rfl) (by kernel_rfl) (fun _ _ _ h => h) (Or.inl ⟨by rfl, ?_⟩) (by assumption) ?_
  rotate_left
  · (intro w hSw; (try dsimp only at hSw); go_simp); with_reducible rfl
  simp only [Act.put, List.setIfInBounds_toArray, List.set_cons_zero, List.set_cons_succ]
  refine wpAnyH_take (i := 2) (oi := ⟨_, _, _, _, _, _⟩) (v := ?_) rfl (by kernel_rfl) (by kernel_rfl) (by kernel_rfl) (fun _ _ _ h => h) (Or.inl ⟨by rfl, ?_⟩) (by assumption) ?_
  rotate_left
  · (intro w hSw; (try dsimp only at hSw); go_simp); with_reducible rfl
  simp only [Act.put, List.setIfInBounds_toArray, List.set_cons_zero, List.set_cons_succ]
  refine wpAnyH_take (i := 3) (oi := ⟨_, _, _, _, _, _⟩) (v := ?_) rfl (by kernel_rfl) (by kernel_rfl) (by kernel_rfl) (fun _ _ _ h => h) (Or.inl ⟨by rfl, ?_⟩) (by assumption) ?_
  rotate_left
  · (intro w hSw; (try dsimp only at hSw); go_simp); with_reducible rfl
  simp only [Act.put, List.setIfInBounds_toArray, List.set_cons_zero, List.set_cons_succ]
  refine wpAnyH_take (i := 4) (oi := ⟨_, _, _, _, _, _⟩) (v := ?_) rfl (by kernel_rfl) (by kernel_rfl) (by kernel_rfl) (fun _ _ _ h => h) (Or.inl ⟨by rfl, ?_⟩) (by assumption) ?_
  rotate_left
  · (intro w hSw; (try dsimp only at hSw); go_simp); with_reducible rfl
  simp only [Act.put, List.setIfInBounds_toArray, List.set_cons_zero, List.set_cons_succ]
  refine wpAnyH_take (i := 5) (oi := ⟨_, _, _, _, _, _⟩) (v := ?_) rfl (by kernel_rfl) (by kernel_rfl) (by kernel_rfl) (fun _ _ _ h => h) (Or.inl ⟨by rfl, ?_⟩) (by assumption) ?_
  rotate_left
  · (intro w hSw; (try dsimp only at hSw); go_simp); with_reducible rfl
  simp only [Act.put, List.setIfInBounds_toArray, List.set_cons_zero, List.set_cons_succ]
  refine wpAnyH_take (i := 6) (oi := ⟨_, _, _, _, _, _⟩) (v := ?_) rfl (by kernel_rfl) (by kernel_rfl) (by kernel_rfl) (fun _ _ _ h => h) (Or.inl ⟨by rfl, ?_⟩) (by assumption) ?_
  rotate_left
  · (intro w hSw; (try dsimp only at hSw); go_simp); with_reducible rfl
  simp only [Act.put, List.setIfInBounds_toArray, List.set_cons_zero, List.set_cons_succ]
  refine wpAnyH_take (i := 7) (oi := ⟨_, _, _, _, _, _⟩) (v := ?_) rfl (by kernel_rfl) (by kernel_rfl) (by kernel_rfl) (fun _ _ _ h => h) (Or.inl ⟨by rfl, ?_⟩) (by assumption) ?_
  rotate_left
  · (intro w hSw; (try dsimp only at hSw); go_simp); with_reducible rfl
  simp only [Act.put, List.setIfInBounds_toArray, List.set_cons_zero, List.set_cons_succ]
  refine wpAnyH_ready (rs := [8]) (by kernel_rfl) (by simp) ?_
  refine AllReadyH.cons (o := ⟨_, _, _, _, _, _⟩) rfl (fun K hK => ?_) AllReadyH.nil
  go_simp
  refine (runR (R8.below (Below.refl w8.heap.size w8).drew) hV cap' i hi64 lv hv ls hs hv0 hv1 hw0 hw1).mono ?_
  rw [HU.out]
  rintro e w9 ⟨rfl, bx0⟩
  have bx : Below w8.heap.size w8 w9 := (Below.refl w8.heap.size w8).drew.trans bx0
  have B9 := bx
  refine hK.out _ _ (by exact ⟨(bx.cell (by exact hgu)).trans hHeld.1, (bx.cell (by exact hgu)).trans hHeld.2.1, (bx.cell (by exact hgu)).trans hHeld.2.2.1, (bx.cell (by exact hgu)).trans hHeld.2.2.2.1, (bx.cell (by exact hgu)).trans hHeld.2.2.2.2.1, (bx.cell (by exact hgu)).trans hHeld.2.2.2.2.2.1, (bx.cell (by exact hgu)).trans hHeld.2.2.2.2.2.2.1, (bx.cell (by exact hgw)).trans hHeld.2.2.2.2.2.2.2.1, (bx.cell (by exact hgw)).trans hHeld.2.2.2.2.2.2.2.2.1, (bx.cell (by exact hgw)).trans hHeld.2.2.2.2.2.2.2.2.2.1, (bx.cell (by exact hgw)).trans hHeld.2.2.2.2.2.2.2.2.2.2.1, (bx.cell (by exact hgw)).trans hHeld.2.2.2.2.2.2.2.2.2.2.2⟩) (fun hHeld => ?_)
  clear hK K
  refine wpAnyH_take (i := 9) (oi := ⟨_, _, _, _, _, _⟩) (v := ?_) rfl (by kernel_rfl) (by kernel_rfl) (by kernel_rfl) (fun _ _ _ h => h) (Or.inl ⟨by rfl, ?_⟩) (by assumption) ?_
  rotate_left
  · (intro w hSw; (try dsimp only at hSw); go_simp); with_reducible rfl
  simp only [Act.put, List.setIfInBounds_toArray, List.set_cons_zero, List.set_cons_succ]
  refine wpAnyH_take (i := 10) (oi := ⟨_, _, _, _, _, _⟩) (v := ?_) rfl (by kernel_rfl) (by kernel_rfl) (by kernel_rfl) (fun _ _ _ h => h) (Or.inl ⟨by rfl, ?_⟩) (by assumption) ?_
  rotate_left
  · (intro w hSw; (try dsimp only at hSw); go_simp); with_reducible rfl
  simp only [Act.put, List.setIfInBounds_toArray, List.set_cons_zero, List.set_cons_succ]
  refine wpAnyH_take (i := 11) (oi := ⟨_, _, _, _, _, _⟩) (v := ?_) rfl (by kernel_rfl) (by kernel_rfl) (by kernel_rfl) (fun _ _ _ h => h) (Or.inl ⟨by rfl, ?_⟩) (by assumption) ?_
  rotate_left
  · (intro w hSw; (try dsimp only at hSw); go_simp); with_reducible rfl
  simp only [Act.put, List.setIfInBounds_toArray, List.set_cons_zero, List.set_cons_succ]
  refine wpAnyH_take (i := 12) (oi := ⟨_, _, _, _, _, _⟩) (v := ?_) rfl (by kernel_rfl) (by kernel_rfl) (by kernel_rfl) (fun _ _ _ h => h) (Or.inl ⟨by rfl, ?_⟩) (by assumption) ?_
  rotate_left
  · (intro w hSw; (try dsimp only at hSw); go_simp); with_reducible rfl
  simp only [Act.put, List.setIfInBounds_toArray, List.set_cons_zero, List.set_cons_succ]
  refine wpAnyH_take (i := 13) (oi := ⟨_, _, _, _, _, _⟩) (v := ?_) rfl (by kernel_rfl) (by kernel_rfl) (by kernel_rfl) (fun _ _ _ h => h) (Or.inl ⟨by rfl, ?_⟩) (by assumption) ?_
  rotate_left
  · (intro w hSw; (try dsimp only at hSw); go_simp); with_reducible rfl
  simp only [Act.put, List.setIfInBounds_toArray, List.set_cons_zero, List.set_cons_succ]
  refine wpAnyH_take (i := 14) (oi := ⟨_, _, _, _, _, _⟩) (v := ?_) rfl (by kernel_rfl) (by kernel_rfl) (by kernel_rfl) (fun _ _ _ h => h) (Or.inl ⟨by rfl, ?_⟩) (by assumption) ?_
  rotate_left
  · (intro w hSw; (try dsimp only at hSw); go_simp); with_reducible rfl
  simp only [Act.put, List.setIfInBounds_toArray, List.set_cons_zero, List.set_cons_succ]
  refine wpAnyH_ready (rs := [15]) (by kernel_rfl) (by simp) ?_
  refine AllReadyH.cons (o := ⟨_, _, _, _, _, _⟩) rfl (fun K hK => ?_) AllReadyH.nil
  go_simp
  refine (awake_any _).mono ?_
  rintro e wA ⟨rfl, by_⟩
  have bx : Below w8.heap.size w8 wA := B9.trans (by_.mono B9.size)
  have hHeld := hHeld0
  refine hK.out _ _ (by exact ⟨(bx.cell (by exact hgu)).trans hHeld.1, (bx.cell (by exact hgu)).trans hHeld.2.1, (bx.cell (by exact hgu)).trans hHeld.2.2.1, (bx.cell (by exact hgu)).trans hHeld.2.2.2.1, (bx.cell (by exact hgu)).trans hHeld.2.2.2.2.1, (bx.cell (by exact hgu)).trans hHeld.2.2.2.2.2.1, (bx.cell (by exact hgu)).trans hHeld.2.2.2.2.2.2.1, (bx.cell (by exact hgw)).trans hHeld.2.2.2.2.2.2.2.1, (bx.cell (by exact hgw)).trans hHeld.2.2.2.2.2.2.2.2.1, (bx.cell (by exact hgw)).trans hHeld.2.2.2.2.2.2.2.2.2.1, (bx.cell (by exact hgw)).trans hHeld.2.2.2.2.2.2.2.2.2.2.1, (bx.cell (by exact hgw)).trans hHeld.2.2.2.2.2.2.2.2.2.2.2⟩) (fun hHeld => ?_)
  clear hK K
  refine wpAnyH_take (i := 16) (oi := ⟨_, _, _, _, _, _⟩) (v := ?_) rfl (by kernel_rfl) (by kernel_rfl) (by kernel_rfl) (fun _ _ _ h => h) (Or.inl ⟨by rfl, ?_⟩) (by assumption) ?_
  rotate_left
  · (intro w hSw; (try dsimp only at hSw); go_simp); with_reducible rfl
  simp only [Act.put, List.setIfInBounds_toArray, List.set_cons_zero, List.set_cons_succ]
  refine wpAnyH_take (i := 17) (oi := ⟨_, _, _, _, _, _⟩) (v := ?_) rfl (by kernel_rfl) (by kernel_rfl) (by kernel_rfl) (fun _ _ _ h => h) (Or.inl ⟨by rfl, ?_⟩) (by assumption) ?_
  rotate_left
  · (intro w hSw; (try dsimp only at hSw); go_simp); with_reducible rfl
  simp only [Act.put, List.setIfInBounds_toArray, List.set_cons_zero, List.set_cons_succ]
  refine wpAnyH_done (by kernel_rfl) (NoPanic.normal ?_) _
  go_wp2_with fail
  go_ret
  exact ⟨rfl, Q8.bl.trans (bx.mono Q8.bl.size)⟩
set_option maxRecDepth 100000 in
set_option maxHeartbeats 3200000 in
theorem tells_line (b off n cap : Nat) (V : Nat → Int) (S : Nat → Bool) (I : Int) (line lv hv x : Int) (t tb ls hs : Bool) (w : World) (hR : RW w b off V S) (hV : VB V) (hc : n ≤ cap) (hn : min n 257 = 256) (hI : mayB 256 I line = false) (hU : mayB 256 I 0 = false) (hl0 : 0 ≤ line) (hl1 : line ≤ 255)
 :
    Calls Try.prog 6 #[.slice (some ⟨b, off, none⟩) n cap, askV I line lv hv x t tb ls hs] w fun e w' => e = .returned (.bool true) ∧ Below w.heap.size w w' := by
  have HN := hidI hn; clear hn
  have M0 : Hid (mayB 256 0 line = true) := by show mayB _ _ _ = true; unfold mayB; rw [decide_eq_true_iff]; omega
  have MI := hidI hI; clear hI
  have MU := hidI hU; clear hU
  go_enter Try.func6, Try.ntmps6
  go_wp2_with fail
  refine (few_any _ n cap _ hc).mono ?_
  rw [HN.out]
  rintro e w1 ⟨⟨cap', rfl, hc'⟩, rfl⟩
  have Q1 := QW.new w I line lv hv x t tb ls hs
  have R1 := hR.below ((Below.refl w.heap.size w).alloc (Nat.le_refl _) (.cells #[.int .i64 I, .int .i64 line, .bool t, .bool tb, .int .u8 lv, .bool ls, .int .u8 hv, .bool hs, .int .i64 x] 26))
  go_wp2_with fail
  refine (Find_yes b off cap' V S line t _ R1.lt hc' hl0 hl1 hV.b R1.c).mono ?_
  rintro e w2 ⟨ao, m, cp, rfl, hm, hmc, hr2, hb2⟩
  have Q2 := Q1.below hb2
  have R2 := R1.below hb2
  clear R1
  clear Q1
  obtain ⟨mo, hmo⟩ : ∃ mo, mo = decide (8 < (fnd V line t 64).length) := ⟨_, rfl⟩
  obtain ⟨se, hse⟩ : ∃ se, se = secs S 64 := ⟨_, rfl⟩
  rw [← hmo, ← hse]
  have HM := hidI hm; clear hm
  have HMO := hidI hmo; clear hmo
  have HSE := hidI hse; clear hse
  have q0 : w2.cell? ⟨w.heap.size, 0, none⟩ = some (.int .i64 I) := blk_cell Q2.b 0
  have q1 : w2.cell? ⟨w.heap.size, 1, none⟩ = some (.int .i64 line) := blk_cell Q2.b 1
  have q2 : w2.cell? ⟨w.heap.size, 2, none⟩ = some (.bool t) := blk_cell Q2.b 2
  have q3 : w2.cell? ⟨w.heap.size, 3, none⟩ = some (.bool tb) := blk_cell Q2.b 3
  go_wp2_with fail
  clear q0 q1 q2 q3
  refine (adr_no _ _ _ _ _ _ _ _ MI.out).mono ?_
  rintro e w3 ⟨rfl, hb3⟩
  have Q3 := Q2.below hb3
  have R3 := R2.below hb3
  clear R2
  have A3 := hr2.below hb3
  clear hr2
  clear Q2
  have q0 : w3.cell? ⟨w.heap.size, 0, none⟩ = some (.int .i64 I) := blk_cell Q3.b 0
  have q4 : w3.cell? ⟨w.heap.size, 4, none⟩ = some (.int .u8 lv) := blk_cell Q3.b 4
  have q5 : w3.cell? ⟨w.heap.size, 5, none⟩ = some (.bool ls) := blk_cell Q3.b 5
  have q6 : w3.cell? ⟨w.heap.size, 6, none⟩ = some (.int .u8 hv) := blk_cell Q3.b 6
  have q7 : w3.cell? ⟨w.heap.size, 7, none⟩ = some (.bool hs) := blk_cell Q3.b 7
  go_wp2_with fail
  clear q0 q4 q5 q6 q7
  refine (un_no _ _ _ _ _ _ _ _ _ MU.out).mono ?_
  rintro e w4 ⟨rfl, hb4⟩
  have Q4 := Q3.below hb4
  have R4 := R3.below hb4
  clear R3
  have A4 := A3.below hb4
  clear A3
  clear Q3
  clear hb2 hb3 hb4
  have lq : w.heap.size < w4.heap.size := blk_lt Q4.b
  have nq : w.heap.size ≠ w4.heap.size := by omega
  have q1 : w4.cell? ⟨w.heap.size, 1, none⟩ = some (.int .i64 line) := blk_cell Q4.b 1
  go_wp2_with fail
  refine (May_any _ _ _ _ _ _).mono ?_
  rw [M0.out]
  rintro e w5 ⟨rfl, rfl⟩
  clear q1
  have Q5 := Q4.below ((Below.refl w4.heap.size w4).alloc (Nat.le_refl _) (.cells #[.int .u8 0, .int .u8 0, .int .u8 0, .int .u8 0, .bool false, .bool false, .bool false] 44))
  have R5 := R4.below ((Below.refl w4.heap.size w4).alloc (Nat.le_refl _) (.cells #[.int .u8 0, .int .u8 0, .int .u8 0, .int .u8 0, .bool false, .bool false, .bool false] 44))
  clear R4
  have A5 := A4.below ((Below.refl w4.heap.size w4).alloc (Nat.le_refl _) (.cells #[.int .u8 0, .int .u8 0, .int .u8 0, .int .u8 0, .bool false, .bool false, .bool false] 44))
  clear A4
  have U5 := blk_new w4 (.cells #[.int .u8 0, .int .u8 0, .int .u8 0, .int .u8 0, .bool false, .bool false, .bool false] 44)
  clear Q4
  obtain ⟨w5, hw5⟩ : ∃ w5, w5 = w4.alloc (.cells #[.int .u8 0, .int .u8 0, .int .u8 0, .int .u8 0, .bool false, .bool false, .bool false] 44) := ⟨_, rfl⟩
  rw [← hw5] at Q5 R5 A5 U5 ⊢
  clear hw5
  obtain ⟨gu, hgu⟩ : ∃ gu, gu = w4.heap.size := ⟨_, rfl⟩
  rw [← hgu] at U5 lq nq ⊢
  clear hgu
  have q1 : w5.cell? ⟨w.heap.size, 1, none⟩ = some (.int .i64 line) := blk_cell Q5.b 1
  have q2 : w5.cell? ⟨w.heap.size, 2, none⟩ = some (.bool t) := blk_cell Q5.b 2
  go_wp2_with fail
  clear q1 q2
  refine (rFind_any b off cap' V S line t _ R5.lt hl0 hl1 hV.b R5.c).mono ?_
  rintro e w6 ⟨bo, m', cp', rfl, hm', hmc', hr6, hb6⟩
  rw [← HMO.out, ← HSE.out]
  obtain rfl : m = m' := by rw [HM.out, hm']
  clear hm'
  have A6 := A5.below hb6
  have Q6 := Q5.below hb6
  have R6 := R5.below hb6
  have U6 := (hb6.block _ (blk_lt U5)).trans U5
  clear hb6 Q5 R5 A5 U5
  have hm8 : m ≤ 1000000 := by have := HM.out; omega
  go_wp2_with fail
  refine (ints_eq ao bo m cp cp' _ w6 hm8 A6 hr6).mono ?_
  rintro e w7 ⟨rfl, hb7⟩
  have Q7 := Q6.below hb7
  have R7 := R6.below hb7
  have U7 := (hb7.block _ (blk_lt U6)).trans U6
  clear hb7 Q6 R6 A6 hr6 U6
  have q0 : w7.cell? ⟨w.heap.size, 0, none⟩ = some (.int .i64 I) := blk_cell Q7.b 0
  have q1 : w7.cell? ⟨w.heap.size, 1, none⟩ = some (.int .i64 line) := blk_cell Q7.b 1
  have q2 : w7.cell? ⟨w.heap.size, 2, none⟩ = some (.bool t) := blk_cell Q7.b 2
  have q3 : w7.cell? ⟨w.heap.size, 3, none⟩ = some (.bool tb) := blk_cell Q7.b 3
  go_wp2_with fail
  refine (May_any _ _ _ _ _ _).mono ?_
  rw [MI.out]
  rintro e w8 ⟨rfl, rfl⟩
  clear q0 q1 q2 q3
  have Q8 := Q7
  have U8 := U7
  clear Q7 U7
  have R8 := R7
  clear R7
  have q0 : w7.cell? ⟨w.heap.size, 0, none⟩ = some (.int .i64 I) := blk_cell Q8.b 0
  have q4 : w7.cell? ⟨w.heap.size, 4, none⟩ = some (.int .u8 lv) := blk_cell Q8.b 4
  have q5 : w7.cell? ⟨w.heap.size, 5, none⟩ = some (.bool ls) := blk_cell Q8.b 5
  have q6 : w7.cell? ⟨w.heap.size, 6, none⟩ = some (.int .u8 hv) := blk_cell Q8.b 6
  have q7 : w7.cell? ⟨w.heap.size, 7, none⟩ = some (.bool hs) := blk_cell Q8.b 7
  have y0 : w7.cell? ⟨gu, 0, none⟩ = some (.int .u8 0) := blk_cell U8 0
  have y1 : w7.cell? ⟨gu, 1, none⟩ = some (.int .u8 0) := blk_cell U8 1
  have y2 : w7.cell? ⟨gu, 2, none⟩ = some (.int .u8 0) := blk_cell U8 2
  have y3 : w7.cell? ⟨gu, 3, none⟩ = some (.int .u8 0) := blk_cell U8 3
  have y4 : w7.cell? ⟨gu, 4, none⟩ = some (.bool false) := blk_cell U8 4
  have y5 : w7.cell? ⟨gu, 5, none⟩ = some (.bool false) := blk_cell U8 5
  have y6 : w7.cell? ⟨gu, 6, none⟩ = some (.bool false) := blk_cell U8 6
  go_wp2_with fail
  refine (May_any _ _ _ _ _ _).mono ?_
  rw [MU.out]
  rintro e w9 ⟨rfl, rfl⟩
  go_wp2_with fail
  refine (awake_any _).mono ?_
  rintro e wA ⟨rfl, bx⟩
  go_wp2
  go_ret
  exact ⟨rfl, Q8.bl.trans (bx.mono Q8.bl.size)⟩
set_option maxRecDepth 100000 in
set_option maxHeartbeats 3200000 in
theorem tells_i (b off n cap : Nat) (V : Nat → Int) (S : Nat → Bool) (i : Nat) (line lv hv x : Int) (t tb ls hs : Bool) (w : World) (hR : RW w b off V S) (hV : VB V) (hc : n ≤ cap) (hn : min n 257 = 256) (hi64 : i < 64) (h0 : mayB 256 0 line = false) (hI : mayB 256 i line = false)
    (hv0 : 0 ≤ lv) (hv1 : lv ≤ 255) (hw0 : 0 ≤ hv) (hw1 : hv ≤ 255) :
    Calls Try.prog 6 #[.slice (some ⟨b, off, none⟩) n cap, askV i line lv hv x t tb ls hs] w fun e w' => e = .returned (.bool true) ∧ Below w.heap.size w w' := by
  have HN := hidI hn; clear hn
  have M0 := hidI h0; clear h0
  have MI := hidI hI; clear hI
  have MU : Hid (mayB 256 i 0 = true) := by show mayB _ _ _ = true; unfold mayB; rw [decide_eq_true_iff]; omega
  go_enter Try.func6, Try.ntmps6
  go_wp2_with fail
  refine (few_any _ n cap _ hc).mono ?_
  rw [HN.out]
  rintro e w1 ⟨⟨cap', rfl, hc'⟩, rfl⟩
  have Q1 := QW.new w i line lv hv x t tb ls hs
  have R1 := hR.below ((Below.refl w.heap.size w).alloc (Nat.le_refl _) (.cells #[.int .i64 i, .int .i64 line, .bool t, .bool tb, .int .u8 lv, .bool ls, .int .u8 hv, .bool hs, .int .i64 x] 26))
  go_wp2_with fail
  refine (Find_no _ _ _ _ _ _ M0.out).mono ?_
  rintro e w2 ⟨rfl, hb2⟩
  have Q2 := Q1.below hb2
  have R2 := R1.below hb2
  clear R1
  clear Q1
  have q0 : w2.cell? ⟨w.heap.size, 0, none⟩ = some (.int .i64 i) := blk_cell Q2.b 0
  have q1 : w2.cell? ⟨w.heap.size, 1, none⟩ = some (.int .i64 line) := blk_cell Q2.b 1
  have q2 : w2.cell? ⟨w.heap.size, 2, none⟩ = some (.bool t) := blk_cell Q2.b 2
  have q3 : w2.cell? ⟨w.heap.size, 3, none⟩ = some (.bool tb) := blk_cell Q2.b 3
  go_wp2_with fail
  clear q0 q1 q2 q3
  refine (adr_no _ _ _ _ _ _ _ _ MI.out).mono ?_
  rintro e w3 ⟨rfl, hb3⟩
  have Q3 := Q2.below hb3
  have R3 := R2.below hb3
  clear R2
  clear Q2
  have q0 : w3.cell? ⟨w.heap.size, 0, none⟩ = some (.int .i64 i) := blk_cell Q3.b 0
  have q4 : w3.cell? ⟨w.heap.size, 4, none⟩ = some (.int .u8 lv) := blk_cell Q3.b 4
  have q5 : w3.cell? ⟨w.heap.size, 5, none⟩ = some (.bool ls) := blk_cell Q3.b 5
  have q6 : w3.cell? ⟨w.heap.size, 6, none⟩ = some (.int .u8 hv) := blk_cell Q3.b 6
  have q7 : w3.cell? ⟨w.heap.size, 7, none⟩ = some (.bool hs) := blk_cell Q3.b 7
  go_wp2_with fail
  clear q0 q4 q5 q6 q7
  refine (unR R3 hV cap' hc' i hi64 lv hv ls hs hv0 hv1 hw0 hw1).mono ?_
  rintro e w4 ⟨rfl, hb4⟩
  have Q4 := Q3.below hb4
  have R4 := R3.below hb4
  clear R3
  clear Q3
  obtain ⟨u0, u1, u2, u3, u4, u5, u6, hu⟩ : ∃ u0 u1 u2 u3 u4 u5 u6, unU V S i lv hv ls hs = unV u0 u1 u2 u3 u4 u5 u6 := ⟨_, _, _, _, _, _, _, rfl⟩
  rw [hu]
  have HU := hidI hu; clear hu
  clear hb2 hb3 hb4
  have lq : w.heap.size < w4.heap.size := blk_lt Q4.b
  have nq : w.heap.size ≠ w4.heap.size := by omega
  have q1 : w4.cell? ⟨w.heap.size, 1, none⟩ = some (.int .i64 line) := blk_cell Q4.b 1
  go_wp2_with fail
  refine (May_any _ _ _ _ _ _).mono ?_
  rw [M0.out]
  rintro e w5 ⟨rfl, rfl⟩
  clear q1
  have Q5 := Q4.below ((Below.refl w4.heap.size w4).alloc (Nat.le_refl _) (.cells #[.int .u8 u0, .int .u8 u1, .int .u8 u2, .int .u8 u3, .bool u4, .bool u5, .bool u6] 44))
  have R5 := R4.below ((Below.refl w4.heap.size w4).alloc (Nat.le_refl _) (.cells #[.int .u8 u0, .int .u8 u1, .int .u8 u2, .int .u8 u3, .bool u4, .bool u5, .bool u6] 44))
  clear R4
  have U5 := blk_new w4 (.cells #[.int .u8 u0, .int .u8 u1, .int .u8 u2, .int .u8 u3, .bool u4, .bool u5, .bool u6] 44)
  clear Q4
  obtain ⟨w5, hw5⟩ : ∃ w5, w5 = w4.alloc (.cells #[.int .u8 u0, .int .u8 u1, .int .u8 u2, .int .u8 u3, .bool u4, .bool u5, .bool u6] 44) := ⟨_, rfl⟩
  rw [← hw5] at Q5 R5 U5 ⊢
  clear hw5
  obtain ⟨gu, hgu⟩ : ∃ gu, gu = w4.heap.size := ⟨_, rfl⟩
  rw [← hgu] at U5 lq nq ⊢
  clear hgu
  have q0 : w5.cell? ⟨w.heap.size, 0, none⟩ = some (.int .i64 i) := blk_cell Q5.b 0
  have q1 : w5.cell? ⟨w.heap.size, 1, none⟩ = some (.int .i64 line) := blk_cell Q5.b 1
  have q2 : w5.cell? ⟨w.heap.size, 2, none⟩ = some (.bool t) := blk_cell Q5.b 2
  have q3 : w5.cell? ⟨w.heap.size, 3, none⟩ = some (.bool tb) := blk_cell Q5.b 3
  go_wp2_with fail
  refine (May_any _ _ _ _ _ _).mono ?_
  rw [MI.out]
  rintro e w8 ⟨rfl, rfl⟩
  clear q0 q1 q2 q3
  have Q8 := Q5
  have U8 := U5
  clear Q5 U5
  have R8 := R5
  clear R5
  have q0 : w5.cell? ⟨w.heap.size, 0, none⟩ = some (.int .i64 i) := blk_cell Q8.b 0
  have q4 : w5.cell? ⟨w.heap.size, 4, none⟩ = some (.int .u8 lv) := blk_cell Q8.b 4
  have q5 : w5.cell? ⟨w.heap.size, 5, none⟩ = some (.bool ls) := blk_cell Q8.b 5
  have q6 : w5.cell? ⟨w.heap.size, 6, none⟩ = some (.int .u8 hv) := blk_cell Q8.b 6
  have q7 : w5.cell? ⟨w.heap.size, 7, none⟩ = some (.bool hs) := blk_cell Q8.b 7
  have y0 : w5.cell? ⟨gu, 0, none⟩ = some (.int .u8 u0) := blk_cell U8 0
  have y1 : w5.cell? ⟨gu, 1, none⟩ = some (.int .u8 u1) := blk_cell U8 1
  have y2 : w5.cell? ⟨gu, 2, none⟩ = some (.int .u8 u2) := blk_cell U8 2
  have y3 : w5.cell? ⟨gu, 3, none⟩ = some (.int .u8 u3) := blk_cell U8 3
  have y4 : w5.cell? ⟨gu, 4, none⟩ = some (.bool u4) := blk_cell U8 4
  have y5 : w5.cell? ⟨gu, 5, none⟩ = some (.bool u5) := blk_cell U8 5
  have y6 : w5.cell? ⟨gu, 6, none⟩ = some (.bool u6) := blk_cell U8 6
  go_wp2_with fail
  refine (May_any _ _ _ _ _ _).mono ?_
  rw [MU.out]
  rintro e w9 ⟨rfl, rfl⟩
  go_upto_region 19 with fail
  have hgu : gu < w5.heap.size := blk_lt U8
  have hgw : w.heap.size < w5.heap.size := blk_lt Q8.b
  have hHeld0 : w5.cell? ⟨gu, 0, none⟩ = some (.int .u8 u0) ∧ w5.cell? ⟨gu, 1, none⟩ = some (.int .u8 u1) ∧ w5.cell? ⟨gu, 2, none⟩ = some (.int .u8 u2) ∧ w5.cell? ⟨gu, 3, none⟩ = some (.int .u8 u3) ∧ w5.cell? ⟨gu, 4, none⟩ = some (.bool u4) ∧ w5.cell? ⟨gu, 5, none⟩ = some (.bool u5) ∧ w5.cell? ⟨gu, 6, none⟩ = some (.bool u6) ∧ w5.cell? ⟨w.heap.size, 0, none⟩ = some (.int .i64 i) ∧ w5.cell? ⟨w.heap.size, 4, none⟩ = some (.int .u8 lv) ∧ w5.cell? ⟨w.heap.size, 5, none⟩ = some (.bool ls) ∧ w5.cell? ⟨w.heap.size, 6, none⟩ = some (.int .u8 hv) ∧ w5.cell? ⟨w.heap.size, 7, none⟩ = some (.bool hs) := ⟨y0, y1, y2, y3, y4, y5, y6, q0, q4, q5, q6, q7⟩
  refine wp_region_noPanic ?_
  refine wp_region_held_drew (S := (fun w' => w'.cell? ⟨gu, 0, none⟩ = some (.int .u8 u0) ∧ w'.cell? ⟨gu, 1, none⟩ = some (.int .u8 u1) ∧ w'.cell? ⟨gu, 2, none⟩ = some (.int .u8 u2) ∧ w'.cell? ⟨gu, 3, none⟩ = some (.int .u8 u3) ∧ w'.cell? ⟨gu, 4, none⟩ = some (.bool u4) ∧ w'.cell? ⟨gu, 5, none⟩ = some (.bool u5) ∧ w'.cell? ⟨gu, 6, none⟩ = some (.bool u6) ∧ w'.cell? ⟨w.heap.size, 0, none⟩ = some (.int .i64 i) ∧ w'.cell? ⟨w.heap.size, 4, none⟩ = some (.int .u8 lv) ∧ w'.cell? ⟨w.heap.size, 5, none⟩ = some (.bool ls) ∧ w'.cell? ⟨w.heap.size, 6, none⟩ = some (.int .u8 hv) ∧ w'.cell? ⟨w.heap.size, 7, none⟩ = some (.bool hs))) (by kernel_rfl) hHeld0 (fun hHeld => ?_)
  refine wpAnyH_take (i := 0) (oi := ⟨_, _, _, _, _, _⟩) (v := ?_) rfl (by kernel_rfl) (by kernel_rfl) (by kernel_rfl) (fun _ _ _ h => h) (Or.inl ⟨by rfl, ?_⟩) (by assumption) ?_
  rotate_left
  · (intro w hSw; (try dsimp only at hSw); go_simp); with_reducible rfl
  simp only [Act.put, List.setIfInBounds_toArray, List.set_cons_zero, List.set_cons_succ]
  refine wpAnyH_take (i := 1) (oi := ⟨_, _, _, _, _, _⟩) (v := ?_) rfl (by kernel_rfl) (by kernel_rfl) (by kernel_rfl) (fun _ _ _ h => h) (Or.inl ⟨by rfl, ?_⟩) (by assumption) ?_
  rotate_left
  · (intro w hSw; (try dsimp only at hSw); go_simp); with_reducible rfl
  simp only [Act.put, List.setIfInBounds_toArray, List.set_cons_zero, List.set_cons_succ]
  refine wpAnyH_take (i := 2) (oi := ⟨_, _, _, _, _, _⟩) (v := ?_) rfl (by kernel_rfl) (by kernel_rfl) (by kernel_rfl) (fun _ _ _ h => h) (Or.inl ⟨by rfl, ?_⟩) (by assumption) ?_
  rotate_left
  · (intro w hSw; (try dsimp only at hSw); go_simp); with_reducible rfl
  simp only [Act.put, List.setIfInBounds_toArray, List.set_cons_zero, List.set_cons_succ]
  refine wpAnyH_take (i := 3) (oi := ⟨_, _, _, _, _, _⟩) (v := ?_) rfl (by kernel_rfl) (by kernel_rfl) (by kernel_rfl) (fun _ _ _ h => h) (Or.inl ⟨by rfl, ?_⟩) (by assumption) ?_
  rotate_left
  · (intro w hSw; (try dsimp only at hSw); go_simp); with_reducible rfl
  simp only [Act.put, List.setIfInBounds_toArray, List.set_cons_zero, List.set_cons_succ]
  refine wpAnyH_take (i := 4) (oi := ⟨_, _, _, _, _, _⟩) (v := ?_) rfl (by kernel_rfl) (by kernel_rfl) (by kernel_rfl) (fun _ _ _ h => h) (Or.inl ⟨by rfl, ?_⟩) (by assumption) ?_
  rotate_left
  · (intro w hSw; (try dsimp only at hSw); go_simp); with_reducible rfl
  simp only [Act.put, List.setIfInBounds_toArray, List.set_cons_zero, List.set_cons_succ]
  refine wpAnyH_take (i := 5) (oi := ⟨_, _, _, _, _, _⟩) (v := ?_) rfl (by kernel_rfl) (by kernel_rfl) (by kernel_rfl) (fun _ _ _ h => h) (Or.inl ⟨by rfl, ?_⟩) (by assumption) ?_
  rotate_left
  · (intro w hSw; (try dsimp only at hSw); go_simp); with_reducible rfl
  simp only [Act.put, List.setIfInBounds_toArray, List.set_cons_zero, List.set_cons_succ]
  refine wpAnyH_take (i := 6) (oi := ⟨_, _, _, _, _, _⟩) (v := ?_) rfl (by kernel_rfl) (by kernel_rfl) (by kernel_rfl) (fun _ _ _ h => h) (Or.inl ⟨by rfl, ?_⟩) (by assumption) ?_
  rotate_left
  · (intro w hSw; (try dsimp only at hSw); go_simp); with_reducible rfl
  simp only [Act.put, List.setIfInBounds_toArray, List.set_cons_zero, List.set_cons_succ]
  refine wpAnyH_take (i := 7) (oi := ⟨_, _, _, _, _, _⟩) (v := ?_) rfl (by kernel_rfl) (by kernel_rfl) (by kernel_rfl) (fun _ _ _ h => h) (Or.inl ⟨by rfl, ?_⟩) (by assumption) ?_
  rotate_left
  · (intro w hSw; (try dsimp only at hSw); go_simp); with_reducible rfl
  simp only [Act.put, List.setIfInBounds_toArray, List.set_cons_zero, List.set_cons_succ]
  refine wpAnyH_ready (rs := [8]) (by kernel_rfl) (by simp) ?_
  refine AllReadyH.cons (o := ⟨_, _, _, _, _, _⟩) rfl (fun K hK => ?_) AllReadyH.nil
  go_simp
  refine (runR (R8.below (Below.refl w5.heap.size w5).drew) hV cap' i hi64 lv hv ls hs hv0 hv1 hw0 hw1).mono ?_
  rw [HU.out]
  rintro e w9 ⟨rfl, bx0⟩
  have bx : Below w5.heap.size w5 w9 := (Below.refl w5.heap.size w5).drew.trans bx0
  have B9 := bx
  refine hK.out _ _ (by exact ⟨(bx.cell (by exact hgu)).trans hHeld.1, (bx.cell (by exact hgu)).trans hHeld.2.1, (bx.cell (by exact hgu)).trans hHeld.2.2.1, (bx.cell (by exact hgu)).trans hHeld.2.2.2.1, (bx.cell (by exact hgu)).trans hHeld.2.2.2.2.1, (bx.cell (by exact hgu)).trans hHeld.2.2.2.2.2.1, (bx.cell (by exact hgu)).trans hHeld.2.2.2.2.2.2.1, (bx.cell (by exact hgw)).trans hHeld.2.2.2.2.2.2.2.1, (bx.cell (by exact hgw)).trans hHeld.2.2.2.2.2.2.2.2.1, (bx.cell (by exact hgw)).trans hHeld.2.2.2.2.2.2.2.2.2.1, (bx.cell (by exact hgw)).trans hHeld.2.2.2.2.2.2.2.2.2.2.1, (bx.cell (by exact hgw)).trans hHeld.2.2.2.2.2.2.2.2.2.2.2⟩) (fun hHeld => ?_)
  clear hK K
  refine wpAnyH_take (i := 9) (oi := ⟨_, _, _, _, _, _⟩) (v := ?_) rfl (by kernel_rfl) (by kernel_rfl) (by kernel_rfl) (fun _ _ _ h => h) (Or.inl ⟨by rfl, ?_⟩) (by assumption) ?_
  rotate_left
  · (intro w hSw; (try dsimp only at hSw); go_simp); with_reducible rfl
  simp only [Act.put, List.setIfInBounds_toArray, List.set_cons_zero, List.set_cons_succ]
  refine wpAnyH_take (i := 10) (oi := ⟨_, _, _, _, _, _⟩) (v := ?_) rfl (by kernel_rfl) (by kernel_rfl) (by kernel_rfl) (fun _ _ _ h => h) (Or.inl ⟨by rfl, ?_⟩) (by assumption) ?_
  rotate_left
  · (intro w hSw; (try dsimp only at hSw); go_simp); with_reducible rfl
  simp only [Act.put, List.setIfInBounds_toArray, List.set_cons_zero, List.set_cons_succ]
  refine wpAnyH_take (i := 11) (oi := ⟨_, _, _, _, _, _⟩) (v := ?_) rfl (by kernel_rfl) (by kernel_rfl) (by kernel_rfl) (fun _ _ _ h => h) (Or.inl ⟨by rfl, ?_⟩) (by assumption) ?_
  rotate_left
  · (intro w hSw; (try dsimp only at hSw); go_simp); with_reducible rfl
  simp only [Act.put, List.setIfInBounds_toArray, List.set_cons_zero, List.set_cons_succ]
  refine wpAnyH_take (i := 12) (oi := ⟨_, _, _, _, _, _⟩) (v := ?_) rfl (by kernel_rfl) (by kernel_rfl) (by kernel_rfl) (fun _ _ _ h => h) (Or.inl ⟨by rfl, ?_⟩) (by assumption) ?_
  rotate_left
  · (intro w hSw; (try dsimp only at hSw); go_simp); with_reducible rfl
  simp only [Act.put, List.setIfInBounds_toArray, List.set_cons_zero, List.set_cons_succ]
  refine wpAnyH_take (i := 13) (oi := ⟨_, _, _, _, _, _⟩) (v := ?_) rfl (by kernel_rfl) (by kernel_rfl) (by kernel_rfl) (fun _ _ _ h => h) (Or.inl ⟨by rfl, ?_⟩) (by assumption) ?_
  rotate_left
  · (intro w hSw; (try dsimp only at hSw); go_simp); with_reducible rfl
  simp only [Act.put, List.setIfInBounds_toArray, List.set_cons_zero, List.set_cons_succ]
  refine wpAnyH_take (i := 14) (oi := ⟨_, _, _, _, _, _⟩) (v := ?_) rfl (by kernel_rfl) (by kernel_rfl) (by kernel_rfl) (fun _ _ _ h => h) (Or.inl ⟨by rfl, ?_⟩) (by assumption) ?_
  rotate_left
  · (intro w hSw; (try dsimp only at hSw); go_simp); with_reducible rfl
  simp only [Act.put, List.setIfInBounds_toArray, List.set_cons_zero, List.set_cons_succ]
  refine wpAnyH_ready (rs := [15]) (by kernel_rfl) (by simp) ?_
  refine AllReadyH.cons (o := ⟨_, _, _, _, _, _⟩) rfl (fun K hK => ?_) AllReadyH.nil
  go_simp
  refine (awake_any _).mono ?_
  rintro e wA ⟨rfl, by_⟩
  have bx : Below w5.heap.size w5 wA := B9.trans (by_.mono B9.size)
  have hHeld := hHeld0
  refine hK.out _ _ (by exact ⟨(bx.cell (by exact hgu)).trans hHeld.1, (bx.cell (by exact hgu)).trans hHeld.2.1, (bx.cell (by exact hgu)).trans hHeld.2.2.1, (bx.cell (by exact hgu)).trans hHeld.2.2.2.1, (bx.cell (by exact hgu)).trans hHeld.2.2.2.2.1, (bx.cell (by exact hgu)).trans hHeld.2.2.2.2.2.1, (bx.cell (by exact hgu)).trans hHeld.2.2.2.2.2.2.1, (bx.cell (by exact hgw)).trans hHeld.2.2.2.2.2.2.2.1, (bx.cell (by exact hgw)).trans hHeld.2.2.2.2.2.2.2.2.1, (bx.cell (by exact hgw)).trans hHeld.2.2.2.2.2.2.2.2.2.1, (bx.cell (by exact hgw)).trans hHeld.2.2.2.2.2.2.2.2.2.2.1, (bx.cell (by exact hgw)).trans hHeld.2.2.2.2.2.2.2.2.2.2.2⟩) (fun hHeld => ?_)
  clear hK K
  refine wpAnyH_take (i := 16) (oi := ⟨_, _, _, _, _, _⟩) (v := ?_) rfl (by kernel_rfl) (by kernel_rfl) (by kernel_rfl) (fun _ _ _ h => h) (Or.inl ⟨by rfl, ?_⟩) (by assumption) ?_
  rotate_left
  · (intro w hSw; (try dsimp only at hSw); go_simp); with_reducible rfl
  simp only [Act.put, List.setIfInBounds_toArray, List.set_cons_zero, List.set_cons_succ]
  refine wpAnyH_take (i := 17) (oi := ⟨_, _, _, _, _, _⟩) (v := ?_) rfl (by kernel_rfl) (by kernel_rfl) (by kernel_rfl) (fun _ _ _ h => h) (Or.inl ⟨by rfl, ?_⟩) (by assumption) ?_
  rotate_left
  · (intro w hSw; (try dsimp only at hSw); go_simp); with_reducible rfl
  simp only [Act.put, List.setIfInBounds_toArray, List.set_cons_zero, List.set_cons_succ]
  refine wpAnyH_done (by kernel_rfl) (NoPanic.normal ?_) _
  go_wp2_with fail
  go_ret
  exact ⟨rfl, Q8.bl.trans (bx.mono Q8.bl.size)⟩
set_option maxRecDepth 100000 in
set_option maxHeartbeats 3200000 in
theorem tells_no (ao : Option Addr) (n cap : Nat) (I line lv hv x : Int) (t tb ls hs : Bool) (w : World) (hc : n ≤ cap) (h0 : mayB (min n 257) 0 line = false) (hI : mayB (min n 257) I line = false) (hU : mayB (min n 257) I 0 = false) :
    Calls Try.prog 6 #[.slice ao n cap, askV I line lv hv x t tb ls hs] w fun e w' => e = .returned (.bool true) ∧ Below w.heap.size w w' := by
  have M0 := hidI h0; clear h0
  have MI := hidI hI; clear hI
  have MU := hidI hU; clear hU
  go_enter Try.func6, Try.ntmps6
  go_wp2_with fail
  refine (few_any _ n cap _ hc).mono ?_
  rintro e w1 ⟨⟨cap', rfl, hc'⟩, rfl⟩
  have Q1 := QW.new w I line lv hv x t tb ls hs
  go_wp2_with fail
  refine (Find_no _ _ _ _ _ _ M0.out).mono ?_
  rintro e w2 ⟨rfl, hb2⟩
  have Q2 := Q1.below hb2
  clear Q1
  have q0 : w2.cell? ⟨w.heap.size, 0, none⟩ = some (.int .i64 I) := blk_cell Q2.b 0
  have q1 : w2.cell? ⟨w.heap.size, 1, none⟩ = some (.int .i64 line) := blk_cell Q2.b 1
  have q2 : w2.cell? ⟨w.heap.size, 2, none⟩ = some (.bool t) := blk_cell Q2.b 2
  have q3 : w2.cell? ⟨w.heap.size, 3, none⟩ = some (.bool tb) := blk_cell Q2.b 3
  go_wp2_with fail
  clear q0 q1 q2 q3
  refine (adr_no _ _ _ _ _ _ _ _ MI.out).mono ?_
  rintro e w3 ⟨rfl, hb3⟩
  have Q3 := Q2.below hb3
  clear Q2
  have q0 : w3.cell? ⟨w.heap.size, 0, none⟩ = some (.int .i64 I) := blk_cell Q3.b 0
  have q4 : w3.cell? ⟨w.heap.size, 4, none⟩ = some (.int .u8 lv) := blk_cell Q3.b 4
  have q5 : w3.cell? ⟨w.heap.size, 5, none⟩ = some (.bool ls) := blk_cell Q3.b 5
  have q6 : w3.cell? ⟨w.heap.size, 6, none⟩ = some (.int .u8 hv) := blk_cell Q3.b 6
  have q7 : w3.cell? ⟨w.heap.size, 7, none⟩ = some (.bool hs) := blk_cell Q3.b 7
  go_wp2_with fail
  clear q0 q4 q5 q6 q7
  refine (un_no _ _ _ _ _ _ _ _ _ MU.out).mono ?_
  rintro e w4 ⟨rfl, hb4⟩
  have Q4 := Q3.below hb4
  clear Q3
  clear hb2 hb3 hb4
  have lq : w.heap.size < w4.heap.size := blk_lt Q4.b
  have nq : w.heap.size ≠ w4.heap.size := by omega
  have q1 : w4.cell? ⟨w.heap.size, 1, none⟩ = some (.int .i64 line) := blk_cell Q4.b 1
  go_wp2_with fail
  refine (May_any _ _ _ _ _ _).mono ?_
  rw [M0.out]
  rintro e w5 ⟨rfl, rfl⟩
  clear q1
  have Q5 := Q4.below ((Below.refl w4.heap.size w4).alloc (Nat.le_refl _) (.cells #[.int .u8 0, .int .u8 0, .int .u8 0, .int .u8 0, .bool false, .bool false, .bool false] 44))
  have U5 := blk_new w4 (.cells #[.int .u8 0, .int .u8 0, .int .u8 0, .int .u8 0, .bool false, .bool false, .bool false] 44)
  clear Q4
  obtain ⟨w5, hw5⟩ : ∃ w5, w5 = w4.alloc (.cells #[.int .u8 0, .int .u8 0, .int .u8 0, .int .u8 0, .bool false, .bool false, .bool false] 44) := ⟨_, rfl⟩
  rw [← hw5] at Q5 U5 ⊢
  clear hw5
  obtain ⟨gu, hgu⟩ : ∃ gu, gu = w4.heap.size := ⟨_, rfl⟩
  rw [← hgu] at U5 lq nq ⊢
  clear hgu
  have q0 : w5.cell? ⟨w.heap.size, 0, none⟩ = some (.int .i64 I) := blk_cell Q5.b 0
  have q1 : w5.cell? ⟨w.heap.size, 1, none⟩ = some (.int .i64 line) := blk_cell Q5.b 1
  have q2 : w5.cell? ⟨w.heap.size, 2, none⟩ = some (.bool t) := blk_cell Q5.b 2
  have q3 : w5.cell? ⟨w.heap.size, 3, none⟩ = some (.bool tb) := blk_cell Q5.b 3
  go_wp2_with fail
  refine (May_any _ _ _ _ _ _).mono ?_
  rw [MI.out]
  rintro e w8 ⟨rfl, rfl⟩
  clear q0 q1 q2 q3
  have Q8 := Q5
  have U8 := U5
  clear Q5 U5
  have q0 : w5.cell? ⟨w.heap.size, 0, none⟩ = some (.int .i64 I) := blk_cell Q8.b 0
  have q4 : w5.cell? ⟨w.heap.size, 4, none⟩ = some (.int .u8 lv) := blk_cell Q8.b 4
  have q5 : w5.cell? ⟨w.heap.size, 5, none⟩ = some (.bool ls) := blk_cell Q8.b 5
  have q6 : w5.cell? ⟨w.heap.size, 6, none⟩ = some (.int .u8 hv) := blk_cell Q8.b 6
  have q7 : w5.cell? ⟨w.heap.size, 7, none⟩ = some (.bool hs) := blk_cell Q8.b 7
  have y0 : w5.cell? ⟨gu, 0, none⟩ = some (.int .u8 0) := blk_cell U8 0
  have y1 : w5.cell? ⟨gu, 1, none⟩ = some (.int .u8 0) := blk_cell U8 1
  have y2 : w5.cell? ⟨gu, 2, none⟩ = some (.int .u8 0) := blk_cell U8 2
  have y3 : w5.cell? ⟨gu, 3, none⟩ = some (.int .u8 0) := blk_cell U8 3
  have y4 : w5.cell? ⟨gu, 4, none⟩ = some (.bool false) := blk_cell U8 4
  have y5 : w5.cell? ⟨gu, 5, none⟩ = some (.bool false) := blk_cell U8 5
  have y6 : w5.cell? ⟨gu, 6, none⟩ = some (.bool false) := blk_cell U8 6
  go_wp2_with fail
  refine (May_any _ _ _ _ _ _).mono ?_
  rw [MU.out]
  rintro e w9 ⟨rfl, rfl⟩
  go_wp2_with fail
  refine (awake_any _).mono ?_
  rintro e wA ⟨rfl, bx⟩
  go_wp2
  go_ret
  exact ⟨rfl, Q8.bl.trans (bx.mono Q8.bl.size)⟩

theorem tells_any (ao : Option Addr) (n cap : Nat) (V : Nat → Int) (S : Nat → Bool) (I line lv hv x : Int) (t tb ls hs : Bool) (w : World) (hc : n ≤ cap) (hV : ∀ i, i < n → 0 ≤ V i ∧ V i ≤ 255) (h : RowAt w ao n 2 (ByC V S)) (hv0 : 0 ≤ lv) (hv1 : lv ≤ 255) (hw0 : 0 ≤ hv) (hw1 : hv ≤ 255) :
    Calls Try.prog 6 #[.slice ao n cap, askV I line lv hv x t tb ls hs] w fun e w' => e = .returned (.bool true) ∧ Below w.heap.size w w' := by
  by_cases hn : min n 257 = 256
  · obtain ⟨b, off, rfl, hb, hr⟩ := h.some (by omega)
    have R : RW w b off V S := ⟨hb, fun i hi j hj => hr i (by omega) j hj⟩
    have HV : VB V := ⟨fun i hi => hV i (by omega)⟩
    by_cases hl : 0 ≤ line ∧ line ≤ 255
    · by_cases hi : 0 ≤ I ∧ I ≤ 63
      · obtain ⟨k, rfl⟩ : ∃ k : Nat, I = k := ⟨I.toNat, by omega⟩
        exact tells_yes b off n cap V S k line lv hv x t tb ls hs w R HV hc hn (by omega) hl.1 hl.2 hv0 hv1 hw0 hw1
      · exact tells_line b off n cap V S I line lv hv x t tb ls hs w R HV hc hn (by unfold mayB; rw [decide_eq_false_iff_not]; omega) (by unfold mayB; rw [decide_eq_false_iff_not]; omega) hl.1 hl.2
    · by_cases hi : 0 ≤ I ∧ I ≤ 63
      · obtain ⟨k, rfl⟩ : ∃ k : Nat, I = k := ⟨I.toNat, by omega⟩
        exact tells_i b off n cap V S k line lv hv x t tb ls hs w R HV hc hn (by omega) (by unfold mayB; rw [decide_eq_false_iff_not]; omega) (by unfold mayB; rw [decide_eq_false_iff_not]; omega) hv0 hv1 hw0 hw1
      · exact tells_no _ n cap I line lv hv x t tb ls hs w hc (by unfold mayB; rw [decide_eq_false_iff_not]; omega) (by unfold mayB; rw [decide_eq_false_iff_not]; omega) (by unfold mayB; rw [decide_eq_false_iff_not]; omega)
  · exact tells_no _ n cap I line lv hv x t tb ls hs w hc (by unfold mayB; rw [decide_eq_false_iff_not]; omega) (by unfold mayB; rw [decide_eq_false_iff_not]; omega) (by unfold mayB; rw [decide_eq_false_iff_not]; omega)
end Go.Proofs.Ytdmcmlajpajaaaa
