import Derived.Test.YtdmcmlajpajaaaaMt1
import Derived.Laws.AppendOwnNone
import Derived.RegionTactic
import Derived.BigRegion
namespace Go.Proofs.Ytdmcmlajpajaaaa
open Go.RowKit Go.Sx
abbrev BL := List (Int × Bool)
def cellsL (L : BL) : List Value := L.flatMap fun p => [.int .u8 p.1, .bool p.2]
def vL (L : BL) (i : Nat) : Int := (L.getD i (0, false)).1
def sL (L : BL) (i : Nat) : Bool := (L.getD i (0, false)).2
/-- A list of bytes in memory. -/
def RowL (w : World) (ao : Option Addr) (L : BL) : Prop := RowAt w ao L.length 2 (ByC (vL L) (sL L))
theorem cellsL_len (L : BL) : (cellsL L).length = L.length * 2 := by
  unfold cellsL; induction L with
  | nil => rfl
  | cons p L ih => simp [List.flatMap_cons] at ih ⊢; omega
theorem cellsL_app (L M : BL) : cellsL (L ++ M) = cellsL L ++ cellsL M := by unfold cellsL; rw [List.flatMap_append]
theorem cellsL_get : ∀ {L : BL} {i j : Nat}, i < L.length → j < 2 → (cellsL L)[i * 2 + j]? = some (ByC (vL L) (sL L) i j)
  | [], i, j, h, _ => by simp at h
  | p :: L, i, j, h, hj => by
    unfold cellsL
    rw [List.flatMap_cons]
    match i, j, hj with
    | 0, 0, _ => simp [ByC, vL]
    | 0, 1, _ => simp [ByC, sL]
    | i + 1, j, hj =>
      rw [List.getElem?_append_right (by simp; omega)]
      have := cellsL_get (L := L) (i := i) (j := j) (by simpa using h) hj
      unfold cellsL at this
      rw [show (i + 1) * 2 + j - [Value.int .u8 p.1, Value.bool p.2].length = i * 2 + j by simp; omega, this]
      simp [ByC, vL, sL]
theorem anyL_list (L : BL) : (List.range L.length).any (sL L) = L.any (·.2) := by
  rw [Bool.eq_iff_iff, List.any_eq_true, List.any_eq_true]
  constructor
  · rintro ⟨i, hi, hs⟩
    have hi' : i < L.length := by simpa using hi
    refine ⟨L[i], List.getElem_mem hi', ?_⟩
    simpa [sL, List.getD_eq_getElem?_getD, hi'] using hs
  · rintro ⟨p, hp, hs⟩
    obtain ⟨i, hi, rfl⟩ := List.getElem_of_mem hp
    exact ⟨i, by simpa using hi, by simpa [sL, List.getD_eq_getElem?_getD, hi] using hs⟩
theorem RowL.cells {w : World} {ad : Addr} {L : BL} (h : RowL w (some ad) L) : ∀ j u, (cellsL L)[j]? = some u → w.cell? (ad.add j) = some u := by
  intro j u hj
  have hlt : j < L.length * 2 := by
    have := (List.getElem?_eq_some_iff.1 hj).1
    rwa [cellsL_len] at this
  have hi : j / 2 < L.length := by omega
  obtain ⟨b, off, e, _, hc⟩ := h (j / 2) hi
  cases e
  have h1 := hc (j % 2) (by omega)
  have h2 := cellsL_get (L := L) (i := j / 2) (j := j % 2) hi (by omega)
  rw [show j / 2 * 2 + j % 2 = j by omega, hj] at h2
  cases h2
  rw [show off + j / 2 * 2 + j % 2 = off + j by omega] at h1
  rw [← h1]
  congr 1
  unfold Addr.add
  split
  · next h0 => subst h0; rfl
  · rfl
/-- A list of bytes that the call owns. -/
def OwnL (w : World) (base g cap : Nat) (L : BL) : Prop := w.ownsRow base 24 2 (.slice (some ⟨g, 0, none⟩) L.length cap) L.length (cellsL L)
theorem OwnL.row {w : World} {base g cap : Nat} {L : BL} (h : OwnL w base g cap L) : RowL w (some ⟨g, 0, none⟩) L := by
  intro i hi
  have hlt := h.lt g rfl
  refine ⟨g, 0, rfl, hlt.2, fun j hj => ?_⟩
  have := World.ownsRow.cellAt h (i * 2 + j) (by omega)
  rw [cellsL_get hi hj] at this
  rw [Nat.zero_add]; exact this
theorem OwnL.same {w w' : World} {base g cap : Nat} {L : BL} (h : OwnL w base g cap L) (e : w'.heap[g]? = w.heap[g]?) : OwnL w' base g cap L := by
  unfold OwnL at h ⊢
  refine ⟨h.1, ?_⟩
  rcases h.2 with ⟨h', _⟩ | ⟨g', cap', cur, h', r⟩
  · cases h'
  · cases h'
    exact .inr ⟨g, cap, cur, rfl, r.1, by rw [e]; exact r.2.1, r.2.2⟩
theorem OwnL.below {w w' : World} {base g cap : Nat} {L : BL} (h : OwnL w base g cap L) (hb : Below w.heap.size w w') : OwnL w' base g cap L := h.same (hb.block g (World.ownsRow.lt h g rfl).2)
/-- What an append onto bytes that the call owns brings. -/
theorem app_run {w : World} {base g cap : Nat} {L M : BL} (ty : TypeId) (hown : OwnL w base g cap L) (a : Addr) (c : Nat) (hM : RowL w (some a) M) (hlen : L.length + M.length ≤ 1000000) (hbase : base ≤ w.heap.size) :
    ∃ g' cap' w', (Builtin.append_ #[22, 22] ty #[.slice (some ⟨g, 0, none⟩) L.length cap, .slice (some a) M.length c]).run Try.prog w = .ok (.slice (some ⟨g', 0, none⟩) (L ++ M).length cap') w' ∧
      OwnL w' base g' cap' (L ++ M) ∧ OwnL w' base g cap L ∧ w.grownBy w' (some g) ∧ (g' = g ∨ w.heap.size ≤ g') := by
  obtain ⟨i0, hi, hz0, hz1, hz2⟩ := info_parts infoB
  have h1 : ∀ u ∈ cellsL M, u.oneCell' = true := by
    intro u hu
    unfold cellsL at hu
    simp only [List.mem_flatMap] at hu
    obtain ⟨p, _, hp⟩ := hu
    simp at hp
    rcases hp with rfl | rfl <;> rfl
  have hl2 : (cellsL M).length = M.length * 2 := cellsL_len M
  obtain ⟨v', w', hr, h2, h3, h4⟩ := run_append_own (P := Try.prog) w base 22 ty 24 i0 _ 2 2 Try.underlying22 hi hz0 hz1 hz2 rfl (by decide) _ _ _ hown a M.length c (cellsL M) hl2 hM.cells h1 (by unfold maxLen; omega) (by omega) hbase
  have hnn : v' ≠ .slice none 0 0 := fun e => by have := (h4.1 e).1; cases this
  rw [← cellsL_app, ← List.length_append] at h2
  obtain ⟨g', cap', rfl⟩ : ∃ g' cap', v' = .slice (some ⟨g', 0, none⟩) (L ++ M).length cap' := by
    rcases h2.2 with ⟨e, _⟩ | ⟨g', cap', cur, e, _⟩
    · exact absurd (by rw [e]) hnn
    · exact ⟨g', cap', e⟩
  suffices hh : OwnL w' base g cap L ∧ (g' = g ∨ w.heap.size ≤ g') from ⟨g', cap', w', hr, h2, hh.1, h3, hh.2⟩
  obtain ⟨hlenL, hv⟩ := hown
  rcases hv with ⟨e, _⟩ | ⟨g0, cap0, cur, e, hbg, hg, hnc, hcm, hcs, htake⟩
  · cases e
  cases e
  by_cases hroom : L.length + M.length ≤ cap
  · have hfit : L.length * i0.size + (cellsL M).length ≤ cur.size := by rw [hz1, hl2, hcs, ← Nat.add_mul]; exact Nat.mul_le_mul_right _ hroom
    have hr2 := run_append_room (P := Try.prog) w 22 ty 24 i0 Try.underlying22 hi g L.length cap cur hg a M.length c (cellsL M) (by rw [hz1]; exact hl2) hM.cells h1 hroom hfit
    rw [hr] at hr2
    injection hr2 with hv2 hw
    subst hw
    refine ⟨?_, .inl (by injection hv2 with e; cases e; rfl)⟩
    rw [hz1]
    have hcl : L.length * 2 ≤ cur.size := by rw [hcs]; exact Nat.mul_le_mul_right _ hnc
    refine ⟨hlenL, .inr ⟨g, cap, _, rfl, hbg, setRow_heap w g cur _ 24 _ hg, hnc, hcm, ?_, ?_⟩⟩
    · simp only [List.size_toArray, List.length_append, List.length_take, List.length_drop, Array.length_toList, hl2, ← hcs]
      rw [hz1, hl2] at hfit
      omega
    · simp only [List.append_assoc]
      rw [List.take_append_of_le_length (by simp; omega), List.take_take, Nat.min_self, htake]
  · have holds : ∀ j u, (cellsL L)[j]? = some u → w.cell? ((⟨g, 0, none⟩ : Addr).add j) = some u := World.ownsRow.cells (v := .slice (some ⟨g, 0, none⟩) L.length cap) ⟨hlenL, .inr ⟨g, cap, cur, rfl, hbg, hg, hnc, hcm, hcs, htake⟩⟩ (g := g) rfl
    have hr2 := run_append_grow (P := Try.prog) w 22 ty 24 i0 _ Try.underlying22 hi hz0 ⟨g, 0, none⟩ L.length cap (cellsL L) (by rw [hz1]; exact cellsL_len L) holds a M.length c (cellsL M) (by rw [hz1]; exact hl2) hM.cells (by omega) (by omega) (growslice_fits (by omega) (by rw [hz2]; omega))
    rw [hr] at hr2
    injection hr2 with hv2 hw
    subst hw
    refine ⟨?_, .inr (by injection hv2 with e; cases e; exact Nat.le_refl _)⟩
    refine ⟨hlenL, .inr ⟨g, cap, cur, rfl, hbg, ?_, hnc, hcm, hcs, htake⟩⟩
    rw [Below.heap_alloc _ _ _ (by exact (Array.getElem?_eq_some_iff.1 hg).1)]
    exact hg
theorem app_law {w : World} {ops : Array Oper} {rest : List Oper} {o : Oper} {a : Act} {Q : Exit → Act → World → Prop} (hw : Region.wanted o (yielded ops a.tmps) = true) (s x : Operand)
    (ho : o.op = .call { callee := .builtin .append, args := #[s, x], argTypes := #[22, 22] }) {base g cap n m : Nat} {L M : BL} (hs : a.eval s = .slice (some ⟨g, 0, none⟩) n cap) (hown : OwnL w base g cap L)
    (ao : Option Addr) (c : Nat) (hx : a.eval x = .slice ao m c) (hn : n = L.length) (hm : m = M.length) (hnil : ao = none → M.length = 0 ∧ c = 0) (hM : RowL w ao M) (hlen : L.length + M.length ≤ 1000000) (hbase : base ≤ w.heap.size)
    (h : ∀ g' cap' w', OwnL w' base g' cap' (L ++ M) → OwnL w' base g cap L → w.grownBy w' (some g) → (g' = g ∨ w.heap.size ≤ g') → wpList Try.prog ops Q rest (a.put o.dst (.slice (some ⟨g', 0, none⟩) (n + m) cap')) w') : wpList Try.prog ops Q (o :: rest) a w := by
  subst hn
  subst hm
  rw [← List.length_append] at h
  refine wpList_step fun K hK => ?_
  rw [if_pos hw]
  cases ao with
  | none =>
    obtain ⟨hm, rfl⟩ := hnil rfl
    obtain rfl : M = [] := List.eq_nil_of_length_eq_zero hm
    obtain ⟨i0, hi, hz0, hz1, hz2⟩ := info_parts infoB
    have hrun := run_append_owned_none (P := Try.prog) (w := w) base 22 o.type 24 i0 2 Try.underlying22 hi _ _ _ hown
    have hx' : a.eval x = .slice none 0 0 := hx
    unfold Oper.wp
    simp [execOp, ho, resolve, invoke, builtin, hs, hx', hrun, Result.andThen]
    have := h g cap w (by rw [List.append_nil]; exact hown) hown ⟨rfl, rfl, rfl, Nat.le_refl _, fun _ _ _ => rfl⟩ (.inl rfl)
    rw [List.append_nil] at this
    exact hK _ _ this
  | some ad =>
    obtain ⟨g', cap', w', hr, h1, h2, h3, h4⟩ := app_run o.type hown ad c hM hlen hbase
    unfold Oper.wp
    simp [execOp, ho, resolve, invoke, builtin, hs, hx, hr, Result.andThen]
    have := hK _ _ (h g' cap' w' h1 h2 h3 h4)
    simp only [List.length_append] at this
    exact this
theorem own_new (w : World) (base : Nat) (hb : base ≤ w.heap.size) : OwnL (w.alloc (.cells #[] 24)) base w.heap.size 0 [] :=
  ⟨rfl, .inr ⟨w.heap.size, 0, #[], rfl, hb, by show (w.heap.push _)[w.heap.size]? = _; simp, Nat.le_refl _, by decide, rfl, rfl⟩⟩
end Go.Proofs.Ytdmcmlajpajaaaa
namespace Go.Proofs.Ytdmcmlajpajaaaa
open Go.RowKit Go.Sx
theorem adr_no (ao : Option Addr) (n cap : Nat) (i line : Int) (t tb : Bool) (w : World) (h0 : mayB n i line = false) :
    Calls Try.prog 13 #[.slice ao n cap, .int .i64 i, .int .i64 line, .bool t, .bool tb] w fun e w' => e = .returned (.tuple #[.int .u16 0, .bool false, .int .i64 1]) ∧ Below w.heap.size w w' := by
  have H := hidI h0; clear h0
  go_enter Try.func13, Try.ntmps13
  go_wp2_with (go_at_call 23; refine (may_any _ _ _ _ _ _).mono ?_; rw [H.out]; rintro e w' ⟨rfl, rfl⟩)
  refine bodyPost_ret (v := .tuple #[.int .u16 0, .bool false, .int .i64 1]) (by simp [results, Try.results13, go_sem]) rfl ⟨rfl, ?_⟩
  first | exact Below.refl _ _ | exact (Below.refl _ _).alloc (Nat.le_refl _) _
/-- Bytes in memory. -/
structure RW (w : World) (b off : Nat) (V : Nat → Int) (S : Nat → Bool) : Prop where
  lt : b < w.heap.size
  c : ∀ i, i < 256 → ∀ j, j < 2 → w.cell? ⟨b, off + i * 2 + j, none⟩ = some (ByC V S i j)
theorem RW.below {w w' : World} {b off : Nat} {V : Nat → Int} {S : Nat → Bool} (h : RW w b off V S) (hb : Below w.heap.size w w') : RW w' b off V S :=
  ⟨Nat.lt_of_lt_of_le h.lt hb.size, fun i hi j hj => (hb.cell (p := ⟨b, off + i * 2 + j, none⟩) h.lt).trans (h.c i hi j hj)⟩
theorem RW.at {w : World} {b off : Nat} {V : Nat → Int} {S : Nat → Bool} (h : RW w b off V S) (k j o : Nat) (hk : k < 256) (hj : j < 2) (ho : o = off + k * 2 + j) : w.cell? ⟨b, o, none⟩ = some (ByC V S k j) := by rw [ho]; exact h.c k hk j hj
structure VB (V : Nat → Int) : Prop where
  b : ∀ i, i < 256 → 0 ≤ V i ∧ V i ≤ 255
theorem adrR {w : World} {b off : Nat} {V : Nat → Int} {S : Nat → Bool} (h : RW w b off V S) (hV : VB V) (cap : Nat) (hcap : 256 ≤ cap) (i : Nat) (hi64 : i < 64) (line : Int) (hl0 : 0 ≤ line) (hl1 : line ≤ 255) (tall table : Bool) :
    Calls Try.prog 13 #[.slice (some ⟨b, off, none⟩) 256 cap, .int .i64 i, .int .i64 line, .bool tall, .bool table] w fun e w' => e = .returned (.tuple #[.int .u16 (adr (V (4 * i)) (V (4 * i + 1)) (V (4 * i + 2)) line tall table), .bool (S (4 * i) || (S (4 * i + 1) || S (4 * i + 2))), .int .i64 0]) ∧ Below w.heap.size w w' :=
  adr_walk b off cap i _ _ _ line _ _ _ tall table w h.lt hi64 hcap hl0 hl1 (hV.b _ (by omega)).1 (hV.b _ (by omega)).2 (hV.b _ (by omega)).1 (hV.b _ (by omega)).2 (hV.b _ (by omega)).1 (hV.b _ (by omega)).2
    (h.at (4 * i) 0 _ (by omega) (by omega) (by omega)) (h.at (4 * i) 1 _ (by omega) (by omega) (by omega)) (h.at (4 * i + 1) 0 _ (by omega) (by omega) (by omega)) (h.at (4 * i + 1) 1 _ (by omega) (by omega) (by omega)) (h.at (4 * i + 2) 0 _ (by omega) (by omega) (by omega)) (h.at (4 * i + 2) 1 _ (by omega) (by omega) (by omega))
theorem radrR {w : World} {b off : Nat} {V : Nat → Int} {S : Nat → Bool} (h : RW w b off V S) (hV : VB V) (cap : Nat) (hcap : 256 ≤ cap) (i : Nat) (hi64 : i < 64) (line : Int) (hl0 : 0 ≤ line) (hl1 : line ≤ 255) (tall table : Bool) :
    Calls Try.prog 17 #[.slice (some ⟨b, off, none⟩) 256 cap, .int .i64 i, .int .i64 line, .bool tall, .bool table] w fun e w' => e = .returned (.tuple #[.int .u16 (adr (V (4 * i)) (V (4 * i + 1)) (V (4 * i + 2)) line tall table), .bool (S (4 * i) || (S (4 * i + 1) || S (4 * i + 2)))]) ∧ Below w.heap.size w w' :=
  radr_walk b off cap i _ _ _ line _ _ _ tall table w h.lt hi64 hcap hl0 hl1 (hV.b _ (by omega)).1 (hV.b _ (by omega)).2 (hV.b _ (by omega)).1 (hV.b _ (by omega)).2 (hV.b _ (by omega)).1 (hV.b _ (by omega)).2
    (h.at (4 * i) 0 _ (by omega) (by omega) (by omega)) (h.at (4 * i) 1 _ (by omega) (by omega) (by omega)) (h.at (4 * i + 1) 0 _ (by omega) (by omega) (by omega)) (h.at (4 * i + 1) 1 _ (by omega) (by omega) (by omega)) (h.at (4 * i + 2) 0 _ (by omega) (by omega) (by omega)) (h.at (4 * i + 2) 1 _ (by omega) (by omega) (by omega))
def unS (S : Nat → Bool) (i : Nat) (sa sc : Bool) : Bool := S (4 * i) || S (4 * i + 1) || S (4 * i + 2) || S (4 * i + 3) || sa || sc
/-- The unit of a sprite. -/
def unU (V : Nat → Int) (S : Nat → Bool) (i : Nat) (a c : Int) (sa sc : Bool) : Value :=
  unV (V (4 * i + 3)) (if V (4 * i + 2) / 64 % 2 = 1 then rv a else a) (if V (4 * i + 2) / 64 % 2 = 1 then rv c else c) (V (4 * i + 2) % 4) (decide (V (4 * i + 2) / 32 % 2 = 1)) (decide (i = 0)) (unS S i sa sc)
theorem unR {w : World} {b off : Nat} {V : Nat → Int} {S : Nat → Bool} (h : RW w b off V S) (hV : VB V) (cap : Nat) (hcap : 256 ≤ cap) (i : Nat) (hi64 : i < 64) (a c : Int) (sa sc : Bool) (ha0 : 0 ≤ a) (ha1 : a ≤ 255) (hc0 : 0 ≤ c) (hc1 : c ≤ 255) :
    Calls Try.prog 14 #[.slice (some ⟨b, off, none⟩) 256 cap, .int .i64 i, .agg #[.int .u8 a, .bool sa], .agg #[.int .u8 c, .bool sc]] w fun e w' => e = .returned (.tuple #[unU V S i a c sa sc, .int .i64 0]) ∧ Below w.heap.size w w' :=
  un_yes b off cap i _ _ _ _ _ _ _ _ a c sa sc w h.lt hi64 hcap (hV.b _ (by omega)).1 (hV.b _ (by omega)).2 ha0 ha1 hc0 hc1
    (h.at (4 * i) 0 _ (by omega) (by omega) (by omega)) (h.at (4 * i) 1 _ (by omega) (by omega) (by omega)) (h.at (4 * i + 1) 0 _ (by omega) (by omega) (by omega)) (h.at (4 * i + 1) 1 _ (by omega) (by omega) (by omega)) (h.at (4 * i + 2) 0 _ (by omega) (by omega) (by omega)) (h.at (4 * i + 2) 1 _ (by omega) (by omega) (by omega)) (h.at (4 * i + 3) 0 _ (by omega) (by omega) (by omega)) (h.at (4 * i + 3) 1 _ (by omega) (by omega) (by omega))
theorem runR {w : World} {b off : Nat} {V : Nat → Int} {S : Nat → Bool} (h : RW w b off V S) (hV : VB V) (cap : Nat) (i : Nat) (hi64 : i < 64) (a c : Int) (sa sc : Bool) (ha0 : 0 ≤ a) (ha1 : a ≤ 255) (hc0 : 0 ≤ c) (hc1 : c ≤ 255) :
    Calls Try.prog 18 #[.slice (some ⟨b, off, none⟩) 256 cap, .int .i64 i, .agg #[.int .u8 a, .bool sa], .agg #[.int .u8 c, .bool sc]] w fun e w' => e = .returned (unU V S i a c sa sc) ∧ Below w.heap.size w w' := by
  have := runit b off cap i (V (4 * i + 2)) (V (4 * i + 3)) (fun k => S (4 * i + k)) a c sa sc w h.lt hi64 (hV.b _ (by omega)).1 (hV.b _ (by omega)).2 ha0 ha1 hc0 hc1
    (h.at (4 * i + 2) 0 _ (by omega) (by omega) (by omega)) (h.at (4 * i + 3) 0 _ (by omega) (by omega) (by omega)) (fun k hk => h.at (4 * i + k) 1 _ (by omega) (by omega) (by omega))
  have e : accS (fun k => S (4 * i + k)) (sa || sc) 4 = unS S i sa sc := by
    simp only [accS, unS, List.range, List.range.loop, List.any_cons, List.any_nil, Nat.add_zero]
    cases sa <;> cases sc <;> simp [Bool.or_assoc]
  rw [e] at this
  exact this
/-- What is asked, in a block of its own. -/
structure QW (w wk : World) (I line lv hv x : Int) (t tb ls hs : Bool) : Prop where
  b : wk.heap[w.heap.size]? = some (.cells #[.int .i64 I, .int .i64 line, .bool t, .bool tb, .int .u8 lv, .bool ls, .int .u8 hv, .bool hs, .int .i64 x] 26 (0, 0))
  bl : Below w.heap.size w wk
theorem QW.below {w wk wl : World} {I line lv hv x : Int} {t tb ls hs : Bool} (h : QW w wk I line lv hv x t tb ls hs) (hb : Below wk.heap.size wk wl) : QW w wl I line lv hv x t tb ls hs :=
  ⟨(hb.block _ (blk_lt h.b)).trans h.b, h.bl.trans (hb.mono h.bl.size)⟩
theorem QW.new (w : World) (I line lv hv x : Int) (t tb ls hs : Bool) : QW w (w.alloc (.cells #[.int .i64 I, .int .i64 line, .bool t, .bool tb, .int .u8 lv, .bool ls, .int .u8 hv, .bool hs, .int .i64 x] 26)) I line lv hv x t tb ls hs :=
  ⟨blk_new _ _, (Below.refl _ _).alloc (Nat.le_refl _) _⟩
end Go.Proofs.Ytdmcmlajpajaaaa
namespace Go.Proofs.Ytdmcmlajpajaaaa
open Go.RowKit Go.Sx
/-- Bytes that the call has made. -/
def OwnC (w : World) (base g cap : Nat) (V : Nat → Int) (S : Nat → Bool) : Prop := ∃ xs : List Value, w.ownsRow base 24 2 (.slice (some ⟨g, 0, none⟩) 256 cap) 256 xs ∧ ∀ i, i < 256 → ∀ j, j < 2 → xs[i * 2 + j]? = some (ByC V S i j)
theorem OwnC.cell {w : World} {base g cap : Nat} {V : Nat → Int} {S : Nat → Bool} (h : OwnC w base g cap V S) {i j : Nat} (hi : i < 256) (hj : j < 2) : w.cell? ⟨g, i * 2 + j, none⟩ = some (ByC V S i j) := by
  obtain ⟨xs, ho, hx⟩ := h
  rw [ho.cellAt _ (by omega)]
  exact hx i hi j hj
theorem OwnC.frozen {w : World} {base g cap : Nat} {V : Nat → Int} {S : Nat → Bool} (h : OwnC w base g cap V S) (o : Nat) : w.frozen? ⟨g, o, none⟩ = false := by
  obtain ⟨xs, ho, hx⟩ := h
  exact ho.frozenAt o
theorem OwnC.lt {w : World} {base g cap : Nat} {V : Nat → Int} {S : Nat → Bool} (h : OwnC w base g cap V S) : base ≤ g ∧ g < w.heap.size := by
  obtain ⟨xs, ho, hx⟩ := h
  exact ho.lt g rfl
theorem OwnC.same {w w' : World} {base g cap : Nat} {V : Nat → Int} {S : Nat → Bool} (h : OwnC w base g cap V S) (e : w'.heap[g]? = w.heap[g]?) : OwnC w' base g cap V S := by
  obtain ⟨xs, ho, hx⟩ := h
  refine ⟨xs, ⟨ho.1, ?_⟩, hx⟩
  rcases ho.2 with ⟨h', _⟩ | ⟨g', cap', cur, h', r⟩
  · cases h'
  · cases h'
    exact .inr ⟨g, cap, cur, rfl, r.1, by rw [e]; exact r.2.1, r.2.2⟩
theorem OwnC.store {w : World} {base g cap : Nat} {V : Nat → Int} {S : Nat → Bool} (h : OwnC w base g cap V S) {k : Nat} (x : Int) (hk : k < 256) : OwnC (w.setCell ⟨g, k * 2, none⟩ (.int .u8 x)) base g cap (fun i => if i = k then x else V i) S := by
  obtain ⟨xs, ho, hx⟩ := h
  refine ⟨_, (ho.stored (k * 2) (.int .u8 x)).1, fun i hi j hj => ?_⟩
  have hl : xs.length = 512 := ho.1
  rw [List.getElem?_set]
  split
  · next e =>
    obtain rfl : i = k := by omega
    obtain rfl : j = 0 := by omega
    simp [ByC, hl]; omega
  · next e =>
    rw [hx i hi j hj]
    unfold ByC
    by_cases hj0 : j = 0
    · subst hj0
      have : i ≠ k := fun e' => e (by omega)
      simp [this]
    · simp [hj0]
theorem OwnC.vals {w : World} {base g cap : Nat} {V V' : Nat → Int} {S S' : Nat → Bool} (h : OwnC w base g cap V S) (e : ∀ i, i < 256 → V i = V' i ∧ S i = S' i) : OwnC w base g cap V' S' := by
  obtain ⟨xs, ho, hx⟩ := h
  refine ⟨xs, ho, fun i hi j hj => (hx i hi j hj).trans ?_⟩
  unfold ByC
  rw [(e i hi).1, (e i hi).2]
theorem OwnC.below {w w' : World} {base g cap : Nat} {V : Nat → Int} {S : Nat → Bool} (h : OwnC w base g cap V S) (hb : Below w.heap.size w w') : OwnC w' base g cap V S := h.same (hb.block g h.lt.2)
theorem OwnC.of {w : World} {base g cap : Nat} {L : BL} (h : OwnL w base g cap L) (hl : L.length = 256) : OwnC w base g cap (vL L) (sL L) := by
  unfold OwnL at h
  rw [hl] at h
  exact ⟨_, h, fun i hi j hj => cellsL_get (by omega) hj⟩
end Go.Proofs.Ytdmcmlajpajaaaa
namespace Go.Proofs.Ytdmcmlajpajaaaa
open Go.RowKit Go.Sx
theorem few2 (ao : Option Addr) (cap n : Nat) (L : BL) (w : World) (hc : n ≤ cap) (hn : min n 257 = L.length) : Calls Try.prog 9 #[.slice ao n cap] w fun e w' => e = .returned (.slice ao L.length cap) ∧ w = w' := by
  rw [← hn]
  clear hn
  go_enter Try.func9, Try.ntmps9
  go_wp2
  · go_ret
    have h : (257 : Int) < n := by assumption
    exact ⟨by rw [Nat.min_eq_right (by omega)]; rfl, rfl⟩
  · go_ret
    have h : (n : Int) ≤ 257 := by assumption
    exact ⟨by rw [Nat.min_eq_left (by omega)]; rfl, rfl⟩
abbrev askV (I line lv hv x : Int) (t tb ls hs : Bool) : Value := .agg #[.int .i64 I, .int .i64 line, .bool t, .bool tb, .int .u8 lv, .bool ls, .int .u8 hv, .bool hs, .int .i64 x]
theorem ask_cells {w w1 : World} {I line lv hv x : Int} {t tb ls hs : Bool} (h : Below (w.heap.size + 1) ((w.alloc (.cells #[.int .i64 I, .int .i64 line, .bool t, .bool tb, .int .u8 lv, .bool ls, .int .u8 hv, .bool hs, .int .i64 x] 26)).alloc (.cells #[] 24)) w1) :
    w1.cell? ⟨w.heap.size, 0, none⟩ = some (.int .i64 I) ∧ w1.cell? ⟨w.heap.size, 1, none⟩ = some (.int .i64 line) ∧ w1.cell? ⟨w.heap.size, 2, none⟩ = some (.bool t) ∧ w1.cell? ⟨w.heap.size, 3, none⟩ = some (.bool tb) ∧
      w1.cell? ⟨w.heap.size, 4, none⟩ = some (.int .u8 lv) ∧ w1.cell? ⟨w.heap.size, 5, none⟩ = some (.bool ls) ∧ w1.cell? ⟨w.heap.size, 6, none⟩ = some (.int .u8 hv) ∧ w1.cell? ⟨w.heap.size, 7, none⟩ = some (.bool hs) ∧ w.heap.size < w1.heap.size := by
  have c : ∀ o, w1.cell? ⟨w.heap.size, o, none⟩ = ((w.alloc (.cells #[.int .i64 I, .int .i64 line, .bool t, .bool tb, .int .u8 lv, .bool ls, .int .u8 hv, .bool hs, .int .i64 x] 26)).alloc (.cells #[] 24)).cell? ⟨w.heap.size, o, none⟩ := fun o => h.cell (by show w.heap.size < _; omega)
  have := h.size
  simp at this
  refine ⟨(c 0).trans (by simp [go_sem]), (c 1).trans (by simp [go_sem]), (c 2).trans (by simp [go_sem]), (c 3).trans (by simp [go_sem]), (c 4).trans (by simp [go_sem]), (c 5).trans (by simp [go_sem]), (c 6).trans (by simp [go_sem]), (c 7).trans (by simp [go_sem]), by omega⟩
set_option maxRecDepth 100000 in
set_option maxHeartbeats 3200000 in
theorem rows_no (ao : Option Addr) (n cap : Nat) (L : BL) (I line lv hv x : Int) (t tb ls hs : Bool) (w : World) (hc : n ≤ cap) (hn : min n 257 = L.length) (hnil : ao = none → L.length = 0 ∧ cap = 0) (hL : RowL w ao L) (hm : mayB L.length I line = false) :
    Calls Try.prog 4 #[.slice ao n cap, .agg #[.int .i64 I, .int .i64 line, .bool t, .bool tb, .int .u8 lv, .bool ls, .int .u8 hv, .bool hs, .int .i64 x]] w fun e w' => e = .returned (.bool true) ∧ Below w.heap.size w w' := by
  have HN := hidI hn; clear hn
  have HM := hidI hm; clear hm
  go_enter Try.func4, Try.ntmps4
  go_wp2_with fail
  refine (few2 ao cap n L _ hc HN.out).mono ?_
  rintro e w1 ⟨rfl, rfl⟩
  have b0 : Below w.heap.size w ((w.alloc (.cells #[.int .i64 I, .int .i64 line, .bool t, .bool tb, .int .u8 lv, .bool ls, .int .u8 hv, .bool hs, .int .i64 x] 26)).alloc (.cells #[] 24)) := ((Below.refl _ _).alloc (Nat.le_refl _) _).alloc (by simp) _
  have on := own_new (w.alloc (.cells #[.int .i64 I, .int .i64 line, .bool t, .bool tb, .int .u8 lv, .bool ls, .int .u8 hv, .bool hs, .int .i64 x] 26)) (w.heap.size + 1) (by simp)
  have hl : L.length ≤ 257 := by rw [← HN.out]; omega
  go_wp2_with (first
    | (at_builtin; refine app_law rfl (.tmp 14) (.tmp 16) rfl (L := []) (M := L) (by simp; rfl) on ao cap rfl rfl rfl hnil (RowAt.below hL b0) (by simp; omega) (by simp) ?_; intro g c1 w1 h1 _ hg1 _; rw [List.nil_append] at h1; have b1 : Below (w.heap.size + 1) ((w.alloc (.cells #[.int .i64 I, .int .i64 line, .bool t, .bool tb, .int .u8 lv, .bool ls, .int .u8 hv, .bool hs, .int .i64 x] 26)).alloc (.cells #[] 24)) w1 := (Below.refl _ _).grown hg1 (by simp) (fun k hk => by cases hk; simp); obtain ⟨q0, q1, q2, q3, _, _, _, _, qs⟩ := ask_cells b1)
    | fail)
  refine (May_any _ _ _ _ _ _).mono ?_
  rw [HM.out]
  rintro e w2 ⟨rfl, rfl⟩
  go_wp2_with fail
  refine (awake_any _).mono ?_
  rintro e w3 ⟨rfl, b3⟩
  go_wp2
  go_ret
  have bw := b0.trans (b1.mono (by omega))
  exact ⟨rfl, bw.trans (b3.mono bw.size)⟩
theorem adrC {w : World} {base g cap : Nat} {V : Nat → Int} {S : Nat → Bool} (h : OwnC w base g cap V S) (hcap : 256 ≤ cap) (i : Nat) (hi64 : i < 64) (line : Int) (hl0 : 0 ≤ line) (hl1 : line ≤ 255) (hV : ∀ k, k < 256 → 0 ≤ V k ∧ V k ≤ 255) (tall table : Bool) :
    Calls Try.prog 13 #[.slice (some ⟨g, 0, none⟩) 256 cap, .int .i64 i, .int .i64 line, .bool tall, .bool table] w fun e w' => e = .returned (.tuple #[.int .u16 (adr (V (4 * i)) (V (4 * i + 1)) (V (4 * i + 2)) line tall table), .bool (S (4 * i) || (S (4 * i + 1) || S (4 * i + 2))), .int .i64 0]) ∧ Below w.heap.size w w' := by
  have c : ∀ k j o, k < 256 → j < 2 → o = k * 2 + j → w.cell? ⟨g, o, none⟩ = some (ByC V S k j) := fun k j o hk hj ho => by rw [ho]; exact h.cell hk hj
  exact adr_walk g 0 cap i _ _ _ line _ _ _ tall table w h.lt.2 hi64 hcap hl0 hl1 (hV _ (by omega)).1 (hV _ (by omega)).2 (hV _ (by omega)).1 (hV _ (by omega)).2 (hV _ (by omega)).1 (hV _ (by omega)).2
    (c (4 * i) 0 _ (by omega) (by omega) (by omega)) (c (4 * i) 1 _ (by omega) (by omega) (by omega)) (c (4 * i + 1) 0 _ (by omega) (by omega) (by omega)) (c (4 * i + 1) 1 _ (by omega) (by omega) (by omega)) (c (4 * i + 2) 0 _ (by omega) (by omega) (by omega)) (c (4 * i + 2) 1 _ (by omega) (by omega) (by omega))
theorem row_up (y lk : Int) (t : Bool) (j : Int) (h0 : 0 ≤ j) (h1 : j < hi t) (hl : lk < 128) : rowS y lk (y + j) t = j := by
  unfold rowS hi at *
  rw [if_neg (by omega)]
  cases t <;> simp only [Bool.false_eq_true, if_false, if_true] at * <;> omega
theorem row_down (y lk : Int) (t : Bool) (j : Int) (h0 : 0 ≤ j) (h1 : j < hi t) (hl : 128 ≤ lk) : rowS y lk (y + hi t - 1 - j) t = j := by
  unfold rowS hi at *
  rw [if_pos hl]
  cases t <;> simp only [Bool.false_eq_true, if_false, if_true] at * <;> omega
theorem and127 (lk : Int) (h0 : 0 ≤ lk) (h1 : lk ≤ 255) : 0 ≤ bits BinOp.and IntKind.u8 lk 127 ∧ bits BinOp.and IntKind.u8 lk 127 ≤ 127 := by
  have key : ∀ a : Fin 256, 0 ≤ bits BinOp.and IntKind.u8 ((a.val : Nat) : Int) 127 ∧ bits BinOp.and IntKind.u8 ((a.val : Nat) : Int) 127 ≤ 127 := by decide +kernel
  have := key ⟨lk.toNat, by omega⟩
  simpa only [Int.toNat_of_nonneg h0] using this
theorem or128 (lk : Int) (h0 : 0 ≤ lk) (h1 : lk ≤ 255) : 128 ≤ bits BinOp.or IntKind.u8 lk 128 ∧ bits BinOp.or IntKind.u8 lk 128 ≤ 255 := by
  have key : ∀ a : Fin 256, 128 ≤ bits BinOp.or IntKind.u8 ((a.val : Nat) : Int) 128 ∧ bits BinOp.or IntKind.u8 ((a.val : Nat) : Int) 128 ≤ 255 := by decide +kernel
  have := key ⟨lk.toNat, by omega⟩
  simpa only [Int.toNat_of_nonneg h0] using this
/-- The address of a row that is told. -/
theorem adr_row (y ti lk line : Int) (t tb : Bool) (j : Int) (h : rowS y lk line t = j) (h0 : 0 ≤ j) (h1 : j < hi t) (t0 : 0 ≤ ti) (t1 : ti ≤ 255) :
    0 ≤ adr y ti lk line t tb ∧ adr y ti lk line t tb ≤ 8191 ∧ adr y ti lk line t tb % 8 = j % 8 ∧ (t = true → adr y ti lk line t tb / 16 % 2 = if 8 ≤ j then 1 else 0) ∧ (t = false → adr y ti lk line t tb / 16 = (if tb then 256 else 0) + ti) := by
  unfold adr
  rw [h]
  unfold hi at h1
  cases t <;> cases tb <;> simp only [Bool.false_eq_true, if_false, if_true] at * <;> (try split) <;> refine ⟨by omega, by omega, by omega, fun h => ?_, fun h => ?_⟩ <;> first | omega | cases h
theorem and7 (a : Int) (h0 : 0 ≤ a) (h1 : a ≤ 8191) : bits BinOp.and IntKind.u16 a 7 = a % 8 := by
  have key : ∀ (h : Fin 64) (l : Fin 128), bits BinOp.and IntKind.u16 (128 * ((h.val : Nat) : Int) + ((l.val : Nat) : Int)) 7 = (128 * ((h.val : Nat) : Int) + ((l.val : Nat) : Int)) % 8 := by decide +kernel
  have := key ⟨(a / 128).toNat, by omega⟩ ⟨(a % 128).toNat, by omega⟩
  simp only [Int.toNat_of_nonneg (show 0 ≤ a / 128 by omega), Int.toNat_of_nonneg (show 0 ≤ a % 128 by omega)] at this
  rwa [show 128 * (a / 128) + a % 128 = a by omega] at this
theorem and1w (a : Int) (h0 : 0 ≤ a) (h1 : a ≤ 8191) : bits BinOp.and IntKind.u16 a 1 = a % 2 := by
  have key : ∀ (h : Fin 64) (l : Fin 128), bits BinOp.and IntKind.u16 (128 * ((h.val : Nat) : Int) + ((l.val : Nat) : Int)) 1 = (128 * ((h.val : Nat) : Int) + ((l.val : Nat) : Int)) % 2 := by decide +kernel
  have := key ⟨(a / 128).toNat, by omega⟩ ⟨(a % 128).toNat, by omega⟩
  simp only [Int.toNat_of_nonneg (show 0 ≤ a / 128 by omega), Int.toNat_of_nonneg (show 0 ≤ a % 128 by omega)] at this
  rwa [show 128 * (a / 128) + a % 128 = a by omega] at this
theorem or256 (a : Int) (h0 : 0 ≤ a) (h1 : a ≤ 255) : bits BinOp.or IntKind.u16 a 256 = 256 + a ∧ bits BinOp.or IntKind.u16 a 0 = 0 + a := by
  have key : ∀ a : Fin 256, bits BinOp.or IntKind.u16 ((a.val : Nat) : Int) 256 = 256 + ((a.val : Nat) : Int) ∧ bits BinOp.or IntKind.u16 ((a.val : Nat) : Int) 0 = 0 + ((a.val : Nat) : Int) := by decide +kernel
  have := key ⟨a.toNat, by omega⟩
  simpa only [Int.toNat_of_nonneg h0] using this
end Go.Proofs.Ytdmcmlajpajaaaa
namespace Go.Proofs.Ytdmcmlajpajaaaa
open Go.RowKit Go.Sx
/-- One unit. -/
def u1 (X lo hi ti : Int) (be ze s : Bool) : Uns := ⟨fun _ => X, fun _ => lo, fun _ => hi, fun _ => ti, fun _ => be, fun _ => ze, fun _ => s⟩
/-- Two units that differ in their dots alone. -/
def u2 (X lo hi lo' hi' ti : Int) (be ze s : Bool) : Uns := ⟨fun _ => X, fun i => if i = 0 then lo else lo', fun i => if i = 0 then hi else hi', fun _ => ti, fun _ => be, fun _ => ze, fun _ => s⟩
theorem turn_bits (lo : Int) (k : Nat) (hk : k < 8) (h0 : 0 ≤ lo) (h1 : lo ≤ 255) : rv lo / 2 ^ k % 2 = lo / 2 ^ (7 - k) % 2 := by
  have key : ∀ a : Fin 256, ∀ j : Fin 8, rv ((a.val : Nat) : Int) / 2 ^ j.val % 2 = ((a.val : Nat) : Int) / 2 ^ (7 - j.val) % 2 := by decide +kernel
  have := key ⟨lo.toNat, by omega⟩ ⟨k, hk⟩
  simpa only [Int.toNat_of_nonneg h0] using this
theorem rv_in (n : Int) : 0 ≤ rv n ∧ rv n ≤ 255 := by unfold rv; omega
theorem dv_at {X lo hi : Int} (k : Nat) (hk : k < 8) : dv X lo hi (X + k) = lo / 2 ^ (7 - k) % 2 + 2 * (hi / 2 ^ (7 - k) % 2) := by
  unfold dv
  rw [if_neg (by omega)]
  rw [show (7 - (X + (k : Int) - X)).toNat = 7 - k by omega]
theorem dv_turn {X lo hi : Int} (k : Nat) (hk : k < 8) (h0 : 0 ≤ lo) (h1 : lo ≤ 255) (g0 : 0 ≤ hi) (g1 : hi ≤ 255) : dv X (rv lo) (rv hi) (X + 7 - k) = dv X lo hi (X + k) := by
  have e : X + 7 - (k : Int) = X + ((7 - k : Nat) : Int) := by omega
  rw [e, dv_at _ (by omega), dv_at _ hk, show 7 - (7 - k) = k by omega, turn_bits lo k hk h0 h1, turn_bits hi k hk g0 g1]
theorem dv_out {X lo hi x : Int} (h : x - X < 0 ∨ 7 < x - X) : dv X lo hi x = 0 := by unfold dv; rw [if_pos h]
theorem one_dot (X lo hi ti x : Int) (be ze s : Bool) : (u1 X lo hi ti be ze s).dot x 1 = (if 0 < dv X lo hi x then dv X lo hi x + 4 * (ti % 4) else 0) ∧ (u1 X lo hi ti be ze s).back x 1 = (if 0 < dv X lo hi x then be else false) ∧ (u1 X lo hi ti be ze s).zero x 1 = (if 0 < dv X lo hi x then ze else false) := by
  by_cases h : 0 < dv X lo hi x
  · simp only [if_pos h]
    exact dot_some (U := u1 X lo hi ti be ze s) (k := 0) (by omega) (fun j hj => absurd hj (by omega)) h
  · simp only [if_neg h]
    exact dot_none (U := u1 X lo hi ti be ze s) (fun j hj => by show dv X lo hi x ≤ 0; omega)
theorem two_dot (X lo hi lo' hi' ti x : Int) (be ze s : Bool) (h : 0 < dv X lo hi x) : (u2 X lo hi lo' hi' ti be ze s).dot x 2 = dv X lo hi x + 4 * (ti % 4) :=
  (dot_some (U := u2 X lo hi lo' hi' ti be ze s) (x := x) (n := 2) (k := 0) (by omega) (fun j hj => absurd hj (by omega)) h).1
theorem two_none (X lo hi lo' hi' ti x : Int) (be ze s : Bool) (h : x - X < 0 ∨ 7 < x - X) : (u2 X lo hi lo' hi' ti be ze s).dot x 2 = 0 :=
  (dot_none (U := u2 X lo hi lo' hi' ti be ze s) (x := x) (n := 2) (fun j _ => by show dv X _ _ x ≤ 0; rw [dv_out h]; omega)).1
theorem row1 (w : World) (X lo hi ti : Int) (be ze s : Bool) : RowAt (w.alloc (.cells #[.int .u8 X, .int .u8 lo, .int .u8 hi, .int .u8 ti, .bool be, .bool ze, .bool s] 44)) (some ⟨w.heap.size, 0, none⟩) 1 7 (u1 X lo hi ti be ze s).C := by
  intro i hi
  obtain rfl : i = 0 := by omega
  refine ⟨w.heap.size, 0, rfl, by simp, fun j hj => ?_⟩
  rw [blk_cell (blk_new w _)]
  have : j = 0 ∨ j = 1 ∨ j = 2 ∨ j = 3 ∨ j = 4 ∨ j = 5 ∨ j = 6 := by omega
  rcases this with rfl | rfl | rfl | rfl | rfl | rfl | rfl <;> rfl
theorem row2 (w : World) (X lo hi lo' hi' ti : Int) (be ze s : Bool) : RowAt (w.alloc (.cells #[.int .u8 X, .int .u8 lo, .int .u8 hi, .int .u8 ti, .bool be, .bool ze, .bool s, .int .u8 X, .int .u8 lo', .int .u8 hi', .int .u8 ti, .bool be, .bool ze, .bool s] 44)) (some ⟨w.heap.size, 0, none⟩) 2 7 (u2 X lo hi lo' hi' ti be ze s).C := by
  intro i hi
  refine ⟨w.heap.size, 0, rfl, by simp, fun j hj => ?_⟩
  rw [blk_cell (blk_new w _)]
  have : j = 0 ∨ j = 1 ∨ j = 2 ∨ j = 3 ∨ j = 4 ∨ j = 5 ∨ j = 6 := by omega
  have hi2 : i = 0 ∨ i = 1 := by omega
  rcases hi2 with rfl | rfl <;> rcases this with rfl | rfl | rfl | rfl | rfl | rfl | rfl <;> rfl
theorem and64n (lk : Int) (h0 : 0 ≤ lk) (h1 : lk ≤ 255) : 0 ≤ bits BinOp.andNot IntKind.u8 lk 64 ∧ bits BinOp.andNot IntKind.u8 lk 64 ≤ 255 ∧ bits BinOp.andNot IntKind.u8 lk 64 / 64 % 2 = 0 := by
  have key : ∀ a : Fin 256, 0 ≤ bits BinOp.andNot IntKind.u8 ((a.val : Nat) : Int) 64 ∧ bits BinOp.andNot IntKind.u8 ((a.val : Nat) : Int) 64 ≤ 255 ∧ bits BinOp.andNot IntKind.u8 ((a.val : Nat) : Int) 64 / 64 % 2 = 0 := by decide +kernel
  have := key ⟨lk.toNat, by omega⟩
  simpa only [Int.toNat_of_nonneg h0] using this
theorem or64 (lk : Int) (h0 : 0 ≤ lk) (h1 : lk ≤ 255) : 0 ≤ bits BinOp.or IntKind.u8 lk 64 ∧ bits BinOp.or IntKind.u8 lk 64 ≤ 255 ∧ bits BinOp.or IntKind.u8 lk 64 / 64 % 2 = 1 ∧ bits BinOp.or IntKind.u8 lk 64 / 32 % 2 = lk / 32 % 2 ∧ bits BinOp.or IntKind.u8 lk 64 % 4 = lk % 4 := by
  have key : ∀ a : Fin 256, 0 ≤ bits BinOp.or IntKind.u8 ((a.val : Nat) : Int) 64 ∧ bits BinOp.or IntKind.u8 ((a.val : Nat) : Int) 64 ≤ 255 ∧ bits BinOp.or IntKind.u8 ((a.val : Nat) : Int) 64 / 64 % 2 = 1 ∧ bits BinOp.or IntKind.u8 ((a.val : Nat) : Int) 64 / 32 % 2 = ((a.val : Nat) : Int) / 32 % 2 ∧ bits BinOp.or IntKind.u8 ((a.val : Nat) : Int) 64 % 4 = ((a.val : Nat) : Int) % 4 := by decide +kernel
  have := key ⟨lk.toNat, by omega⟩
  simpa only [Int.toNat_of_nonneg h0] using this
end Go.Proofs.Ytdmcmlajpajaaaa
namespace Go.Proofs.Ytdmcmlajpajaaaa
open Go.RowKit Go.Sx
theorem OwnC.rw {w : World} {base g cap : Nat} {V : Nat → Int} {S : Nat → Bool} (h : OwnC w base g cap V S) : RW w g 0 V S := ⟨h.lt.2, fun i hi j hj => by rw [Nat.zero_add]; exact h.cell hi hj⟩
theorem OwnC.cap {w : World} {base g cap : Nat} {V : Nat → Int} {S : Nat → Bool} (h : OwnC w base g cap V S) : 256 ≤ cap := by
  obtain ⟨xs, ho, _⟩ := h
  rcases ho.2 with ⟨e, _⟩ | ⟨g', cap', cur, e, _, _, hnc, _⟩
  · cases e
  · cases e; exact hnc
theorem u1_ok {X lo hi ti : Int} {be ze s : Bool} (hX : 0 ≤ X ∧ X ≤ 255) (h1 : 0 ≤ lo ∧ lo ≤ 255) (h2 : 0 ≤ hi ∧ hi ≤ 255) (h3 : 0 ≤ ti ∧ ti ≤ 255) : (u1 X lo hi ti be ze s).Ok 1 := ⟨fun _ _ => hX, fun _ _ => h1, fun _ _ => h2, fun _ _ => h3⟩
theorem u2_ok {X lo hi lo' hi' ti : Int} {be ze s : Bool} (hX : 0 ≤ X ∧ X ≤ 255) (h1 : 0 ≤ lo ∧ lo ≤ 255) (h2 : 0 ≤ hi ∧ hi ≤ 255) (g1 : 0 ≤ lo' ∧ lo' ≤ 255) (g2 : 0 ≤ hi' ∧ hi' ≤ 255) (h3 : 0 ≤ ti ∧ ti ≤ 255) : (u2 X lo hi lo' hi' ti be ze s).Ok 2 :=
  ⟨fun _ _ => hX, fun i _ => by show 0 ≤ (if i = 0 then lo else lo') ∧ (if i = 0 then lo else lo') ≤ 255; split; exact h1; exact g1, fun i _ => by show 0 ≤ (if i = 0 then hi else hi') ∧ (if i = 0 then hi else hi') ≤ 255; split; exact h2; exact g2, fun _ _ => h3⟩
theorem dot1c (X lo hi ti x : Int) (be ze s : Bool) (w : World) (hx0 : -9223372036854775808 ≤ x) (hx1 : x ≤ 9223372036854775807) (hX : 0 ≤ X ∧ X ≤ 255) (h1 : 0 ≤ lo ∧ lo ≤ 255) (h2 : 0 ≤ hi ∧ hi ≤ 255) (h3 : 0 ≤ ti ∧ ti ≤ 255) :
    Calls Try.prog 19 #[.slice (some ⟨w.heap.size, 0, none⟩) 1 1, .int .i64 x] (w.alloc (.cells #[.int .u8 X, .int .u8 lo, .int .u8 hi, .int .u8 ti, .bool be, .bool ze, .bool s] 44)) fun e w' => e = .returned (.tuple #[.int .u8 (if 0 < dv X lo hi x then dv X lo hi x + 4 * (ti % 4) else 0), .bool (if 0 < dv X lo hi x then be else false), .bool (if 0 < dv X lo hi x then ze else false)]) ∧ Below w.heap.size w w' := by
  refine (Dot_any _ 1 1 (u1 X lo hi ti be ze s) x _ (by omega) hx0 hx1 (u1_ok hX h1 h2 h3) (row1 w X lo hi ti be ze s)).mono ?_
  rintro e w' ⟨rfl, hb⟩
  obtain ⟨p1, p2, p3⟩ := one_dot X lo hi ti x be ze s
  rw [p1, p2, p3]
  exact ⟨rfl, ((Below.refl _ _).alloc (Nat.le_refl _) _).trans (hb.mono (by simp))⟩
theorem dot2c (X lo hi lo' hi' ti x : Int) (be ze s : Bool) (w : World) (hx0 : -9223372036854775808 ≤ x) (hx1 : x ≤ 9223372036854775807) (hX : 0 ≤ X ∧ X ≤ 255) (h1 : 0 ≤ lo ∧ lo ≤ 255) (h2 : 0 ≤ hi ∧ hi ≤ 255) (g1 : 0 ≤ lo' ∧ lo' ≤ 255) (g2 : 0 ≤ hi' ∧ hi' ≤ 255) (h3 : 0 ≤ ti ∧ ti ≤ 255) :
    Calls Try.prog 19 #[.slice (some ⟨w.heap.size, 0, none⟩) 2 2, .int .i64 x] (w.alloc (.cells #[.int .u8 X, .int .u8 lo, .int .u8 hi, .int .u8 ti, .bool be, .bool ze, .bool s, .int .u8 X, .int .u8 lo', .int .u8 hi', .int .u8 ti, .bool be, .bool ze, .bool s] 44)) fun e w' => e = .returned (.tuple #[.int .u8 ((u2 X lo hi lo' hi' ti be ze s).dot x 2), .bool ((u2 X lo hi lo' hi' ti be ze s).back x 2), .bool ((u2 X lo hi lo' hi' ti be ze s).zero x 2)]) ∧ Below w.heap.size w w' := by
  refine (Dot_any _ 2 2 (u2 X lo hi lo' hi' ti be ze s) x _ (by omega) hx0 hx1 (u2_ok hX h1 h2 g1 g2 h3) (row2 w X lo hi lo' hi' ti be ze s)).mono ?_
  rintro e w' ⟨rfl, hb⟩
  exact ⟨rfl, ((Below.refl _ _).alloc (Nat.le_refl _) _).trans (hb.mono (by simp))⟩
def setV (V : Nat → Int) (k : Nat) (x : Int) (i : Nat) : Int := if i = k then x else V i
theorem setV_vb {V : Nat → Int} (h : VB V) (k : Nat) (x : Int) (h0 : 0 ≤ x) (h1 : x ≤ 255) : VB (setV V k x) := ⟨fun i hi => by unfold setV; split; exact ⟨h0, h1⟩; exact h.b i hi⟩
set_option maxRecDepth 100000 in
set_option maxHeartbeats 3200000 in
theorem turned_yes (ao : Option Addr) (n cap : Nat) (L : BL) (i : Nat) (line lv hv x : Int) (t tb ls hs : Bool) (w : World) (hc : n ≤ cap) (hn : min n 257 = L.length) (hnil : ao = none → L.length = 0 ∧ cap = 0) (hL : RowL w ao L) (h256 : L.length = 256) (hi64 : i < 64)
    (hV : ∀ k, k < 256 → 0 ≤ vL L k ∧ vL L k ≤ 255) (hv0 : 0 ≤ lv) (hv1 : lv ≤ 255) (hw0 : 0 ≤ hv) (hw1 : hv ≤ 255) :
    Calls Try.prog 8 #[.slice ao n cap, .agg #[.int .i64 i, .int .i64 line, .bool t, .bool tb, .int .u8 lv, .bool ls, .int .u8 hv, .bool hs, .int .i64 x]] w fun e w' => e = .returned (.bool true) ∧ Below w.heap.size w w' := by
  have HN := hidI hn; clear hn
  have H256 := hidI h256; clear h256
  have HV : VB (vL L) := ⟨hV⟩; clear hV
  have MU : Hid (mayB 256 i 0 = true) := by show mayB _ _ _ = true; unfold mayB; rw [decide_eq_true_iff]; omega
  go_enter Try.func8, Try.ntmps8
  go_wp2_with fail
  refine (few2 ao cap n L _ hc HN.out).mono ?_
  rintro e w1 ⟨rfl, rfl⟩
  have Q0 := QW.new w i line lv hv x t tb ls hs
  have b0 : Below w.heap.size w ((w.alloc (.cells #[.int .i64 i, .int .i64 line, .bool t, .bool tb, .int .u8 lv, .bool ls, .int .u8 hv, .bool hs, .int .i64 x] 26)).alloc (.cells #[] 24)) := ((Below.refl _ _).alloc (Nat.le_refl _) _).alloc (by simp) _
  have on := own_new (w.alloc (.cells #[.int .i64 i, .int .i64 line, .bool t, .bool tb, .int .u8 lv, .bool ls, .int .u8 hv, .bool hs, .int .i64 x] 26)) (w.heap.size + 1) (by simp)
  have hl : L.length ≤ 257 := by rw [← HN.out]; omega
  go_wp2_with (first
    | (at_builtin; refine app_law rfl (.tmp 26) (.tmp 28) rfl (L := []) (M := L) (by simp; rfl) on ao cap rfl rfl rfl hnil (RowAt.below hL b0) (by simp; omega) (by simp) ?_; intro g c1 w1 h1 _ hg1 _; rw [List.nil_append] at h1; rw [H256.out]; have b1 := (Below.refl (w.heap.size + 1) ((w.alloc (.cells #[.int .i64 i, .int .i64 line, .bool t, .bool tb, .int .u8 lv, .bool ls, .int .u8 hv, .bool hs, .int .i64 x] 26)).alloc (.cells #[] 24))).grown hg1 (by simp) (fun k hk => by cases hk; simp); have Q1 : QW w w1 i line lv hv x t tb ls hs := ⟨(b1.block _ (by omega)).trans (blk_alloc Q0.b _), b0.trans (b1.mono (by omega))⟩; have q0 : w1.cell? ⟨w.heap.size, 0, none⟩ = some (.int .i64 i) := blk_cell Q1.b 0; clear Q0 b0 b1 hg1 on)
    | fail)
  have O1 := OwnC.of h1 H256.out
  clear h1
  have hcap := O1.cap
  refine (May_any _ _ _ _ _ _).mono ?_
  rw [MU.out]
  rintro e w2 ⟨rfl, rfl⟩
  have r0 : w1.cell? ⟨g, (4 * i + 2) * 2, none⟩ = some (.int .u8 (vL L (4 * i + 2))) := O1.cell (i := 4 * i + 2) (j := 0) (by omega) (by omega)
  have f0 : w1.frozen? ⟨g, (4 * i + 2) * 2, none⟩ = false := O1.frozen _
  obtain ⟨nn0, nn1, nn2⟩ := and64n (vL L (4 * i + 2)) (HV.b _ (by omega)).1 (HV.b _ (by omega)).2
  have lg := O1.lt
  have ng : g ≠ w.heap.size := by omega
  have ng' : w.heap.size ≠ g := by omega
  have q4 : w1.cell? ⟨w.heap.size, 4, none⟩ = some (.int .u8 lv) := blk_cell Q1.b 4
  have q5 : w1.cell? ⟨w.heap.size, 5, none⟩ = some (.bool ls) := blk_cell Q1.b 5
  have q6 : w1.cell? ⟨w.heap.size, 6, none⟩ = some (.int .u8 hv) := blk_cell Q1.b 6
  have q7 : w1.cell? ⟨w.heap.size, 7, none⟩ = some (.bool hs) := blk_cell Q1.b 7
  go_wp2_with fail
  have O2 : OwnC (w1.setCell ⟨g, (4 * i + 2) * 2, none⟩ (.int .u8 (bits BinOp.andNot IntKind.u8 (vL L (4 * i + 2)) 64))) _ g c1 (setV (vL L) (4 * i + 2) (bits BinOp.andNot IntKind.u8 (vL L (4 * i + 2)) 64)) (sL L) := O1.store _ (by omega)
  have Q2 : QW w (w1.setCell ⟨g, (4 * i + 2) * 2, none⟩ (.int .u8 (bits BinOp.andNot IntKind.u8 (vL L (4 * i + 2)) 64))) i line lv hv x t tb ls hs := ⟨(blk_other (by exact ng) _).trans Q1.b, Q1.bl.setCell (p := ⟨g, (4 * i + 2) * 2, none⟩) (by show _ ≤ g; omega) _⟩
  obtain ⟨w2, hw2⟩ : ∃ w2, w2 = w1.setCell ⟨g, (4 * i + 2) * 2, none⟩ (.int .u8 (bits BinOp.andNot IntKind.u8 (vL L (4 * i + 2)) 64)) := ⟨_, rfl⟩
  rw [← hw2] at O2 Q2 ⊢
  clear hw2
  obtain ⟨lk, hlk⟩ : ∃ lk, lk = bits BinOp.andNot IntKind.u8 (vL L (4 * i + 2)) 64 := ⟨_, rfl⟩
  rw [← hlk] at O2 nn0 nn1 nn2
  clear hlk r0 f0 q0 q4 q5 q6 q7 lg Q1 O1
  obtain ⟨o0, o1, o2, o3, o4⟩ := or64 lk nn0 nn1
  obtain ⟨X, hX⟩ : ∃ X, X = vL L (4 * i + 3) := ⟨_, rfl⟩
  obtain ⟨ti, hti⟩ : ∃ ti, ti = lk % 4 := ⟨_, rfl⟩
  obtain ⟨be, hbe⟩ : ∃ be, be = decide (lk / 32 % 2 = 1) := ⟨_, rfl⟩
  obtain ⟨ze, hze⟩ : ∃ ze, ze = decide (i = 0) := ⟨_, rfl⟩
  obtain ⟨s, hs'⟩ : ∃ s, s = unS (sL L) i ls hs := ⟨_, rfl⟩
  have E1 : Hid (unU (setV (vL L) (4 * i + 2) lk) (sL L) i lv hv ls hs = unV X lv hv ti be ze s) := by
    show _ = _
    unfold unU setV
    simp [nn2, hX, hti, hbe, hze, hs']
  have E2 : Hid (unU (setV (setV (vL L) (4 * i + 2) lk) (4 * i + 2) (bits BinOp.or IntKind.u8 lk 64)) (sL L) i lv hv ls hs = unV X (rv lv) (rv hv) ti be ze s) := by
    show _ = _
    unfold unU setV
    simp [o2, o3, o4, hX, hti, hbe, hze, hs']
  have HX := hidI hX; clear hX
  have X0 : 0 ≤ X ∧ X ≤ 255 := by rw [HX.out]; exact HV.b _ (by omega)
  have T0 : 0 ≤ ti ∧ ti ≤ 255 := by omega
  clear hti hbe hze hs' o2 o3 o4 nn2
  refine (unR O2.rw (setV_vb HV _ _ nn0 nn1) c1 hcap i hi64 lv hv ls hs hv0 hv1 hw0 hw1).mono ?_
  rw [E1.out]
  rintro e w3 ⟨rfl, hb3⟩
  have O3 := O2.below hb3
  have Q3 := Q2.below hb3
  clear hb3 O2 Q2 w2
  have r0 : w3.cell? ⟨g, (4 * i + 2) * 2, none⟩ = some (.int .u8 lk) := (O3.cell (i := 4 * i + 2) (j := 0) (by omega) (by omega)).trans (by simp [ByC, setV])
  have f0 : w3.frozen? ⟨g, (4 * i + 2) * 2, none⟩ = false := O3.frozen _
  have q0 : w3.cell? ⟨w.heap.size, 0, none⟩ = some (.int .i64 i) := blk_cell Q3.b 0
  have q4 : w3.cell? ⟨w.heap.size, 4, none⟩ = some (.int .u8 lv) := blk_cell Q3.b 4
  have q5 : w3.cell? ⟨w.heap.size, 5, none⟩ = some (.bool ls) := blk_cell Q3.b 5
  have q6 : w3.cell? ⟨w.heap.size, 6, none⟩ = some (.int .u8 hv) := blk_cell Q3.b 6
  have q7 : w3.cell? ⟨w.heap.size, 7, none⟩ = some (.bool hs) := blk_cell Q3.b 7
  have lg := O3.lt
  have lg2 := lg.2
  have lw : w.heap.size < w3.heap.size := blk_lt Q3.b
  have ng2 : w3.heap.size ≠ g := by omega
  have ng3 : g ≠ w3.heap.size := by omega
  have ng4 : w3.heap.size ≠ w.heap.size := by omega
  go_wp2_with fail
  have O4 : OwnC (w3.setCell ⟨g, (4 * i + 2) * 2, none⟩ (.int .u8 (bits BinOp.or IntKind.u8 lk 64))) _ g c1 (setV (setV (vL L) (4 * i + 2) lk) (4 * i + 2) (bits BinOp.or IntKind.u8 lk 64)) (sL L) := O3.store _ (by omega)
  have Q4 : QW w (w3.setCell ⟨g, (4 * i + 2) * 2, none⟩ (.int .u8 (bits BinOp.or IntKind.u8 lk 64))) i line lv hv x t tb ls hs := ⟨(blk_other (by exact ng) _).trans Q3.b, Q3.bl.setCell (p := ⟨g, (4 * i + 2) * 2, none⟩) (by show _ ≤ g; omega) _⟩
  have sz : (w3.setCell ⟨g, (4 * i + 2) * 2, none⟩ (.int .u8 (bits BinOp.or IntKind.u8 lk 64))).heap.size = w3.heap.size := by simp
  have U5 : ((w3.setCell ⟨g, (4 * i + 2) * 2, none⟩ (.int .u8 (bits BinOp.or IntKind.u8 lk 64))).alloc (.cells #[.int .u8 X, .int .u8 lv, .int .u8 hv, .int .u8 ti, .bool be, .bool ze, .bool s] 44)).heap[w3.heap.size]? = some (.cells #[.int .u8 X, .int .u8 lv, .int .u8 hv, .int .u8 ti, .bool be, .bool ze, .bool s] 44) := blk_new' _ sz
  have O5 := O4.below ((Below.refl _ _).alloc (Nat.le_refl _) (.cells #[.int .u8 X, .int .u8 lv, .int .u8 hv, .int .u8 ti, .bool be, .bool ze, .bool s] 44))
  have Q5 := Q4.below ((Below.refl _ _).alloc (Nat.le_refl _) (.cells #[.int .u8 X, .int .u8 lv, .int .u8 hv, .int .u8 ti, .bool be, .bool ze, .bool s] 44))
  obtain ⟨w5, hw5⟩ : ∃ w5, w5 = (w3.setCell ⟨g, (4 * i + 2) * 2, none⟩ (.int .u8 (bits BinOp.or IntKind.u8 lk 64))).alloc (.cells #[.int .u8 X, .int .u8 lv, .int .u8 hv, .int .u8 ti, .bool be, .bool ze, .bool s] 44) := ⟨_, rfl⟩
  rw [← hw5] at U5 O5 Q5 ⊢
  clear hw5 sz r0 f0 q0 q4 q5 q6 q7
  clear O4 Q4 O3 Q3
  obtain ⟨ga, hga⟩ : ∃ ga, ga = w3.heap.size := ⟨_, rfl⟩
  rw [← hga] at U5 lg lg2 lw ng2 ng3 ng4 ⊢
  clear hga
  refine (unR O5.rw (setV_vb (setV_vb HV _ _ nn0 nn1) _ _ o0 o1) c1 hcap i hi64 lv hv ls hs hv0 hv1 hw0 hw1).mono ?_
  rw [E2.out]
  rintro e w6 ⟨rfl, hb6⟩
  have O6 := O5.below hb6
  have Q6 := Q5.below hb6
  have U6 := (hb6.block _ (blk_lt U5)).trans U5
  clear hb6 O5 Q5 U5 w3 w5
  have la := blk_lt U6
  have lw6 : w.heap.size < w6.heap.size := blk_lt Q6.b
  have lg6 := O6.lt.2
  have y0 : w6.cell? ⟨ga, 0, none⟩ = some (.int .u8 X) := blk_cell U6 0
  have y1 : w6.cell? ⟨ga, 1, none⟩ = some (.int .u8 lv) := blk_cell U6 1
  have y2 : w6.cell? ⟨ga, 2, none⟩ = some (.int .u8 hv) := blk_cell U6 2
  have y3 : w6.cell? ⟨ga, 3, none⟩ = some (.int .u8 ti) := blk_cell U6 3
  have y4 : w6.cell? ⟨ga, 4, none⟩ = some (.bool be) := blk_cell U6 4
  have y5 : w6.cell? ⟨ga, 5, none⟩ = some (.bool ze) := blk_cell U6 5
  have y6 : w6.cell? ⟨ga, 6, none⟩ = some (.bool s) := blk_cell U6 6
  have q0 : w6.cell? ⟨w.heap.size, 0, none⟩ = some (.int .i64 i) := blk_cell Q6.b 0
  have x6 : w6.cell? ⟨g, (4 * i + 3) * 2, none⟩ = some (.int .u8 X) := (O6.cell (i := 4 * i + 3) (j := 0) (by omega) (by omega)).trans (by simp [ByC, setV, HX.out])
  have m1 : w6.heap.size ≠ ga := by omega
  have m2 : w6.heap.size ≠ g := by omega
  have m3 : w6.heap.size ≠ w.heap.size := by omega
  go_wp2_with fail
  have U7 := blk_new w6 (.cells #[.int .u8 X, .int .u8 (rv lv), .int .u8 (rv hv), .int .u8 ti, .bool be, .bool ze, .bool s] 44)
  have U8 := blk_alloc U6 (.cells #[.int .u8 X, .int .u8 (rv lv), .int .u8 (rv hv), .int .u8 ti, .bool be, .bool ze, .bool s] 44)
  have B8 := Q6.bl.alloc Q6.bl.size (.cells #[.int .u8 X, .int .u8 (rv lv), .int .u8 (rv hv), .int .u8 ti, .bool be, .bool ze, .bool s] 44)
  obtain ⟨w7, hw7⟩ : ∃ w7, w7 = w6.alloc (.cells #[.int .u8 X, .int .u8 (rv lv), .int .u8 (rv hv), .int .u8 ti, .bool be, .bool ze, .bool s] 44) := ⟨_, rfl⟩
  rw [← hw7] at U7 U8 B8 ⊢
  clear hw7 y0 y1 y2 y3 y4 y5 y6 q0 x6 O6 Q6 U6 lw6 lg6 m2 m3
  obtain ⟨gb, hgb⟩ : ∃ gb, gb = w6.heap.size := ⟨_, rfl⟩
  rw [← hgb] at U7 la m1 ⊢
  clear hgb w6
  have gb0 := (rv_in lv)
  have gb1 := (rv_in hv)
  go_loopw [10] (fun i wr => ∃ k : Nat, k ≤ 8 ∧ i = .int .i64 k ∧ Below w7.heap.size w7 wr) (fun i _ => 8 - (intOf i).toNat)
  case atStart => exact ⟨0, Nat.zero_le _, rfl, Below.refl _ _⟩
  case round =>
    obtain ⟨k, hk, rfl, hbl⟩ := hrel
    have Ua := (hbl.block _ (blk_lt U8)).trans U8
    have Ub := (hbl.block _ (blk_lt U7)).trans U7
    have y0 : wr.cell? ⟨ga, 0, none⟩ = some (.int .u8 X) := blk_cell Ua 0
    have y1 : wr.cell? ⟨ga, 1, none⟩ = some (.int .u8 lv) := blk_cell Ua 1
    have y2 : wr.cell? ⟨ga, 2, none⟩ = some (.int .u8 hv) := blk_cell Ua 2
    have y3 : wr.cell? ⟨ga, 3, none⟩ = some (.int .u8 ti) := blk_cell Ua 3
    have y4 : wr.cell? ⟨ga, 4, none⟩ = some (.bool be) := blk_cell Ua 4
    have y5 : wr.cell? ⟨ga, 5, none⟩ = some (.bool ze) := blk_cell Ua 5
    have y6 : wr.cell? ⟨ga, 6, none⟩ = some (.bool s) := blk_cell Ua 6
    have z0 : wr.cell? ⟨gb, 0, none⟩ = some (.int .u8 X) := blk_cell Ub 0
    have z1 : wr.cell? ⟨gb, 1, none⟩ = some (.int .u8 (rv lv)) := blk_cell Ub 1
    have z2 : wr.cell? ⟨gb, 2, none⟩ = some (.int .u8 (rv hv)) := blk_cell Ub 2
    have z3 : wr.cell? ⟨gb, 3, none⟩ = some (.int .u8 ti) := blk_cell Ub 3
    have z4 : wr.cell? ⟨gb, 4, none⟩ = some (.bool be) := blk_cell Ub 4
    have z5 : wr.cell? ⟨gb, 5, none⟩ = some (.bool ze) := blk_cell Ub 5
    have z6 : wr.cell? ⟨gb, 6, none⟩ = some (.bool s) := blk_cell Ub 6
    have la' := blk_lt Ua
    have lb' := blk_lt Ub
    by_cases hlt : k < 8
    · obtain ⟨v, hv'⟩ : ∃ v, v = dv X lv hv (X + k) := ⟨_, rfl⟩
      obtain ⟨a0, ha0⟩ : ∃ a0, a0 = (if 0 < v then v + 4 * (ti % 4) else 0) := ⟨_, rfl⟩
      obtain ⟨c0, hc0⟩ : ∃ c0, c0 = (if 0 < v then be else false) := ⟨_, rfl⟩
      obtain ⟨d0, hd0⟩ : ∃ d0, d0 = (if 0 < v then ze else false) := ⟨_, rfl⟩
      have hturn : Hid (dv X (rv lv) (rv hv) (X + 7 - k) = v) := (dv_turn k hlt hv0 hv1 hw0 hw1).trans hv'.symm
      have HV' := hidI hv'; clear hv'
      have HA := hidI ha0; clear ha0
      have HC := hidI hc0; clear hc0
      have HD := hidI hd0; clear hd0
      go_wp2_with fail
      refine (dot1c X lv hv ti (X + k) be ze s wr (by omega) (by omega) X0 ⟨hv0, hv1⟩ ⟨hw0, hw1⟩ T0).mono ?_
      rw [← HV'.out, ← HA.out, ← HC.out, ← HD.out]
      rintro e wa ⟨rfl, ba⟩
      clear y0 y1 y2 y3 y4 y5 y6 z0 z1 z2 z3 z4 z5 z6 la' lb'
      have Ua1 := (ba.block _ (blk_lt Ua)).trans Ua
      have Ub1 := (ba.block _ (blk_lt Ub)).trans Ub
      clear Ua Ub
      have bl1 := hbl.trans (ba.mono hbl.size)
      clear hbl ba
      have y0 : wa.cell? ⟨ga, 0, none⟩ = some (.int .u8 X) := blk_cell Ua1 0
      have y1 : wa.cell? ⟨ga, 1, none⟩ = some (.int .u8 lv) := blk_cell Ua1 1
      have y2 : wa.cell? ⟨ga, 2, none⟩ = some (.int .u8 hv) := blk_cell Ua1 2
      have y3 : wa.cell? ⟨ga, 3, none⟩ = some (.int .u8 ti) := blk_cell Ua1 3
      have y4 : wa.cell? ⟨ga, 4, none⟩ = some (.bool be) := blk_cell Ua1 4
      have y5 : wa.cell? ⟨ga, 5, none⟩ = some (.bool ze) := blk_cell Ua1 5
      have y6 : wa.cell? ⟨ga, 6, none⟩ = some (.bool s) := blk_cell Ua1 6
      have z0 : wa.cell? ⟨gb, 0, none⟩ = some (.int .u8 X) := blk_cell Ub1 0
      have z1 : wa.cell? ⟨gb, 1, none⟩ = some (.int .u8 (rv lv)) := blk_cell Ub1 1
      have z2 : wa.cell? ⟨gb, 2, none⟩ = some (.int .u8 (rv hv)) := blk_cell Ub1 2
      have z3 : wa.cell? ⟨gb, 3, none⟩ = some (.int .u8 ti) := blk_cell Ub1 3
      have z4 : wa.cell? ⟨gb, 4, none⟩ = some (.bool be) := blk_cell Ub1 4
      have z5 : wa.cell? ⟨gb, 5, none⟩ = some (.bool ze) := blk_cell Ub1 5
      have z6 : wa.cell? ⟨gb, 6, none⟩ = some (.bool s) := blk_cell Ub1 6
      have la' := blk_lt Ua1
      have lb' := blk_lt Ub1
      go_wp2_with fail
      refine (dot1c X (rv lv) (rv hv) ti (X + 7 - k) be ze s wa (by omega) (by omega) X0 gb0 gb1 T0).mono ?_
      rw [hturn.out, ← HA.out, ← HC.out, ← HD.out]
      rintro e wb ⟨rfl, bb⟩
      clear y0 y1 y2 y3 y4 y5 y6 z0 z1 z2 z3 z4 z5 z6 la' lb'
      have Ua2 := (bb.block _ (blk_lt Ua1)).trans Ua1
      have Ub2 := (bb.block _ (blk_lt Ub1)).trans Ub1
      clear Ua1 Ub1
      have bl2 := bl1.trans (bb.mono bl1.size)
      clear bl1 bb
      have y0 : wb.cell? ⟨ga, 0, none⟩ = some (.int .u8 X) := blk_cell Ua2 0
      have y1 : wb.cell? ⟨ga, 1, none⟩ = some (.int .u8 lv) := blk_cell Ua2 1
      have y2 : wb.cell? ⟨ga, 2, none⟩ = some (.int .u8 hv) := blk_cell Ua2 2
      have y3 : wb.cell? ⟨ga, 3, none⟩ = some (.int .u8 ti) := blk_cell Ua2 3
      have y4 : wb.cell? ⟨ga, 4, none⟩ = some (.bool be) := blk_cell Ua2 4
      have y5 : wb.cell? ⟨ga, 5, none⟩ = some (.bool ze) := blk_cell Ua2 5
      have y6 : wb.cell? ⟨ga, 6, none⟩ = some (.bool s) := blk_cell Ua2 6
      have z0 : wb.cell? ⟨gb, 0, none⟩ = some (.int .u8 X) := blk_cell Ub2 0
      have z1 : wb.cell? ⟨gb, 1, none⟩ = some (.int .u8 (rv lv)) := blk_cell Ub2 1
      have z2 : wb.cell? ⟨gb, 2, none⟩ = some (.int .u8 (rv hv)) := blk_cell Ub2 2
      have z3 : wb.cell? ⟨gb, 3, none⟩ = some (.int .u8 ti) := blk_cell Ub2 3
      have z4 : wb.cell? ⟨gb, 4, none⟩ = some (.bool be) := blk_cell Ub2 4
      have z5 : wb.cell? ⟨gb, 5, none⟩ = some (.bool ze) := blk_cell Ub2 5
      have z6 : wb.cell? ⟨gb, 6, none⟩ = some (.bool s) := blk_cell Ub2 6
      have la' := blk_lt Ua2
      have lb' := blk_lt Ub2
      go_wp2_with fail
      refine (dot2c X lv hv (rv lv) (rv hv) ti (X + k) be ze s wb (by omega) (by omega) X0 ⟨hv0, hv1⟩ ⟨hw0, hw1⟩ gb0 gb1 T0).mono ?_
      rintro e wc ⟨rfl, bc⟩
      clear y0 y1 y2 y3 y4 y5 y6 z0 z1 z2 z3 z4 z5 z6 la' lb'
      have bl3 := bl2.trans (bc.mono bl2.size)
      clear bl2 bc Ua2 Ub2
      by_cases hp : 0 < v
      · have e1 : (u2 X lv hv (rv lv) (rv hv) ti be ze s).dot (X + k) 2 = a0 := by rw [two_dot X lv hv _ _ ti (X + k) be ze s (by rw [← HV'.out]; exact hp), ← HV'.out, HA.out, if_pos hp]
        rw [e1]
        clear e1 hp
        go_wp2_with fail
        all_goals exact ⟨⟨k + 1, by omega, by simp, bl3⟩, by simp [intOf]; omega⟩
      · obtain rfl : a0 = 0 := by rw [HA.out, if_neg hp]
        clear hp
        go_wp2_with fail
        all_goals exact ⟨⟨k + 1, by omega, by simp, bl3⟩, by simp [intOf]; omega⟩
    · obtain rfl : k = 8 := by omega
      go_wp2_with fail
      refine (dot2c X lv hv (rv lv) (rv hv) ti (X - 1) be ze s wr (by omega) (by omega) X0 ⟨hv0, hv1⟩ ⟨hw0, hw1⟩ gb0 gb1 T0).mono ?_
      rw [two_none X _ _ _ _ _ _ _ _ _ (by omega)]
      rintro e wa ⟨rfl, ba⟩
      clear y0 y1 y2 y3 y4 y5 y6 z0 z1 z2 z3 z4 z5 z6 la' lb'
      have Ua1 := (ba.block _ (blk_lt Ua)).trans Ua
      have Ub1 := (ba.block _ (blk_lt Ub)).trans Ub
      clear Ua Ub
      have bl1 := hbl.trans (ba.mono hbl.size)
      clear hbl ba
      have y0 : wa.cell? ⟨ga, 0, none⟩ = some (.int .u8 X) := blk_cell Ua1 0
      have y1 : wa.cell? ⟨ga, 1, none⟩ = some (.int .u8 lv) := blk_cell Ua1 1
      have y2 : wa.cell? ⟨ga, 2, none⟩ = some (.int .u8 hv) := blk_cell Ua1 2
      have y3 : wa.cell? ⟨ga, 3, none⟩ = some (.int .u8 ti) := blk_cell Ua1 3
      have y4 : wa.cell? ⟨ga, 4, none⟩ = some (.bool be) := blk_cell Ua1 4
      have y5 : wa.cell? ⟨ga, 5, none⟩ = some (.bool ze) := blk_cell Ua1 5
      have y6 : wa.cell? ⟨ga, 6, none⟩ = some (.bool s) := blk_cell Ua1 6
      have z0 : wa.cell? ⟨gb, 0, none⟩ = some (.int .u8 X) := blk_cell Ub1 0
      have z1 : wa.cell? ⟨gb, 1, none⟩ = some (.int .u8 (rv lv)) := blk_cell Ub1 1
      have z2 : wa.cell? ⟨gb, 2, none⟩ = some (.int .u8 (rv hv)) := blk_cell Ub1 2
      have z3 : wa.cell? ⟨gb, 3, none⟩ = some (.int .u8 ti) := blk_cell Ub1 3
      have z4 : wa.cell? ⟨gb, 4, none⟩ = some (.bool be) := blk_cell Ub1 4
      have z5 : wa.cell? ⟨gb, 5, none⟩ = some (.bool ze) := blk_cell Ub1 5
      have z6 : wa.cell? ⟨gb, 6, none⟩ = some (.bool s) := blk_cell Ub1 6
      have la' := blk_lt Ua1
      have lb' := blk_lt Ub1
      go_wp2_with fail
      refine (dot2c X lv hv (rv lv) (rv hv) ti (X + 8) be ze s wa (by omega) (by omega) X0 ⟨hv0, hv1⟩ ⟨hw0, hw1⟩ gb0 gb1 T0).mono ?_
      rw [two_none X _ _ _ _ _ _ _ _ _ (by omega)]
      rintro e wb ⟨rfl, bb⟩
      clear y0 y1 y2 y3 y4 y5 y6 z0 z1 z2 z3 z4 z5 z6 la' lb'
      have bl2 := bl1.trans (bb.mono bl1.size)
      go_wp2_with fail
      refine (awake_any _).mono ?_
      rintro e wd ⟨rfl, bd⟩
      go_wp2
      go_ret
      have b9 := B8.trans (bl2.mono B8.size)
      exact ⟨rfl, b9.trans (bd.mono b9.size)⟩
end Go.Proofs.Ytdmcmlajpajaaaa
namespace Go.Proofs.Ytdmcmlajpajaaaa
open Go.RowKit Go.Sx
theorem takeN (m : Nat) {w : World} {ao : Option Addr} {L : BL} (h : RowL w ao L) : RowL w ao (L.take m) := by
  intro i hi
  have hi' : i < m ∧ i < L.length := by rw [List.length_take] at hi; omega
  obtain ⟨b, off, e, hlt, hc⟩ := h i hi'.2
  refine ⟨b, off, e, hlt, fun j hj => (hc j hj).trans ?_⟩
  simp [ByC, vL, sL, List.getD_eq_getElem?_getD, hi'.1]
set_option maxRecDepth 100000 in
set_option maxHeartbeats 3200000 in
theorem turned_no (ao : Option Addr) (n cap : Nat) (L : BL) (I line lv hv x : Int) (t tb ls hs : Bool) (w : World) (hc : n ≤ cap) (hn : min n 257 = L.length) (hnil : ao = none → L.length = 0 ∧ cap = 0) (hL : RowL w ao L) (hm : mayB L.length I 0 = false) :
    Calls Try.prog 8 #[.slice ao n cap, .agg #[.int .i64 I, .int .i64 line, .bool t, .bool tb, .int .u8 lv, .bool ls, .int .u8 hv, .bool hs, .int .i64 x]] w fun e w' => e = .returned (.bool true) ∧ Below w.heap.size w w' := by
  have HN := hidI hn; clear hn
  have HM := hidI hm; clear hm
  go_enter Try.func8, Try.ntmps8
  go_wp2_with fail
  refine (few2 ao cap n L _ hc HN.out).mono ?_
  rintro e w1 ⟨rfl, rfl⟩
  have Q0 := QW.new w I line lv hv x t tb ls hs
  have b0 : Below w.heap.size w ((w.alloc (.cells #[.int .i64 I, .int .i64 line, .bool t, .bool tb, .int .u8 lv, .bool ls, .int .u8 hv, .bool hs, .int .i64 x] 26)).alloc (.cells #[] 24)) := ((Below.refl _ _).alloc (Nat.le_refl _) _).alloc (by simp) _
  have on := own_new (w.alloc (.cells #[.int .i64 I, .int .i64 line, .bool t, .bool tb, .int .u8 lv, .bool ls, .int .u8 hv, .bool hs, .int .i64 x] 26)) (w.heap.size + 1) (by simp)
  have hl : L.length ≤ 257 := by rw [← HN.out]; omega
  go_wp2_with (first
    | (at_builtin; refine app_law rfl (.tmp 26) (.tmp 28) rfl (L := []) (M := L) (by simp; rfl) on ao cap rfl rfl rfl hnil (RowAt.below hL b0) (by simp; omega) (by simp) ?_; intro g c1 w1 h1 _ hg1 _; rw [List.nil_append] at h1; have b1 := (Below.refl (w.heap.size + 1) ((w.alloc (.cells #[.int .i64 I, .int .i64 line, .bool t, .bool tb, .int .u8 lv, .bool ls, .int .u8 hv, .bool hs, .int .i64 x] 26)).alloc (.cells #[] 24))).grown hg1 (by simp) (fun k hk => by cases hk; simp); have Q1 : QW w w1 I line lv hv x t tb ls hs := ⟨(b1.block _ (by omega)).trans (blk_alloc Q0.b _), b0.trans (b1.mono (by omega))⟩; have q0 : w1.cell? ⟨w.heap.size, 0, none⟩ = some (.int .i64 I) := blk_cell Q1.b 0; clear Q0 b0 b1 hg1 on)
    | fail)
  refine (May_any _ _ _ _ _ _).mono ?_
  rw [HM.out]
  rintro e w2 ⟨rfl, rfl⟩
  go_wp2_with fail
  refine (awake_any _).mono ?_
  rintro e w3 ⟨rfl, b3⟩
  go_wp2
  go_ret
  exact ⟨rfl, Q1.bl.trans (b3.mono Q1.bl.size)⟩
theorem turned_any (ao : Option Addr) (n cap : Nat) (L : BL) (I line lv hv x : Int) (t tb ls hs : Bool) (w : World) (hc : n ≤ cap) (hn : min n 257 = L.length) (hnil : ao = none → L.length = 0 ∧ cap = 0) (hL : RowL w ao L)
    (hV : ∀ k, k < L.length → 0 ≤ vL L k ∧ vL L k ≤ 255) (hv0 : 0 ≤ lv) (hv1 : lv ≤ 255) (hw0 : 0 ≤ hv) (hw1 : hv ≤ 255) :
    Calls Try.prog 8 #[.slice ao n cap, .agg #[.int .i64 I, .int .i64 line, .bool t, .bool tb, .int .u8 lv, .bool ls, .int .u8 hv, .bool hs, .int .i64 x]] w fun e w' => e = .returned (.bool true) ∧ Below w.heap.size w w' := by
  cases hm : mayB L.length I 0 with
  | false => exact turned_no ao n cap L I line lv hv x t tb ls hs w hc hn hnil hL hm
  | true =>
    unfold mayB at hm
    rw [decide_eq_true_iff] at hm
    obtain ⟨i, rfl⟩ : ∃ i : Nat, I = (i : Int) := ⟨I.toNat, by omega⟩
    exact turned_yes ao n cap L i line lv hv x t tb ls hs w hc hn hnil hL hm.1 (by omega) (fun k hk => hV k (by omega)) hv0 hv1 hw0 hw1
end Go.Proofs.Ytdmcmlajpajaaaa
