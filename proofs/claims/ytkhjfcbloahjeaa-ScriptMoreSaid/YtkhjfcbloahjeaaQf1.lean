import Derived.Test.YtkhjfcbloahjeaaQm3
import Derived.Laws.AppendOwnNone
namespace Go.Proofs.Ytkhjfcbloahjeaa
open Go.RowKit Go.Sx
theorem infoR : (Try.prog.info? 63).map (fun i => (i.zero, i.size, i.bytes)) = some (some (.agg #[.int .i64 0, .int .i64 0]), 2, 16) := by kernel_rfl
theorem infoM : (Try.prog.info? 4).map (fun i => (i.zero, i.size, i.bytes)) = some (some (.bool false), 1, 1) := by kernel_rfl
/-- Ranges that the call owns. -/
def OwnR (w : World) (base : Nat) (ao : Option Addr) (n cap : Nat) (F T : Nat → Int) : Prop := ∃ xs : List Value, w.ownsRow base 63 2 (.slice ao n cap) n xs ∧ ∀ i, i < n → ∀ j, j < 2 → xs[i * 2 + j]? = some (RgC F T i j)
/-- Marks that the call owns. -/
def OwnB (w : World) (base g N : Nat) (S : Nat → Bool) : Prop := ∃ xs : List Value, w.ownsRow base 4 1 (.slice (some ⟨g, 0, none⟩) N N) N xs ∧ ∀ i, i < N → xs[i]? = some (.bool (S i))
theorem OwnB.cell {w : World} {base g N : Nat} {S : Nat → Bool} (h : OwnB w base g N S) {i : Nat} (hi : i < N) : w.cell? ⟨g, i, none⟩ = some (.bool (S i)) := by
  obtain ⟨xs, ho, hx⟩ := h
  rw [ho.cellAt _ (by omega)]
  exact hx i hi
theorem OwnB.frozen {w : World} {base g N : Nat} {S : Nat → Bool} (h : OwnB w base g N S) (o : Nat) : w.frozen? ⟨g, o, none⟩ = false := by
  obtain ⟨xs, ho, hx⟩ := h
  exact ho.frozenAt o
theorem OwnB.lt {w : World} {base g N : Nat} {S : Nat → Bool} (h : OwnB w base g N S) : base ≤ g ∧ g < w.heap.size := by
  obtain ⟨xs, ho, hx⟩ := h
  exact ho.lt g rfl
theorem OwnB.put {w : World} {base g N : Nat} {S : Nat → Bool} (h : OwnB w base g N S) {k : Nat} (x : Bool) (hk : k < N) : OwnB (w.setCell ⟨g, k, none⟩ (.bool x)) base g N (fun i => if i = k then x else S i) := by
  obtain ⟨xs, ho, hx⟩ := h
  refine ⟨_, (ho.stored k (.bool x)).1, fun i hi => ?_⟩
  have hlen : xs.length = N * 1 := ho.1
  rw [List.getElem?_set]
  by_cases e : i = k
  · subst e; rw [if_pos rfl, if_pos (by omega)]; simp
  · rw [if_neg (fun h => e h.symm), hx i hi]; simp [e]
theorem OwnB.vals {w : World} {base g N : Nat} {S S' : Nat → Bool} (h : OwnB w base g N S) (e : ∀ i, i < N → S i = S' i) : OwnB w base g N S' := by
  obtain ⟨xs, ho, hx⟩ := h
  exact ⟨xs, ho, fun i hi => (hx i hi).trans (by rw [e i hi])⟩
theorem OwnB.new {w w' : World} {N : Nat} (h : w'.ownsRow w.heap.size 4 1 (.slice (some ⟨w.heap.size, 0, none⟩) N N) N (madeCells (Value.bool false).cells (N * 1)).toList) : OwnB w' w.heap.size w.heap.size N (fun _ => false) :=
  ⟨_, h, fun i hi => by
    rw [Array.getElem?_toList]
    simp only [madeCells, Array.getElem?_map, Array.getElem?_range]
    rw [if_pos (by omega)]
    simp [Value.cells, Nat.mod_one]⟩
theorem OwnR.nil (w : World) (base : Nat) (F T : Nat → Int) : OwnR w base none 0 0 F T := ⟨[], ⟨rfl, .inl ⟨rfl, rfl⟩⟩, fun i hi => absurd hi (by omega)⟩
theorem OwnR.form {w : World} {base : Nat} {ao : Option Addr} {n cap : Nat} {F T : Nat → Int} (h : OwnR w base ao n cap F T) (hn : 0 < n) : ∃ g, ao = some ⟨g, 0, none⟩ ∧ base ≤ g ∧ g < w.heap.size := by
  obtain ⟨xs, ho, hx⟩ := h
  have hl := ho.lt
  rcases ho.2 with ⟨e, h0⟩ | ⟨g, cap', cur, e, _⟩
  · omega
  · cases e
    exact ⟨g, rfl, hl g rfl⟩
theorem OwnR.row {w : World} {base : Nat} {ao : Option Addr} {n cap : Nat} {F T : Nat → Int} (h : OwnR w base ao n cap F T) : RgAt w ao n F T := by
  intro i hi
  obtain ⟨g, rfl, _, hg⟩ := h.form (by omega)
  obtain ⟨xs, ho, hx⟩ := h
  refine ⟨g, 0, rfl, hg, fun j hj => ?_⟩
  rw [Nat.zero_add, ho.cellAt _ (by omega)]
  exact hx i hi j hj
theorem OwnR.grown {w w' : World} {base : Nat} {ao : Option Addr} {n cap : Nat} {F T : Nat → Int} (h : OwnR w base ao n cap F T) (hb : Below w.heap.size w w') : OwnR w' base ao n cap F T := by
  obtain ⟨xs, ho, hx⟩ := h
  refine ⟨xs, ⟨ho.1, ?_⟩, hx⟩
  have hl := ho.lt
  rcases ho.2 with e | ⟨g', cap', cur, e, r⟩
  · exact .inl e
  · cases e
    exact .inr ⟨g', _, cur, rfl, r.1, by rw [hb.block g' (hl g' rfl).2]; exact r.2.1, r.2.2⟩
/-- The last range's end is set anew. -/
theorem OwnR.last {w : World} {base g n cap : Nat} {F T : Nat → Int} (h : OwnR w base (some ⟨g, 0, none⟩) n cap F T) {k : Nat} (x : Int) (hk : k < n) : OwnR (w.setCell ⟨g, k * 2 + 1, none⟩ (.int .i64 x)) base (some ⟨g, 0, none⟩) n cap F (fun i => if i = k then x else T i) := by
  obtain ⟨xs, ho, hx⟩ := h
  refine ⟨_, (ho.stored (k * 2 + 1) (.int .i64 x)).1, fun i hi l hl => ?_⟩
  have hlen : xs.length = n * 2 := ho.1
  rw [List.getElem?_set]
  split
  · next e =>
    obtain rfl : i = k := by omega
    obtain rfl : l = 1 := by omega
    rw [if_pos (by omega)]
    simp [RgC]
  · next e =>
    rw [hx i hi l hl]
    unfold RgC
    by_cases h0 : l = 0
    · simp [h0]
    · have : i ≠ k := fun hh => e (by omega)
      simp [h0, this]
theorem OwnR.frozen {w : World} {base g n cap : Nat} {F T : Nat → Int} (h : OwnR w base (some ⟨g, 0, none⟩) n cap F T) (o : Nat) : w.frozen? ⟨g, o, none⟩ = false := by
  obtain ⟨xs, ho, hx⟩ := h
  exact ho.frozenAt o
/-- Two lists of ranges, one behind the other. -/
def catF (n : Nat) (F G : Nat → Int) (i : Nat) : Int := if i < n then F i else G (i - n)
theorem app_list {w : World} {ops : Array Oper} {rest : List Oper} {o : Oper} {a : Act} {Q : Exit → Act → World → Prop} (hw : Region.wanted o (yielded ops a.tmps) = true) (s x : Operand)
    (ho : o.op = .call { callee := .builtin .append, args := #[s, x], argTypes := #[23, 23] }) {base n cap : Nat} {ao : Option Addr} {F T : Nat → Int} (hs : a.eval s = .slice ao n cap) (hown : OwnR w base ao n cap F T)
    (ad : Addr) (m c : Nat) {G U : Nat → Int} (hx : a.eval x = .slice (some ad) m c) (hM : RgAt w (some ad) m G U) (hlen : n + m ≤ 1000000) (hbase : base ≤ w.heap.size)
    (h : ∀ ao' cap' w', OwnR w' base ao' (n + m) cap' (catF n F G) (catF n T U) → Below base w w' → wpList Try.prog ops Q rest (a.put o.dst (.slice ao' (n + m) cap')) w') : wpList Try.prog ops Q (o :: rest) a w := by
  refine wpList_step fun K hK => ?_
  rw [if_pos hw]
  obtain ⟨i0, hi, hz0, hz1, hz2⟩ := info_parts infoR
  obtain ⟨xs, ho', hxs⟩ := hown
  have hxl : xs.length = n * 2 := ho'.1
  obtain ⟨news, hnews⟩ : ∃ l, l = (List.range (m * 2)).map (fun j => RgC G U (j / 2) (j % 2)) := ⟨_, rfl⟩
  have hnl : news.length = m * 2 := by rw [hnews]; simp
  have hget : ∀ j u, news[j]? = some u → w.cell? (ad.add j) = some u := by
    intro j u hj
    have hlt : j < m * 2 := by have := (List.getElem?_eq_some_iff.1 hj).1; rwa [hnl] at this
    rw [hnews, List.getElem?_map, List.getElem?_range hlt] at hj
    obtain ⟨b, off, e, _, hc⟩ := hM (j / 2) (by omega)
    cases e
    have h1 := hc (j % 2) (by omega)
    simp only [Option.map_some] at hj
    rw [show off + j / 2 * 2 + j % 2 = off + j by omega, hj] at h1
    rw [← h1]
    congr 1
    unfold Addr.add
    split
    · next h0 => subst h0; rfl
    · rfl
  have h1 : ∀ u ∈ news, u.oneCell' = true := by
    intro u hu
    rw [hnews] at hu
    simp only [List.mem_map] at hu
    obtain ⟨j, _, rfl⟩ := hu
    unfold RgC
    split <;> rfl
  obtain ⟨v', w', hr, h2, h3, h4⟩ := run_append_own (P := Try.prog) w base 23 o.type 63 i0 _ 2 16 Try.underlying23 hi hz0 hz1 hz2 rfl (by decide) _ _ _ ho' ad m c news hnl hget h1 (by unfold maxLen; omega) (by omega) hbase
  obtain ⟨ao', cap', rfl⟩ : ∃ ao' cap', v' = .slice ao' (n + m) cap' := by
    rcases h2.2 with ⟨e, h0⟩ | ⟨g', cap', cur, e, _⟩
    · exact ⟨none, 0, by rw [e, h0]⟩
    · exact ⟨_, cap', e⟩
  have hb : Below base w w' := (Below.refl base w).grown h3 hbase (fun k hk => (ho'.lt k hk).1)
  have hown' : OwnR w' base ao' (n + m) cap' (catF n F G) (catF n T U) := by
    refine ⟨_, h2, fun i hi j hj => ?_⟩
    by_cases hin : i < n
    · rw [List.getElem?_append_left (by omega), hxs i hin j hj]
      simp only [RgC, catF, hin, if_true]
    · rw [List.getElem?_append_right (by omega), hxl, hnews, List.getElem?_map, List.getElem?_range (by omega)]
      simp only [Option.map_some, RgC, catF, hin, if_false]
      rw [show (i * 2 + j - n * 2) / 2 = i - n by omega, show (i * 2 + j - n * 2) % 2 = j by omega]
  unfold Oper.wp
  simp [execOp, ho, resolve, invoke, builtin, hs, hx, hr, Result.andThen]
  exact hK _ _ (h ao' cap' w' hown' hb)
end Go.Proofs.Ytkhjfcbloahjeaa
namespace Go.Proofs.Ytkhjfcbloahjeaa
open Go.RowKit Go.Sx
/-- These ranges are the stretches of the marks ahead of k. -/
structure StrOk (M : Nat → Bool) (k n : Nat) (F T : Nat → Int) : Prop where
  rg : rgB F T n = true
  lt : ∀ i, i < n → T i < (k : Int)
  ing : ∀ x : Nat, x < k → inG F T n (x : Int) = M x
  end_ : ∀ m, k = m + 1 → M m = true → 0 < n ∧ T (n - 1) = (m : Int)
  le : n ≤ k
theorem inG_iff {F T : Nat → Int} {n : Nat} {x : Int} : inG F T n x = true ↔ ∃ i, i < n ∧ F i ≤ x ∧ x ≤ T i := by
  unfold inG; rw [List.any_eq_true]; simp
theorem inG_congr {F T F' T' : Nat → Int} {n : Nat} {x : Int} (h : ∀ i, i < n → F i = F' i ∧ T i = T' i) : inG F T n x = inG F' T' n x := by
  rw [Bool.eq_iff_iff, inG_iff, inG_iff]
  constructor
  · rintro ⟨i, hi, h1⟩; exact ⟨i, hi, by rw [← (h i hi).1, ← (h i hi).2]; exact h1⟩
  · rintro ⟨i, hi, h1⟩; exact ⟨i, hi, by rw [(h i hi).1, (h i hi).2]; exact h1⟩
theorem rgB_of {F T : Nat → Int} {n : Nat} (h : ∀ i, i < n → 0 ≤ F i ∧ F i ≤ T i ∧ T i ≤ 65535 ∧ (i ≠ 0 → T (i - 1) + 2 ≤ F i)) : rgB F T n = true := by
  unfold rgB
  rw [List.all_eq_true]
  intro i hi
  have := h i (by simpa using hi)
  simp only [Bool.and_eq_true, Bool.or_eq_true, wholeB, decide_eq_true_eq]
  refine ⟨⟨this.1, this.2.1, this.2.2.1⟩, ?_⟩
  by_cases h0 : i = 0
  · exact .inl h0
  · exact .inr (this.2.2.2 h0)
theorem StrOk.zero (M : Nat → Bool) (F T : Nat → Int) : StrOk M 0 0 F T := ⟨rfl, fun i hi => absurd hi (by omega), fun x hx => absurd hx (by omega), fun m hm => absurd hm (by omega), Nat.le_refl _⟩
theorem StrOk.skip {M : Nat → Bool} {k n : Nat} {F T : Nat → Int} (h : StrOk M k n F T) (hk : M k = false) : StrOk M (k + 1) n F T := by
  refine ⟨h.rg, fun i hi => by have := h.lt i hi; omega, fun x hx => ?_, fun m hm hM => ?_, by have := h.le; omega⟩
  · by_cases hxk : x < k
    · exact h.ing x hxk
    · obtain rfl : x = k := by omega
      rw [hk, Bool.eq_false_iff]
      intro hh
      obtain ⟨i, hi, _, h2⟩ := inG_iff.1 hh
      have := h.lt i hi
      omega
  · obtain rfl : k = m := by omega
    rw [hk] at hM; cases hM
theorem StrOk.more {M : Nat → Bool} {m n : Nat} {F T : Nat → Int} (h : StrOk M (m + 1) (n + 1) F T) (hm : M m = true) (hk : M (m + 1) = true) (hb : m + 1 ≤ 65535) : StrOk M (m + 1 + 1) (n + 1) F (fun i => if i = n then ((m + 1 : Nat) : Int) else T i) := by
  have hg := rgB_get h.rg
  have hT : T n = (m : Int) := by have := (h.end_ m rfl hm).2; rwa [Nat.add_sub_cancel] at this
  have hn := hg n (by omega)
  refine ⟨rgB_of fun i hi => ?_, fun i hi => ?_, fun x hx => ?_, fun m' hm' hM => ?_, by have := h.le; omega⟩
  · have h1 := hg i hi
    refine ⟨h1.1, ?_, ?_, fun h0 => ?_⟩
    · (try dsimp only); split
      · next e => subst e; omega
      · exact h1.2.1
    · (try dsimp only); split
      · omega
      · exact h1.2.2.1
    · (try dsimp only); rw [if_neg (by omega)]; exact h1.2.2.2 h0
  · (try dsimp only); split
    · omega
    · have := h.lt i hi; omega
  · by_cases hxk : x < m + 1
    · rw [← h.ing x hxk, Bool.eq_iff_iff, inG_iff, inG_iff]
      constructor
      · rintro ⟨i, hi, h1, h2⟩
        refine ⟨i, hi, h1, ?_⟩
        (try dsimp only at h2); split at h2
        · next e => subst e; omega
        · exact h2
      · rintro ⟨i, hi, h1, h2⟩
        refine ⟨i, hi, h1, ?_⟩
        (try dsimp only); split
        · omega
        · exact h2
    · obtain rfl : x = m + 1 := by omega
      rw [hk, inG_iff]
      refine ⟨n, by omega, ?_, ?_⟩
      · omega
      · (try dsimp only); rw [if_pos rfl]; exact Int.le_refl _
  · refine ⟨by omega, ?_⟩
    rw [Nat.add_sub_cancel, if_pos rfl]; omega
theorem StrOk.fresh {M : Nat → Bool} {k n : Nat} {F T : Nat → Int} (h : StrOk M k n F T) (hk : M k = true) (hp : ∀ m, k = m + 1 → M m = false) (hb : k ≤ 65535) (G : Nat → Int) (hG : G 0 = (k : Int)) : StrOk M (k + 1) (n + 1) (catF n F G) (catF n T G) := by
  have hg := rgB_get h.rg
  have hlast : ∀ i, i < n → T i + 2 ≤ (k : Int) := by
    intro i hi
    have h1 := h.lt i hi
    have h2 := hg i hi
    by_cases e : T i = (k : Int) - 1
    · obtain ⟨m, rfl⟩ : ∃ m, k = m + 1 := ⟨k - 1, by omega⟩
      have := h.ing m (by omega)
      rw [hp m rfl, Bool.eq_false_iff] at this
      exact absurd (inG_iff.2 ⟨i, hi, by omega, by omega⟩) this
    · omega
  have cn : ∀ f : Nat → Int, catF n f G n = (k : Int) := fun f => by simp [catF, hG]
  have cl : ∀ (f : Nat → Int) i, i < n → catF n f G i = f i := fun f i hi => by simp [catF, hi]
  refine ⟨rgB_of fun i hi => ?_, fun i hi => ?_, fun x hx => ?_, fun m' hm' hM => ?_, by have := h.le; omega⟩
  · by_cases hin : i < n
    · rw [cl F i hin, cl T i hin]
      have h1 := hg i hin
      refine ⟨h1.1, h1.2.1, h1.2.2.1, fun h0 => ?_⟩
      rw [cl T (i - 1) (by omega)]; exact h1.2.2.2 h0
    · obtain rfl : i = n := by omega
      rw [cn F, cn T]
      refine ⟨by omega, Int.le_refl _, by omega, fun h0 => ?_⟩
      rw [cl T (i - 1) (by omega)]; exact hlast (i - 1) (by omega)
  · by_cases hin : i < n
    · rw [cl T i hin]; have := h.lt i hin; omega
    · obtain rfl : i = n := by omega
      rw [cn T]; omega
  · by_cases hxk : x < k
    · rw [← h.ing x hxk, Bool.eq_iff_iff, inG_iff, inG_iff]
      constructor
      · rintro ⟨i, hi, h1, h2⟩
        by_cases hin : i < n
        · rw [cl F i hin] at h1; rw [cl T i hin] at h2; exact ⟨i, hin, h1, h2⟩
        · obtain rfl : i = n := by omega
          rw [cn F] at h1; omega
      · rintro ⟨i, hi, h1, h2⟩
        exact ⟨i, by omega, by rw [cl F i hi]; exact h1, by rw [cl T i hi]; exact h2⟩
    · obtain rfl : x = k := by omega
      rw [hk, inG_iff]
      exact ⟨n, by omega, by rw [cn F]; exact Int.le_refl _, by rw [cn T]; exact Int.le_refl _⟩
  · refine ⟨by omega, ?_⟩
    rw [Nat.add_sub_cancel, cn T]; omega
theorem row_one (w : World) (k : Int) : RgAt (w.alloc (.cells #[.int .i64 k, .int .i64 k] 63)) (some ⟨w.heap.size, 0, none⟩) 1 (fun _ => k) (fun _ => k) := by
  intro i hi
  obtain rfl : i = 0 := by omega
  refine ⟨w.heap.size, 0, rfl, by simp, fun j hj => ?_⟩
  match j, hj with
  | 0, _ => simp [go_sem, RgC]
  | 1, _ => simp [go_sem, RgC]
set_option maxHeartbeats 1600000 in
theorem stretches_any (g N : Nat) (M : Nat → Bool) (w : World) (hN : N ≤ 65536) (hg : g < w.heap.size) (hM : ∀ i, i < N → w.cell? ⟨g, i, none⟩ = some (.bool (M i))) :
    Calls Try.prog 43 #[.slice (some ⟨g, 0, none⟩) N N] w fun e w' => ∃ ao n cap F T, e = .returned (.slice ao n cap) ∧ OwnR w' w.heap.size ao n cap F T ∧ StrOk M N n F T ∧ Below w.heap.size w w' := by
  have HM := hidI hM; clear hM
  go_enter Try.func43, Try.ntmps43
  go_wp2_with fail
  go_loopw [3, 4] (fun o i wr => ∃ (k n cap : Nat) (ao : Option Addr) (F T : Nat → Int), k ≤ N ∧ o = .slice ao n cap ∧ i = .int .i64 k ∧ OwnR wr w.heap.size ao n cap F T ∧ StrOk M k n F T ∧ Below w.heap.size w wr) (fun _ i _ => N - (intOf i).toNat)
  case atStart => exact ⟨0, 0, 0, none, fun _ => 0, fun _ => 0, Nat.zero_le _, rfl, rfl, OwnR.nil _ _ _ _, StrOk.zero _ _ _, Below.refl _ _⟩
  case round =>
    obtain ⟨k, n, cap, ao, F, T, hk, rfl, rfl, hO, hS, hbl⟩ := hrel
    have hle := hS.le
    by_cases hlt : k < N
    · have ck : wr.cell? ⟨g, k, none⟩ = some (.bool (M k)) := (hbl.cell (p := ⟨g, k, none⟩) hg).trans (HM.out k hlt)
      obtain ⟨mk, hmk⟩ : ∃ mk, mk = M k := ⟨_, rfl⟩
      rw [← hmk] at ck
      have HK := hidI hmk; clear hmk
      cases mk
      · go_wp2_with fail
        exact ⟨⟨k + 1, n, cap, ao, F, T, by omega, rfl, by simp, hO, hS.skip HK.out.symm, hbl⟩, by simp [intOf]; omega⟩
      · by_cases hk0 : k = 0
        · subst hk0
          have hb1 : Below w.heap.size w (wr.alloc (.cells #[.int .i64 (0), .int .i64 (0)] 63)) := hbl.alloc hbl.size _
          have hO1 : OwnR (wr.alloc (.cells #[.int .i64 (0), .int .i64 (0)] 63)) w.heap.size ao n cap F T := hO.grown ((Below.refl _ _).alloc (Nat.le_refl _) _)
          go_wp2_with (at_builtin; (refine app_list (by rfl) (.tmp 32) (.tmp 36) rfl rfl hO1 ⟨wr.heap.size, 0, none⟩ 1 1 rfl (row_one wr (0)) (by omega) hb1.size ?_); intro ao' cap' w2 hO2 hb2)
          exact ⟨⟨0 + 1, n + 1, cap', ao', _, _, by omega, rfl, by simp, hO2, hS.fresh HK.out.symm (fun m hm => by omega) (by omega) _ (by simp), hb1.trans hb2⟩, by simp [intOf]; omega⟩
        · obtain ⟨m, rfl⟩ : ∃ m, k = m + 1 := ⟨k - 1, by omega⟩
          have cm : wr.cell? ⟨g, m, none⟩ = some (.bool (M m)) := (hbl.cell (p := ⟨g, m, none⟩) hg).trans (HM.out m (by omega))
          obtain ⟨mm, hmm⟩ : ∃ mm, mm = M m := ⟨_, rfl⟩
          rw [← hmm] at cm
          have HKm := hidI hmm; clear hmm
          cases mm
          · have hb1 : Below w.heap.size w (wr.alloc (.cells #[.int .i64 ((m : Int) + 1), .int .i64 ((m : Int) + 1)] 63)) := hbl.alloc hbl.size _
            have hO1 : OwnR (wr.alloc (.cells #[.int .i64 ((m : Int) + 1), .int .i64 ((m : Int) + 1)] 63)) w.heap.size ao n cap F T := hO.grown ((Below.refl _ _).alloc (Nat.le_refl _) _)
            go_wp2_with (at_builtin; (refine app_list (by rfl) (.tmp 32) (.tmp 36) rfl rfl hO1 ⟨wr.heap.size, 0, none⟩ 1 1 rfl (row_one wr ((m : Int) + 1)) (by omega) hb1.size ?_); intro ao' cap' w2 hO2 hb2)
            exact ⟨⟨m + 1 + 1, n + 1, cap', ao', _, _, by omega, rfl, by simp, hO2, hS.fresh HK.out.symm (fun m' hm => by rw [show m' = m by omega]; exact HKm.out.symm) (by omega) _ (by simp), hb1.trans hb2⟩, by simp [intOf]; omega⟩
          · obtain ⟨hn0, hTn⟩ := hS.end_ m rfl HKm.out.symm
            obtain ⟨q, rfl⟩ : ∃ q, n = q + 1 := ⟨n - 1, by omega⟩
            obtain ⟨g3, rfl, hg3, hg3'⟩ := hO.form (by omega)
            have hq : (q : Int) ≤ 65536 := by omega
            have f3 := hO.frozen (q * 2 + 1)
            have c3 : wr.cell? ⟨g3, q * 2 + 1, none⟩ = some (.int .i64 (T q)) := by
              obtain ⟨b, off, e, _, hc⟩ := hO.row q (by omega)
              cases e
              have := hc 1 (by omega)
              rw [Nat.zero_add] at this
              exact this
            clear hTn
            go_wp2_with fail
            exact ⟨⟨m + 1 + 1, q + 1, cap, some ⟨g3, 0, none⟩, F, _, by omega, rfl, by simp, hO.last _ (by omega), hS.more HKm.out.symm HK.out.symm (by omega), hbl.setCell (p := ⟨g3, q * 2 + 1, none⟩) hg3 _⟩, by simp [intOf]; omega⟩
    · obtain rfl : k = N := by omega
      go_wp2
      go_ret
      exact ⟨ao, n, cap, F, T, rfl, hO, hS, hbl⟩
end Go.Proofs.Ytkhjfcbloahjeaa
namespace Go.Proofs.Ytkhjfcbloahjeaa
open Go.RowKit Go.Sx
theorem StrOk.congr {M M' : Nat → Bool} {k n : Nat} {F T : Nat → Int} (h : StrOk M k n F T) (e : ∀ i, i < k → M i = M' i) : StrOk M' k n F T :=
  ⟨h.rg, h.lt, fun x hx => (h.ing x hx).trans (e x hx), fun m hm hM => h.end_ m hm ((e m (by omega)).trans hM), h.le⟩
theorem inG_far {F T : Nat → Int} {n : Nat} {x : Int} (h : ∀ i, i < n → T i < x) : inG F T n x = false := by
  rw [Bool.eq_false_iff]
  intro hh
  obtain ⟨i, hi, _, h2⟩ := inG_iff.1 hh
  have := h i hi
  omega
theorem OwnR.mono {w : World} {base base' : Nat} {ao : Option Addr} {n cap : Nat} {F T : Nat → Int} (h : OwnR w base ao n cap F T) (hb : base' ≤ base) : OwnR w base' ao n cap F T := by
  obtain ⟨xs, ho, hx⟩ := h
  refine ⟨xs, ⟨ho.1, ?_⟩, hx⟩
  rcases ho.2 with e | ⟨g', cap', cur, e, r, r2⟩
  · exact .inl e
  · exact .inr ⟨g', cap', cur, e, Nat.le_trans hb r, r2⟩
set_option maxHeartbeats 3200000 in
theorem tidy_any (ao : Option Addr) (n c : Nat) (F T : Nat → Int) (w : World) (hl : n ≤ 1000000) (h : RgAt w ao n F T) (hw : ∀ i, i < n → 0 ≤ F i ∧ F i ≤ T i ∧ T i ≤ 65535) :
    Calls Try.prog 34 #[.slice ao n c] w fun e w' => ∃ ao' n' cap' F' T', e = .returned (.slice ao' n' cap') ∧ OwnR w' w.heap.size ao' n' cap' F' T' ∧ rgB F' T' n' = true ∧ n' ≤ 65536 ∧ (∀ x : Nat, inG F' T' n' (x : Int) = inG F T n (x : Int)) ∧ Below w.heap.size w w' := by
  obtain ⟨i0, hi, hz0, hz1, hz2⟩ := info_parts infoM
  have HW := hidI hw; clear hw
  go_enter Try.func34, Try.ntmps34
  go_wp2_with fail
  go_loop [3, 4] (fun m i => ∃ k tp : Nat, k ≤ n ∧ m = .int .i64 tp ∧ i = .int .i64 k ∧ tp ≤ 65536 ∧ ∀ j, j < k → T j + 1 ≤ (tp : Int)) (fun _ i => n - (intOf i).toNat)
  case atStart => exact ⟨0, 0, Nat.zero_le _, rfl, rfl, Nat.zero_le _, fun j hj => absurd hj (by omega)⟩
  case round =>
    obtain ⟨k, tp, hk, rfl, rfl, htp, hT⟩ := hrel
    by_cases hlt : k < n
    · obtain ⟨b, off, rfl, hb, hc⟩ := h.get (by omega)
      have hk1 := HW.out k hlt
      obtain ⟨tk, htk⟩ : ∃ tk : Nat, T k = (tk : Int) := ⟨(T k).toNat, by omega⟩
      have c1 := (hc k hlt).2
      rw [htk] at c1 hk1
      have HT := hidI hT; clear hT hc h
      go_wp2_with fail
      refine ⟨⟨k + 1, max tp (tk + 1), by omega, ?_, by simp, by omega, fun j hj => ?_⟩, by simp [intOf]; omega⟩
      · congr 1
        split <;> omega
      · by_cases hjk : j < k
        · have := HT.out j hjk; omega
        · obtain rfl : j = k := by omega
          omega
    · obtain rfl : n = k := by omega
      have HT := hidI hT; clear hT
      go_wp2_with (at_make; go_loud (refine wpList_make_full _ rfl _ _ 71 rfl w.heap.size 4 i0 (.bool false) 1 Try.underlying71 hi hz0 hz1 .i64 .i64 tp tp tp rfl rfl rfl rfl (by rw [hz2]; omega) (by unfold maxLen; omega) (Nat.le_refl _) ?_); intro w1 hown hgrow)
      have hz := OwnB.new hown
      have hb1 : Below w.heap.size w w1 := (Below.refl _ _).grown hgrow (Nat.le_refl _) (fun k hk => by cases hk)
      clear hown hgrow
      go_loopw [6] (fun i wr => ∃ k : Nat, k ≤ n ∧ i = .int .i64 k ∧ OwnB wr w.heap.size w.heap.size tp (fun x => inG F T k (x : Int)) ∧ Below w.heap.size w wr) (fun i _ => n - (intOf i).toNat)
      case atStart => exact ⟨0, Nat.zero_le _, rfl, hz.vals (fun x _ => rfl), hb1⟩
      case round =>
        obtain ⟨k, hk, rfl, hO, hbl⟩ := hrel
        by_cases hlt : k < n
        · obtain ⟨b, off, rfl, hb, hc⟩ := h.get (by omega)
          have hk1 := HW.out k hlt
          have hk2 := HT.out k hlt
          obtain ⟨tk, htk⟩ : ∃ tk : Nat, T k = (tk : Int) := ⟨(T k).toNat, by omega⟩
          obtain ⟨fk, hfk⟩ : ∃ fk : Nat, F k = (fk : Int) := ⟨(F k).toNat, by omega⟩
          have c0 := (hc k hlt).1
          have c1 := (hc k hlt).2
          rw [hfk] at c0
          rw [htk] at c1
          have d0 : wr.cell? ⟨b, off + k * 2, none⟩ = some _ := (hbl.cell (p := ⟨b, off + k * 2, none⟩) hb).trans c0
          have hk3 : fk ≤ tk ∧ tk < tp := by omega
          have HF := hidI hfk
          have HTK := hidI htk
          clear hk1 hk2 hfk htk hc h c0
          go_wp2_with fail
          go_loopw [7] (fun i wr => ∃ j : Nat, fk ≤ j ∧ j ≤ tk + 1 ∧ i = .int .i64 j ∧ OwnB wr w.heap.size w.heap.size tp (fun x => inG F T k (x : Int) || decide (fk ≤ x ∧ x < j)) ∧ Below w.heap.size w wr) (fun i _ => tk + 1 - (intOf i).toNat)
          case atStart => exact ⟨fk, Nat.le_refl _, by omega, rfl, hO.vals (fun x _ => by simp; omega), hbl⟩
          case round =>
            obtain ⟨j, hj1, hj2, rfl, hO2, hbl2⟩ := hrel
            have d1 : wr.cell? ⟨b, off + k * 2 + 1, none⟩ = some _ := (hbl2.cell (p := ⟨b, off + k * 2 + 1, none⟩) hb).trans c1
            by_cases hjt : j < tk + 1
            · have e0 : wr.cell? ⟨w.heap.size, j, none⟩ = some _ := hO2.cell (by omega)
              have e1 := hO2.frozen j
              go_wp2_with fail
              refine ⟨⟨j + 1, by omega, by omega, by simp, (hO2.put true (by omega)).vals (fun x hx => ?_), hbl2.setCell (p := ⟨w.heap.size, j, none⟩) (Nat.le_refl _) _⟩, by simp [intOf]; omega⟩
              by_cases e : x = j
              · subst e; simp [hj1]
              · rw [if_neg e]; congr 1; rw [decide_eq_decide]; omega
            · obtain rfl : j = tk + 1 := by omega
              go_wp2_with fail
              refine ⟨⟨k + 1, by omega, by simp, hO2.vals (fun x hx => ?_), hbl2⟩, by simp [intOf]; omega⟩
              rw [inG_succ, HF.out, HTK.out]; congr 1; rw [decide_eq_decide]; omega
        · obtain rfl : n = k := by omega
          go_wp2_with fail
          refine (stretches_any w.heap.size tp _ _ htp hO.lt.2 (fun i hi => hO.cell hi)).mono ?_
          rintro e w2 ⟨ao', n', cap', F', T', rfl, hR, hS, hb2⟩
          go_wp2
          go_ret
          refine ⟨ao', n', cap', F', T', rfl, ?_, hS.rg, by have := hS.le; omega, fun x => ?_, hbl.trans (hb2.mono hbl.size)⟩
          · exact hR.mono hbl.size
          · by_cases hx : x < tp
            · exact hS.ing x hx
            · rw [inG_far (fun i hi => by have := hS.lt i hi; omega), inG_far (fun i hi => by have := HT.out i hi; omega)]
end Go.Proofs.Ytkhjfcbloahjeaa
namespace Go.RowKit
open Go
/-- What an operation waits for. -/
def depsOf (ops : Array Oper) (i : Nat) : List Nat := match ops[i]? with
  | some o => (o.after.toList.filter (Region.binds .any)).map (·.on)
  | none => []
theorem ready_mem {ops : Array Oper} {listed : Array Bool} {i : Nat} (h : i ∈ Region.ready .any ops listed) : i < ops.size ∧ listed.getD i true = false ∧ (depsOf ops i).all (fun j => listed.getD j false) = true := by
  unfold Region.ready at h
  rw [List.mem_filter, List.mem_range, Bool.and_eq_true] at h
  obtain ⟨h1, h2, h3⟩ := h
  refine ⟨h1, by simpa using h2, ?_⟩
  unfold depsOf
  rw [Array.getElem?_eq_getElem h1] at h3 ⊢
  simp only [Option.map_some, Option.getD_some] at h3
  rw [List.all_eq_true]
  intro j hj
  simp only [List.mem_map, List.mem_filter] at hj
  obtain ⟨e, ⟨he, hb⟩, rfl⟩ := hj
  have := (Array.all_eq_true.1 h3)
  obtain ⟨k, hk, rfl⟩ := Array.getElem_of_mem (Array.mem_toList_iff.1 he)
  have := this k hk
  simpa [hb] using this
theorem mem_ready {ops : Array Oper} {listed : Array Bool} {i : Nat} (h1 : i < ops.size) (h2 : listed.getD i true = false) (h3 : (depsOf ops i).all (fun j => listed.getD j false) = true) : i ∈ Region.ready .any ops listed := by
  unfold Region.ready
  rw [List.mem_filter, List.mem_range, Bool.and_eq_true]
  refine ⟨h1, by simpa using h2, ?_⟩
  unfold depsOf at h3
  rw [Array.getElem?_eq_getElem h1] at h3 ⊢
  simp only [Option.map_some, Option.getD_some]
  rw [Array.all_eq_true]
  intro k hk
  by_cases hb : Region.binds .any ops[i].after[k] = true
  · have := List.all_eq_true.1 h3 (ops[i].after[k].on) (List.mem_map.2 ⟨_, List.mem_filter.2 ⟨Array.getElem_mem_toList hk, hb⟩, rfl⟩)
    simpa [hb] using this
  · simp [hb]
/-- A drawn region whose operations may come in many orders: what holds is told by which of them are done. -/
theorem wpAny_inv {P : Program} {ops : Array Oper} {Q : Exit → Act → World → Prop} (I : (Nat → Bool) → Act → World → Prop)
    (hup : ((List.range ops.size).all fun i => (depsOf ops i).all fun j => decide (j < i)) = true)
    (hop : ∀ L a w, I L a w → ∀ i o, ops[i]? = some o → L i = false → (depsOf ops i).all L = true → ∀ K' : Act → World → Prop, Shut (∀ a w, I (fun j => if j = i then true else L j) a w → K' a w) → if Region.wanted o (yielded ops a.tmps) = true then Oper.wp P o a w K' Q else K' (a.put o.dst undef) w)
    (hend : ∀ L a w, (List.range ops.size).all L = true → I L a w → Q .normal a w) :
    ∀ (fuel : Nat) (listed : Array Bool) (a : Act) (w : World), listed.size = ops.size → listed.toList.count false ≤ fuel → I (fun j => listed.getD j false) a w → wpAny P .any ops Q fuel listed a w := by
  have hdone : ∀ (listed : Array Bool), listed.size = ops.size → Region.ready .any ops listed = [] → (List.range ops.size).all (fun j => listed.getD j false) = true := by
    intro listed hs hr
    rw [List.all_eq_true]
    intro i
    induction i using Nat.strongRecOn with
    | _ i ih =>
      intro hi
      have hi' : i < ops.size := by simpa using hi
      cases hf : listed.getD i false with
      | true => rfl
      | false =>
      exfalso
      have : i ∈ Region.ready .any ops listed := mem_ready hi' (by
          have hl : i < listed.size := by omega
          simp only [Array.getD, hl, dif_pos] at hf ⊢; exact hf) (by
        rw [List.all_eq_true]
        intro j hj
        have h1 := List.all_eq_true.1 (List.all_eq_true.1 hup i (by simpa using hi')) j hj
        have h2 : j < i := by simpa using h1
        exact ih j h2 (by simp; omega))
      rw [hr] at this
      cases this
  intro fuel
  induction fuel with
  | zero =>
    intro listed a w hs hc hI
    have hr : Region.ready .any ops listed = [] := by
      rw [List.eq_nil_iff_forall_not_mem]
      intro i hi
      obtain ⟨h1, h2, _⟩ := ready_mem hi
      have hl : i < listed.size := by omega
      simp only [Array.getD, hl, dif_pos] at h2
      have : false ∈ listed.toList := by rw [← h2]; exact Array.getElem_mem_toList hl
      have := List.count_pos_iff.2 this
      omega
    exact ⟨hr, hend _ a w (hdone listed hs hr) hI⟩
  | succ fuel ih =>
    intro listed a w hs hc hI
    refine ⟨fun hr => hend _ a w (hdone listed hs hr) hI, fun i hi => ?_⟩
    obtain ⟨h1, h2, h3⟩ := ready_mem hi
    have hl : i < listed.size := by omega
    simp only [Array.getD, hl, dif_pos] at h2
    refine wpOp_step (Array.getElem?_eq_getElem h1) fun K hK => ?_
    refine hop _ a w hI i _ (Array.getElem?_eq_getElem h1) (by simp only [Array.getD, hl, dif_pos]; exact h2) h3 K fun a' w' hI' => hK a' w' (ih _ a' w' (by simpa using hs) ?_ ?_)
    · rw [Array.toList_setIfInBounds]
      have hc' := hc
      have e : listed.toList.count false = (listed.toList.set i true).count false + 1 := by
        rw [List.count_set (by simpa using hl)]
        have : false ∈ listed.toList := by rw [← h2]; exact Array.getElem_mem_toList hl
        have := List.count_pos_iff.2 this
        rw [if_pos (by have e2 : listed[i] = false := h2; simp [e2]), if_neg (by simp)]
        omega
      omega
    · have : (fun j => (listed.setIfInBounds i true).getD j false) = fun j => if j = i then true else listed.getD j false := by
        funext j
        simp only [Array.getD_eq_getD_getElem?, Array.getElem?_setIfInBounds]
        by_cases e : j = i
        · subst e; simp [hl]
        · rw [if_neg (fun h => e h.symm), if_neg e]
      rw [this]; exact hI'
theorem wp_region_inv {P : Program} {ops : Array Oper} {Q : Exit → Act → World → Prop} {id : Nat} {a : Act} {w : World} (I : (Nat → Bool) → Act → World → Prop) (hm : P.follows .mixedOrders = true)
    (hup : ((List.range ops.size).all fun i => (depsOf ops i).all fun j => decide (j < i)) = true)
    (h0 : I (fun _ => false) a w.drew)
    (hop : ∀ L a w, I L a w → ∀ i o, ops[i]? = some o → L i = false → (depsOf ops i).all L = true → ∀ K' : Act → World → Prop, Shut (∀ a w, I (fun j => if j = i then true else L j) a w → K' a w) → if Region.wanted o (yielded ops a.tmps) = true then Oper.wp P o a w K' Q else K' (a.put o.dst undef) w)
    (hend : ∀ L a w, (List.range ops.size).all L = true → I L a w → Q .normal a w) : (Code.region id ops true).wp P Q a w := by
  refine wp_region_any hm (wpAny_inv I hup hop hend _ _ _ _ (by simp) (by simp) ?_)
  have : (fun j => (Array.replicate ops.size false).getD j false) = fun _ => false := by
    funext j
    simp only [Array.getD_eq_getD_getElem?, Array.getElem?_replicate]
    split <;> rfl
  rw [this]
  exact h0
end Go.RowKit
namespace Go.Proofs.Ytkhjfcbloahjeaa
open Go.RowKit Go.Sx
def newsL (m : Nat) (G U : Nat → Int) : List Value := (List.range (m * 2)).map (fun j => RgC G U (j / 2) (j % 2))
theorem newsL_len (m : Nat) (G U : Nat → Int) : (newsL m G U).length = m * 2 := by simp [newsL]
theorem newsL_get {w : World} {ad : Addr} {m : Nat} {G U : Nat → Int} (hM : RgAt w (some ad) m G U) : ∀ j u, (newsL m G U)[j]? = some u → w.cell? (ad.add j) = some u := by
  intro j u hj
  have hlt : j < m * 2 := by have := (List.getElem?_eq_some_iff.1 hj).1; rwa [newsL_len] at this
  unfold newsL at hj
  rw [List.getElem?_map, List.getElem?_range hlt] at hj
  obtain ⟨b, off, e, _, hc⟩ := hM (j / 2) (by omega)
  cases e
  have h1 := hc (j % 2) (by omega)
  simp only [Option.map_some] at hj
  rw [show off + j / 2 * 2 + j % 2 = off + j by omega, hj] at h1
  rw [← h1]
  congr 1
  unfold Addr.add
  split
  · next h0 => subst h0; rfl
  · rfl
theorem newsL_one (m : Nat) (G U : Nat → Int) : ∀ u ∈ newsL m G U, u.oneCell' = true := by
  intro u hu
  simp only [newsL, List.mem_map] at hu
  obtain ⟨j, _, rfl⟩ := hu
  unfold RgC
  split <;> rfl
theorem newsL_cat {n m : Nat} {F T G U : Nat → Int} {xs : List Value} (hxl : xs.length = n * 2) (hxs : ∀ i, i < n → ∀ j, j < 2 → xs[i * 2 + j]? = some (RgC F T i j)) : ∀ i, i < n + m → ∀ j, j < 2 → (xs ++ newsL m G U)[i * 2 + j]? = some (RgC (catF n F G) (catF n T U) i j) := by
  intro i hi j hj
  by_cases hin : i < n
  · rw [List.getElem?_append_left (by omega), hxs i hin j hj]
    simp only [RgC, catF, hin, if_true]
  · rw [List.getElem?_append_right (by omega), hxl, newsL, List.getElem?_map, List.getElem?_range (by omega)]
    simp only [Option.map_some, RgC, catF, hin, if_false]
    rw [show (i * 2 + j - n * 2) / 2 = i - n by omega, show (i * 2 + j - n * 2) % 2 = j by omega]
/-- What an append onto ranges that the call owns brings. -/
theorem app_run {w : World} {base n cap : Nat} {ao : Option Addr} {F T : Nat → Int} (ty : TypeId) (hown : OwnR w base ao n cap F T) (ad : Addr) (m c : Nat) {G U : Nat → Int} (hM : RgAt w (some ad) m G U) (hlen : n + m ≤ 1000000) (hbase : base ≤ w.heap.size) :
    ∃ ao' cap' w', (Builtin.append_ #[23, 23] ty #[.slice ao n cap, .slice (some ad) m c]).run Try.prog w = .ok (.slice ao' (n + m) cap') w' ∧ OwnR w' base ao' (n + m) cap' (catF n F G) (catF n T U) ∧ w.grownBy w' (Value.slice ao n cap).ownBlock := by
  obtain ⟨i0, hi, hz0, hz1, hz2⟩ := info_parts infoR
  obtain ⟨xs, ho', hxs⟩ := hown
  have hxl : xs.length = n * 2 := ho'.1
  obtain ⟨v', w', hr, h2, h3, h4⟩ := run_append_own (P := Try.prog) w base 23 ty 63 i0 _ 2 16 Try.underlying23 hi hz0 hz1 hz2 rfl (by decide) _ _ _ ho' ad m c (newsL m G U) (newsL_len m G U) (newsL_get hM) (newsL_one m G U) (by unfold maxLen; omega) (by omega) hbase
  obtain ⟨ao', cap', rfl⟩ : ∃ ao' cap', v' = .slice ao' (n + m) cap' := by
    rcases h2.2 with ⟨e, h0⟩ | ⟨g', cap', cur, e, _⟩
    · exact ⟨none, 0, by rw [e, h0]⟩
    · exact ⟨_, cap', e⟩
  exact ⟨ao', cap', w', hr, ⟨_, h2, newsL_cat hxl hxs⟩, h3⟩
/-- An append onto a slice that has no room is one onto nil. -/
theorem app_empty_eq {w : World} (ty : TypeId) (a0 ad : Addr) (m c : Nat) {G U : Nat → Int} (hM : RgAt w (some ad) m G U) (hm : 0 < m) (hlen : m ≤ 1000000) :
    (Builtin.append_ #[23, 23] ty #[.slice (some a0) 0 0, .slice (some ad) m c]).run Try.prog w = (Builtin.append_ #[23, 23] ty #[.slice none 0 0, .slice (some ad) m c]).run Try.prog w := by
  obtain ⟨i0, hi, hz0, hz1, hz2⟩ := info_parts infoR
  have h1 := run_append_grow (P := Try.prog) w 23 ty 63 i0 _ Try.underlying23 hi hz0 a0 0 0 [] (by simp) (by simp) ad m c (newsL m G U) (by rw [hz1]; exact newsL_len m G U) (newsL_get hM) (by omega) (by omega) (growslice_fits (by omega) (by rw [hz2]; omega))
  have h2 := run_append_nil (P := Try.prog) w 23 ty 63 i0 _ Try.underlying23 hi hz0 ad m c (newsL m G U) (by rw [hz1]; exact newsL_len m G U) (newsL_get hM) hm (by omega) (by rw [hz2]; omega)
  rw [h1, h2]
  simp
theorem app_nocap {w : World} (ty : TypeId) (ao : Option Addr) (n cap c : Nat) (h : n ≤ cap) : (Builtin.append_ #[23, 23] ty #[.slice ao n cap, .slice none 0 c]).run Try.prog w = .ok (.slice ao n cap) w := by
  obtain ⟨i0, hi, hz0, hz1, hz2⟩ := info_parts infoR
  cases ao <;> simp [Builtin.append_, run_underlying Try.underlying23, sizeOf, typeInfo, hi, Builtin.lenOf, Builtin.firstCells, storeCells, h]
theorem app_zero {w : World} (ty : TypeId) (a0 ad : Addr) (c : Nat) : (Builtin.append_ #[23, 23] ty #[.slice (some a0) 0 0, .slice (some ad) 0 c]).run Try.prog w = .ok (.slice (some a0) 0 0) w := by
  obtain ⟨i0, hi, hz0, hz1, hz2⟩ := info_parts infoR
  simp [Builtin.append_, run_underlying Try.underlying23, sizeOf, typeInfo, hi, Builtin.lenOf, Builtin.firstCells, storeCells, loadCells, loadCellsFrom]
/-- Ranges that the call owns, or an empty slice without room. -/
def OwnE (w : World) (base : Nat) (ao : Option Addr) (n cap : Nat) (F T : Nat → Int) : Prop := (n = 0 ∧ cap = 0 ∧ ∃ a, ao = some a) ∨ OwnR w base ao n cap F T
theorem catF_zero (F G : Nat → Int) : catF 0 F G = G := by funext i; simp [catF]
theorem app_op {w : World} {o : Oper} {a : Act} {K : Act → World → Prop} {Q : Exit → Act → World → Prop} (s x : Operand)
    (ho : o.op = .call { callee := .builtin .append, args := #[s, x], argTypes := #[23, 23] }) {base n cap : Nat} {ao : Option Addr} {F T : Nat → Int} (hs : a.eval s = .slice ao n cap) (hown : OwnE w base ao n cap F T)
    (xo : Option Addr) (m c : Nat) {G U : Nat → Int} (hx : a.eval x = .slice xo m c) (hM : RgAt w xo m G U) (hlen : n + m ≤ 1000000) (hbase : base ≤ w.heap.size)
    (h : ∀ ao' cap' w', OwnE w' base ao' (n + m) cap' (catF n F G) (catF n T U) → Below base w w' → (∀ k, k < w.heap.size → (∀ cur, w.heap[k]? ≠ some (.cells cur 63 (0, 0))) → w'.heap[k]? = w.heap[k]?) → (∀ k, k < base → w'.heap[k]? = w.heap[k]?) → K (a.put o.dst (.slice ao' (n + m) cap')) w') : Oper.wp Try.prog o a w K Q := by
  have key : ∃ ao' cap' w', (Builtin.append_ #[23, 23] o.type #[.slice ao n cap, .slice xo m c]).run Try.prog w = .ok (.slice ao' (n + m) cap') w' ∧ OwnE w' base ao' (n + m) cap' (catF n F G) (catF n T U) ∧ Below base w w' ∧ (∀ k, k < w.heap.size → (∀ cur, w.heap[k]? ≠ some (.cells cur 63 (0, 0))) → w'.heap[k]? = w.heap[k]?) := by
    have same : ∀ {m : Nat}, m = 0 → OwnE w base ao n cap F T → OwnE w base ao (n + m) cap (catF n F G) (catF n T U) := by
      rintro m rfl hE
      rcases hE with ⟨rfl, rfl, a0, rfl⟩ | hE
      · exact .inl ⟨rfl, rfl, a0, rfl⟩
      · obtain ⟨xs, h1, h2⟩ := hE
        refine .inr ⟨xs, h1, fun i hi j hj => (h2 i hi j hj).trans ?_⟩
        have hi' : i < n := hi
        simp only [RgC, catF, hi', if_true]
    have run : ∀ {ao : Option Addr} {n cap : Nat} {F T : Nat → Int} (hown : OwnR w base ao n cap F T) (hlen : n + m ≤ 1000000) (ad : Addr) (hM : RgAt w (some ad) m G U), ∃ ao' cap' w', (Builtin.append_ #[23, 23] o.type #[.slice ao n cap, .slice (some ad) m c]).run Try.prog w = .ok (.slice ao' (n + m) cap') w' ∧ OwnE w' base ao' (n + m) cap' (catF n F G) (catF n T U) ∧ Below base w w' ∧ (∀ k, k < w.heap.size → (∀ cur, w.heap[k]? ≠ some (.cells cur 63 (0, 0))) → w'.heap[k]? = w.heap[k]?) := by
      intro ao n cap F T hown hlen ad hM
      obtain ⟨ao', cap', w', hr, h1, h2⟩ := app_run o.type hown ad m c hM hlen hbase
      obtain ⟨xs, h3, h4⟩ := hown
      refine ⟨ao', cap', w', hr, .inr h1, (Below.refl base w).grown h2 hbase (fun k hk => (h3.lt k hk).1), fun k hk hc => h2.block k hk fun e => ?_⟩
      rcases h3.2 with ⟨e', _⟩ | ⟨g, cap', cur, e', _, hg, _⟩
      · rw [e'] at e; cases e
      · rw [e'] at e; cases e; exact hc cur hg
    cases xo with
    | none =>
      obtain rfl : m = 0 := by
        rcases Nat.eq_zero_or_pos m with h | h
        · exact h
        · obtain ⟨b, off, e, _⟩ := hM 0 h
          cases e
      refine ⟨ao, cap, w, ?_, same rfl hown, Below.refl _ _, fun k _ _ => rfl⟩
      rcases hown with ⟨rfl, rfl, a0, rfl⟩ | ⟨xs, h1, h2⟩
      · exact app_nocap o.type _ _ _ c (Nat.le_refl _)
      · refine app_nocap o.type _ _ _ c ?_
        rcases h1.2 with ⟨e, h0⟩ | ⟨g, cap', cur, e, _, _, h0, _⟩
        · cases e; exact h0 ▸ Nat.zero_le _
        · cases e; exact h0
    | some ad =>
      rcases hown with ⟨rfl, rfl, a0, rfl⟩ | hR
      · by_cases hm : m = 0
        · subst hm
          exact ⟨some a0, 0, w, app_zero o.type a0 ad c, same rfl (.inl ⟨rfl, rfl, a0, rfl⟩), Below.refl _ _, fun k _ _ => rfl⟩
        · rw [app_empty_eq o.type a0 ad m c hM (by omega) (by omega)]
          exact run (OwnR.nil w base F T) hlen ad hM
      · exact run hR hlen ad hM
  obtain ⟨ao', cap', w', hr, h1, h2, h3⟩ := key
  unfold Oper.wp
  simp [execOp, ho, resolve, invoke, builtin, hs, hx, hr, Result.andThen]
  exact h ao' cap' w' h1 h2 h3 (fun k hk => h2.block k hk)
end Go.Proofs.Ytkhjfcbloahjeaa
namespace Go.Proofs.Ytkhjfcbloahjeaa
open Go.RowKit Go.Sx
def upd (L : Nat → Bool) (i j : Nat) : Bool := if j = i then true else L j
/-- What Tidy gives. -/
structure Tid (B : Nat) (wm : World) (ao : Option Addr) (n cap : Nat) (X Y : Nat → Int) (F T : Nat → Int) (m : Nat) : Prop where
  own : OwnR wm B ao n cap X Y
  rg : rgB X Y n = true
  le : n ≤ 65536
  ing : ∀ x : Nat, inG X Y n (x : Int) = inG F T m (x : Int)
def entW (w : World) (p0 p1 : Bool) (ra : Option Addr) (rn rc : Nat) (sa : Option Addr) (sn sc : Nat) (q0 q1 : Bool) (ra' : Option Addr) (rn' rc' : Nat) (sa' : Option Addr) (sn' sc' : Nat) : World :=
  ((w.alloc (.cells #[.bool p0, .bool p1, .slice ra rn rc, .slice sa sn sc] 25)).alloc (.cells #[.bool q0, .bool q1, .slice ra' rn' rc', .slice sa' sn' sc'] 25)).alloc (.cells #[.bool false, .bool false, .slice none 0 0, .slice none 0 0] 25)
structure J (w w1 : World) (p0 p1 : Bool) (ra : Option Addr) (rn rc : Nat) (sa : Option Addr) (sn sc : Nat) (q0 q1 : Bool) (ra' : Option Addr) (rn' rc' : Nat) (sa' : Option Addr) (sn' sc' : Nat) (F T F' T' G U G' U' : Nat → Int) (L : Nat → Bool) (wr : World) (u5 u6 u7 u8 u9 u10 u11 u12 u13 u14 u15 u16 u17 u18 u19 u20 u21 u22 : Value) : Prop where
  bl : Below w1.heap.size w1 wr
  o6 : L 6 = true → L 3 = true
  o7 : L 7 = true → L 6 = true
  o11 : L 11 = true → L 7 = true
  o14 : L 14 = true → L 11 = true
  o15 : L 15 = true → L 14 = true
  o16 : L 16 = true → L 15 = true
  o18 : L 18 = true → L 16 = true ∧ L 17 = true
  f0 : L 0 = true → ∃ x, u6 = .slice (some x) 0 0
  f1 : L 1 = true → u7 = .pointer (some ⟨w.heap.size, 2, none⟩)
  f2 : L 2 = true → u8 = .slice ra rn rc
  f3 : L 3 = true → L 6 = false → ∃ ao cap, u9 = .slice ao rn cap ∧ OwnE wr w1.heap.size ao rn cap F T
  f4 : L 4 = true → u10 = .pointer (some ⟨w.heap.size + 1, 2, none⟩)
  f5 : L 5 = true → u11 = .slice ra' rn' rc'
  f6 : L 6 = true → L 7 = false → ∃ ao cap, u12 = .slice ao (rn + rn') cap ∧ OwnE wr w1.heap.size ao (rn + rn') cap (catF rn F G) (catF rn T U)
  f7 : L 7 = true → L 18 = false → ∃ ao n cap X Y wm, u13 = .slice ao n cap ∧ Tid w1.heap.size wm ao n cap X Y (catF rn F G) (catF rn T U) (rn + rn') ∧ Below w1.heap.size w1 wm ∧ Below wm.heap.size wm wr ∧
    (L 11 = true → L 14 = false → ∃ ao cap, u17 = .slice ao sn cap ∧ OwnE wr wm.heap.size ao sn cap F' T') ∧
    (L 14 = true → L 15 = false → ∃ ao cap, u20 = .slice ao (sn + sn') cap ∧ OwnE wr wm.heap.size ao (sn + sn') cap (catF sn F' G') (catF sn T' U'))
  f8 : L 8 = true → ∃ x, u14 = .slice (some x) 0 0
  f9 : L 9 = true → u15 = .pointer (some ⟨w.heap.size, 3, none⟩)
  f10 : L 10 = true → u16 = .slice sa sn sc
  f12 : L 12 = true → u18 = .pointer (some ⟨w.heap.size + 1, 3, none⟩)
  f13 : L 13 = true → u19 = .slice sa' sn' sc'
  f15 : L 15 = true → L 18 = false → ∃ ao n cap X Y wm, u21 = .slice ao n cap ∧ Tid w1.heap.size wm ao n cap X Y (catF sn F' G') (catF sn T' U') (sn + sn') ∧ Below wm.heap.size wm wr
  f18 : L 18 = true → ∃ ao n cap X Y ao' n' cap' X' Y', u13 = .slice ao n cap ∧ u21 = .slice ao' n' cap' ∧ OwnR wr w1.heap.size ao n cap X Y ∧ OwnR wr w1.heap.size ao' n' cap' X' Y' ∧ n ≤ 65536 ∧ n' ≤ 65536 ∧ rgB X Y n = true ∧ rgB X' Y' n' = true ∧ (∀ x : Nat, inG X Y n (x : Int) = inG (catF rn F G) (catF rn T U) (rn + rn') (x : Int)) ∧ (∀ x : Nat, inG X' Y' n' (x : Int) = inG (catF sn F' G') (catF sn T' U') (sn + sn') (x : Int))
  f16 : L 16 = true → u22 = .agg #[.bool false, .bool false, u13, u21]
  f17 : L 17 = true → ∃ g5, u5 = .pointer (some ⟨g5, 0, none⟩) ∧ w1.heap.size ≤ g5 ∧ g5 < wr.heap.size ∧ wr.heap[g5]? = some (.cells (if L 18 then #[.bool false, .bool false, u13, u21] else #[.bool false, .bool false, .slice none 0 0, .slice none 0 0]) 25 (0, 0))
theorem OwnE.grown {w w' : World} {base : Nat} {ao : Option Addr} {n cap : Nat} {F T : Nat → Int} (h : OwnE w base ao n cap F T) (hb : Below w.heap.size w w') : OwnE w' base ao n cap F T := h.imp id (fun h => h.grown hb)
theorem OwnE.row {w : World} {base : Nat} {ao : Option Addr} {n cap : Nat} {F T : Nat → Int} (h : OwnE w base ao n cap F T) : RgAt w ao n F T := by
  rcases h with ⟨rfl, _, _⟩ | h
  · intro i hi; exact absurd hi (by omega)
  · exact h.row
section
variable {w w1 : World} {p0 p1 : Bool} {ra : Option Addr} {rn rc : Nat} {sa : Option Addr} {sn sc : Nat} {q0 q1 : Bool} {ra' : Option Addr} {rn' rc' : Nat} {sa' : Option Addr} {sn' sc' : Nat} {F T F' T' G U G' U' : Nat → Int} {L : Nat → Bool} {wr wr' : World} {u5 u6 u7 u8 u9 u10 u11 u12 u13 u14 u15 u16 u17 u18 u19 u20 u21 u22 : Value}
theorem J.below (h : J w w1 p0 p1 ra rn rc sa sn sc q0 q1 ra' rn' rc' sa' sn' sc' F T F' T' G U G' U' L wr u5 u6 u7 u8 u9 u10 u11 u12 u13 u14 u15 u16 u17 u18 u19 u20 u21 u22) (hb : Below wr.heap.size wr wr') : J w w1 p0 p1 ra rn rc sa sn sc q0 q1 ra' rn' rc' sa' sn' sc' F T F' T' G U G' U' L wr' u5 u6 u7 u8 u9 u10 u11 u12 u13 u14 u15 u16 u17 u18 u19 u20 u21 u22 where
  bl := h.bl.trans (hb.mono h.bl.size)
  o6 := h.o6
  o7 := h.o7
  o11 := h.o11
  o14 := h.o14
  o15 := h.o15
  o16 := h.o16
  o18 := h.o18
  f0 := h.f0
  f1 := h.f1
  f2 := h.f2
  f3 := fun a b => by obtain ⟨ao, cap, e, h1⟩ := h.f3 a b; exact ⟨ao, cap, e, h1.grown hb⟩
  f4 := h.f4
  f5 := h.f5
  f6 := fun a b => by obtain ⟨ao, cap, e, h1⟩ := h.f6 a b; exact ⟨ao, cap, e, h1.grown hb⟩
  f7 := fun a a18 => by
    obtain ⟨ao, n, cap, X, Y, wm, e, h1, h2, h3, h4, h5⟩ := h.f7 a a18
    refine ⟨ao, n, cap, X, Y, wm, e, h1, h2, h3.trans (hb.mono h3.size), fun a b => ?_, fun a b => ?_⟩
    · obtain ⟨ao, cap, e, h1⟩ := h4 a b; exact ⟨ao, cap, e, h1.grown hb⟩
    · obtain ⟨ao, cap, e, h1⟩ := h5 a b; exact ⟨ao, cap, e, h1.grown hb⟩
  f8 := h.f8
  f9 := h.f9
  f10 := h.f10
  f12 := h.f12
  f13 := h.f13
  f18 := fun a => by
    obtain ⟨ao, n, cap, X, Y, ao', n', cap', X', Y', e1, e2, h1, h2, r⟩ := h.f18 a
    exact ⟨ao, n, cap, X, Y, ao', n', cap', X', Y', e1, e2, h1.grown hb, h2.grown hb, r⟩
  f15 := fun a a18 => by
    obtain ⟨ao, n, cap, X, Y, wm, e, h1, h3⟩ := h.f15 a a18
    exact ⟨ao, n, cap, X, Y, wm, e, h1, h3.trans (hb.mono h3.size)⟩
  f16 := h.f16
  f17 := fun a => by
    obtain ⟨g5, e, h1, h2, h3⟩ := h.f17 a
    exact ⟨g5, e, h1, Nat.lt_of_lt_of_le h2 hb.size, (hb.block g5 h2).trans h3⟩
theorem J.f17' (h : J w w1 p0 p1 ra rn rc sa sn sc q0 q1 ra' rn' rc' sa' sn' sc' F T F' T' G U G' U' L wr u5 u6 u7 u8 u9 u10 u11 u12 u13 u14 u15 u16 u17 u18 u19 u20 u21 u22) {x y : Value} (n18 : L 18 = false) (hsz : wr.heap.size ≤ wr'.heap.size) (hfr : ∀ k, k < wr.heap.size → (∀ cur, wr.heap[k]? ≠ some (.cells cur 63 (0, 0))) → wr'.heap[k]? = wr.heap[k]?) (a : L 17 = true) :
    ∃ g5, u5 = .pointer (some ⟨g5, 0, none⟩) ∧ w1.heap.size ≤ g5 ∧ g5 < wr'.heap.size ∧ wr'.heap[g5]? = some (.cells (if L 18 then #[.bool false, .bool false, x, y] else #[.bool false, .bool false, .slice none 0 0, .slice none 0 0]) 25 (0, 0)) := by
  obtain ⟨g5, e, h1, h2, h3⟩ := h.f17 a
  rw [n18] at h3 ⊢
  exact ⟨g5, e, h1, Nat.lt_of_lt_of_le h2 hsz, (hfr g5 h2 (fun cur hc => by rw [h3] at hc; injection hc with hc; injection hc with _ hc; cases hc)).trans h3⟩
theorem J.no7 (h : J w w1 p0 p1 ra rn rc sa sn sc q0 q1 ra' rn' rc' sa' sn' sc' F T F' T' G U G' U' L wr u5 u6 u7 u8 u9 u10 u11 u12 u13 u14 u15 u16 u17 u18 u19 u20 u21 u22) (a : L 7 = false) : L 11 = false ∧ L 14 = false ∧ L 15 = false ∧ L 16 = false ∧ L 18 = false := by
  have e : ∀ {i j : Nat}, (L i = true → L j = true) → L j = false → L i = false := fun h a => Bool.eq_false_iff.2 fun hh => by rw [h hh] at a; cases a
  have a11 := e h.o11 a
  have a14 := e h.o14 a11
  have a15 := e h.o15 a14
  have a16 := e h.o16 a15
  exact ⟨a11, a14, a15, a16, e (fun b => (h.o18 b).1) a16⟩
theorem J.no11 (h : J w w1 p0 p1 ra rn rc sa sn sc q0 q1 ra' rn' rc' sa' sn' sc' F T F' T' G U G' U' L wr u5 u6 u7 u8 u9 u10 u11 u12 u13 u14 u15 u16 u17 u18 u19 u20 u21 u22) (a : L 11 = false) : L 14 = false ∧ L 15 = false ∧ L 16 = false ∧ L 18 = false := by
  have e : ∀ {i j : Nat}, (L i = true → L j = true) → L j = false → L i = false := fun h a => Bool.eq_false_iff.2 fun hh => by rw [h hh] at a; cases a
  have a14 := e h.o14 a
  have a15 := e h.o15 a14
  have a16 := e h.o16 a15
  exact ⟨a14, a15, a16, e (fun b => (h.o18 b).1) a16⟩
theorem OwnR.other {w w' : World} {base : Nat} {ao : Option Addr} {n cap : Nat} {F T : Nat → Int} (h : OwnR w base ao n cap F T) (hk : ∀ (k : Nat) (cur : Array Value), w.heap[k]? = some (Obj.cells cur 63 (0, 0)) → w'.heap[k]? = w.heap[k]?) : OwnR w' base ao n cap F T := by
  obtain ⟨xs, ho, hx⟩ := h
  refine ⟨xs, ⟨ho.1, ?_⟩, hx⟩
  rcases ho.2 with e | ⟨g', cap', cur, e, r1, r2, r3⟩
  · exact .inl e
  · exact .inr ⟨g', cap', cur, e, r1, by rw [hk g' cur r2]; exact r2, r3⟩
theorem oth4 {w : World} {g B : Nat} (h : B ≠ g) (v0 v1 v2 v3 : Value) : ((((w.setCell ⟨B, 0, none⟩ v0).setCell ⟨B, 1, none⟩ v1).setCell ⟨B, 2, none⟩ v2).setCell ⟨B, 3, none⟩ v3).heap[g]? = w.heap[g]? :=
  (blk_other (by exact h) _).trans ((blk_other (by exact h) _).trans ((blk_other (by exact h) _).trans (blk_other (by exact h) _)))
theorem set4 {w : World} {g : Nat} {x0 x1 x2 x3 : Value} {t : TypeId} (h : w.heap[g]? = some (.cells #[x0, x1, x2, x3] t (0, 0))) (v0 v1 v2 v3 : Value) :
    ((((w.setCell ⟨g, 0, none⟩ v0).setCell ⟨g, 1, none⟩ v1).setCell ⟨g, 2, none⟩ v2).setCell ⟨g, 3, none⟩ v3).heap[g]? = some (.cells #[v0, v1, v2, v3] t (0, 0)) := by
  have := blk_set (blk_set (blk_set (blk_set h 0 v0) 1 v1) 2 v2) 3 v3
  simpa using this
theorem catW {n m : Nat} {F T G U : Nat → Int} (h : rgB F T n = true) (h' : rgB G U m = true) : ∀ i, i < n + m → 0 ≤ catF n F G i ∧ catF n F G i ≤ catF n T U i ∧ catF n T U i ≤ 65535 := by
  intro i hi
  unfold catF
  by_cases hin : i < n
  · have := rgB_get h i hin
    rw [if_pos hin, if_pos hin]; exact ⟨this.1, this.2.1, this.2.2.1⟩
  · have := rgB_get h' (i - n) (by omega)
    rw [if_neg hin, if_neg hin]; exact ⟨this.1, this.2.1, this.2.2.1⟩
end
end Go.Proofs.Ytkhjfcbloahjeaa
namespace Go.Proofs.Ytkhjfcbloahjeaa
open Go.RowKit Go.Sx
open Go
set_option maxHeartbeats 6400000 in
theorem join_any (p0 p1 : Bool) (ra : Option Addr) (rn rc : Nat) (sa : Option Addr) (sn sc : Nat) (q0 q1 : Bool) (ra' : Option Addr) (rn' rc' : Nat) (sa' : Option Addr) (sn' sc' : Nat) (F T F' T' G U G' U' : Nat → Int) (w : World) (hP : PolAt w ra rn rc sa sn sc F T F' T') (hQ : PolAt w ra' rn' rc' sa' sn' sc' G U G' U')
    (g1 : rgB F T rn = true) (g2 : rgB G U rn' = true) (g3 : rgB F' T' sn = true) (g4 : rgB G' U' sn' = true) :
    Calls Try.prog 15 #[poV p0 p1 ra rn rc sa sn sc, poV q0 q1 ra' rn' rc' sa' sn' sc'] w fun e w' => ∃ xa xn xc ya yn yc X Y X' Y', e = .returned (poV (p0 || q0) (p1 || q1) xa xn xc ya yn yc) ∧ PolAt w' xa xn xc ya yn yc X Y X' Y' ∧ rgB X Y xn = true ∧ rgB X' Y' yn = true ∧ (∀ x : Nat, inG X Y xn (x : Int) = inG (catF rn F G) (catF rn T U) (rn + rn') (x : Int)) ∧ (∀ x : Nat, inG X' Y' yn (x : Int) = inG (catF sn F' G') (catF sn T' U') (sn + sn') (x : Int)) ∧ Below w.heap.size w w' := by
  go_enter Try.func15, Try.ntmps15
  go_upto_region 1 with fail
  obtain ⟨w1, hw1⟩ : ∃ w1, w1 = (((w.alloc (.cells #[.bool p0, .bool p1, .slice ra rn rc, .slice sa sn sc] 25)).alloc (.cells #[.bool q0, .bool q1, .slice ra' rn' rc', .slice sa' sn' sc'] 25)).alloc (.cells #[.bool false, .bool false, .slice none 0 0, .slice none 0 0] 25)) := ⟨_, rfl⟩
  rw [← hw1]
  have hW := hidI hw1; clear hw1
  refine wp_region_inv (fun L a wr => ∃ u5 u6 u7 u8 u9 u10 u11 u12 u13 u14 u15 u16 u17 u18 u19 u20 u21 u22 : Value, a = ⟨#[poV p0 p1 ra rn rc sa sn sc, poV q0 q1 ra' rn' rc' sa' sn' sc', .pointer (some ⟨w.heap.size, 0, none⟩), .pointer (some ⟨w.heap.size + 1, 0, none⟩), .pointer (some ⟨w.heap.size + 1 + 1, 0, none⟩), u5, u6, u7, u8, u9, u10, u11, u12, u13, u14, u15, u16, u17, u18, u19, u20, u21, u22, undef, undef, undef, undef, undef, undef, undef, undef, undef, undef, undef, undef, undef, undef, undef, undef, undef, undef, undef, undef, undef], []⟩ ∧ J w w1 p0 p1 ra rn rc sa sn sc q0 q1 ra' rn' rc' sa' sn' sc' F T F' T' G U G' U' L wr u5 u6 u7 u8 u9 u10 u11 u12 u13 u14 u15 u16 u17 u18 u19 u20 u21 u22) (by kernel_rfl) (by kernel_rfl) ?h0 ?hop ?hend
  case h0 =>
    refine ⟨undef, undef, undef, undef, undef, undef, undef, undef, undef, undef, undef, undef, undef, undef, undef, undef, undef, undef, rfl, ?_⟩
    exact { bl := (Below.refl _ _).drew, o6 := nofun, o7 := nofun, o11 := nofun, o14 := nofun, o15 := nofun, o16 := nofun, o18 := nofun, f0 := nofun, f1 := nofun, f2 := nofun, f3 := nofun, f4 := nofun, f5 := nofun, f6 := nofun, f7 := nofun, f8 := nofun, f9 := nofun, f10 := nofun, f12 := nofun, f13 := nofun, f18 := nofun, f15 := nofun, f16 := nofun, f17 := nofun }
  case hop =>
    intro L a wr hI i o ho hLi hd K hK
    obtain ⟨u5, u6, u7, u8, u9, u10, u11, u12, u13, u14, u15, u16, u17, u18, u19, u20, u21, u22, rfl, hJ⟩ := hI
    have hs : w1.heap.size = w.heap.size + 1 + 1 + 1 := by rw [hW.out]; simp
    have h0 : w1.heap[w.heap.size]? = some (.cells #[.bool p0, .bool p1, .slice ra rn rc, .slice sa sn sc] 25 (0, 0)) := by rw [hW.out]; exact blk_alloc (blk_alloc (blk_new _ _) _) _
    have h1 : w1.heap[w.heap.size + 1]? = some (.cells #[.bool q0, .bool q1, .slice ra' rn' rc', .slice sa' sn' sc'] 25 (0, 0)) := by rw [hW.out]; exact blk_alloc (blk_new' _ (by simp)) _
    have k0 := (hJ.bl.block w.heap.size (by omega)).trans h0
    have k1 := (hJ.bl.block (w.heap.size + 1) (by omega)).trans h1
    have hcell2 := blk_cell k0 2
    have hcell10 := blk_cell k0 3
    have hcell5 := blk_cell k1 2
    have hcell13 := blk_cell k1 3
    have hbw : Below w.heap.size w wr := by
      have e : Below w.heap.size w w1 := by rw [hW.out]; exact (((Below.refl _ _).alloc (Nat.le_refl _) _).alloc (by simp) _).alloc (by simp; omega) _
      exact e.trans (hJ.bl.mono e.size)
    have q1 := hP.rl
    have q2 := hP.sl
    have q3 := hQ.rl
    have q4 := hQ.sl
    have hi : i < 19 := (Array.getElem?_eq_some_iff.1 ho).1
    have hcs : i = 0 ∨ i = 1 ∨ i = 2 ∨ i = 3 ∨ i = 4 ∨ i = 5 ∨ i = 6 ∨ i = 7 ∨ i = 8 ∨ i = 9 ∨ i = 10 ∨ i = 11 ∨ i = 12 ∨ i = 13 ∨ i = 14 ∨ i = 15 ∨ i = 16 ∨ i = 17 ∨ i = 18 := by omega
    rcases hcs with rfl | rfl | rfl | rfl | rfl | rfl | rfl | rfl | rfl | rfl | rfl | rfl | rfl | rfl | rfl | rfl | rfl | rfl | rfl
    · injection (show some (⟨_, _, _, _, _, _⟩ : Oper) = some o from ho) with e
      subst e
      go_simp
      refine hK.out _ _ ⟨_, _, _, _, _, _, _, _, _, _, _, _, _, _, _, _, _, _, rfl, ?_⟩
      exact { hJ.below ((Below.refl _ _).alloc (Nat.le_refl _) _) with f0 := fun _ => ⟨_, rfl⟩ }
    · injection (show some (⟨_, _, _, _, _, _⟩ : Oper) = some o from ho) with e
      subst e
      go_simp
      refine hK.out _ _ ⟨_, _, _, _, _, _, _, _, _, _, _, _, _, _, _, _, _, _, rfl, ?_⟩
      exact { hJ with f1 := fun _ => rfl }
    · injection (show some (⟨_, _, _, _, _, _⟩ : Oper) = some o from ho) with e
      subst e
      have hd : ([1].all L) = true := hd
      simp only [List.all_cons, List.all_nil, Bool.and_eq_true, Bool.and_true] at hd
      obtain rfl := hJ.f1 hd
      have c : wr.cell? ⟨w.heap.size, 2, none⟩ = some (.slice ra rn rc) := hcell2
      go_simp
      refine hK.out _ _ ⟨_, _, _, _, _, _, _, _, _, _, _, _, _, _, _, _, _, _, rfl, ?_⟩
      exact { hJ with f2 := fun _ => rfl }
    · injection (show some (⟨_, _, _, _, _, _⟩ : Oper) = some o from ho) with e
      subst e
      have hd : ([0, 2].all L) = true := hd
      simp only [List.all_cons, List.all_nil, Bool.and_eq_true, Bool.and_true] at hd
      obtain ⟨x0, rfl⟩ := hJ.f0 hd.1
      obtain rfl := hJ.f2 hd.2
      have n6 : L 6 = false := Bool.eq_false_iff.2 fun h => by rw [hJ.o6 h] at hLi; cases hLi
      have n7 : L 7 = false := Bool.eq_false_iff.2 fun h => by rw [hJ.o7 h] at n6; cases n6
      have n := hJ.no7 n7
      refine (if_pos (by rfl)).mpr ?_
      refine app_op (.tmp 6) (.tmp 8) rfl rfl (F := F) (T := T) (.inl ⟨rfl, rfl, x0, rfl⟩) ra rn rc rfl (hP.r.below hbw) (by omega) hJ.bl.size ?_
      intro ao' cap' w' hE hb hfr _
      refine hK.out _ _ ⟨_, _, _, _, _, _, _, _, _, _, _, _, _, _, _, _, _, _, rfl, ?_⟩
      exact { hJ with bl := hJ.bl.trans hb, o6 := fun _ => rfl, f3 := fun _ _ => ⟨ao', cap', by rw [Nat.zero_add], by rw [Nat.zero_add, catF_zero, catF_zero] at hE; exact hE⟩, f6 := fun a => absurd (n6.symm.trans a) (by simp), f7 := fun a => absurd (n7.symm.trans a) (by simp), f15 := fun a => absurd (n.2.2.1.symm.trans a) (by simp), f18 := fun a => absurd (n.2.2.2.2.symm.trans a) (by simp), f17 := hJ.f17' n.2.2.2.2 hb.size hfr }
    · injection (show some (⟨_, _, _, _, _, _⟩ : Oper) = some o from ho) with e
      subst e
      go_simp
      refine hK.out _ _ ⟨_, _, _, _, _, _, _, _, _, _, _, _, _, _, _, _, _, _, rfl, ?_⟩
      exact { hJ with f4 := fun _ => rfl }
    · injection (show some (⟨_, _, _, _, _, _⟩ : Oper) = some o from ho) with e
      subst e
      have hd : ([4].all L) = true := hd
      simp only [List.all_cons, List.all_nil, Bool.and_eq_true, Bool.and_true] at hd
      obtain rfl := hJ.f4 hd
      have c : wr.cell? ⟨w.heap.size + 1, 2, none⟩ = some (.slice ra' rn' rc') := hcell5
      go_simp
      refine hK.out _ _ ⟨_, _, _, _, _, _, _, _, _, _, _, _, _, _, _, _, _, _, rfl, ?_⟩
      exact { hJ with f5 := fun _ => rfl }
    · injection (show some (⟨_, _, _, _, _, _⟩ : Oper) = some o from ho) with e
      subst e
      have hd : ([3, 5, 3].all L) = true := hd
      simp only [List.all_cons, List.all_nil, Bool.and_eq_true, Bool.and_true] at hd
      obtain ⟨ao, cap, rfl, hE0⟩ := hJ.f3 hd.1 hLi
      obtain rfl := hJ.f5 hd.2.1
      have n7 : L 7 = false := Bool.eq_false_iff.2 fun h => by rw [hJ.o7 h] at hLi; cases hLi
      have n := hJ.no7 n7
      refine (if_pos (by rfl)).mpr ?_
      refine app_op (.tmp 9) (.tmp 11) rfl rfl hE0 ra' rn' rc' rfl (hQ.r.below hbw) (by omega) hJ.bl.size ?_
      intro ao' cap' w' hE hb hfr _
      refine hK.out _ _ ⟨_, _, _, _, _, _, _, _, _, _, _, _, _, _, _, _, _, _, rfl, ?_⟩
      exact { hJ with bl := hJ.bl.trans hb, o6 := fun _ => hd.1, o7 := fun _ => rfl, f3 := fun _ h => (by cases h), f6 := fun _ _ => ⟨ao', cap', rfl, hE⟩, f7 := fun a => absurd (n7.symm.trans a) (by simp), f15 := fun a => absurd (n.2.2.1.symm.trans a) (by simp), f18 := fun a => absurd (n.2.2.2.2.symm.trans a) (by simp), f17 := hJ.f17' n.2.2.2.2 hb.size hfr }
    · injection (show some (⟨_, _, _, _, _, _⟩ : Oper) = some o from ho) with e
      subst e
      have hd : ([6, 6].all L) = true := hd
      simp only [List.all_cons, List.all_nil, Bool.and_eq_true, Bool.and_true] at hd
      obtain ⟨ao, cap, rfl, hE0⟩ := hJ.f6 hd.1 hLi
      have n := hJ.no7 hLi
      go_simp
      refine (tidy_any ao (rn + rn') cap (catF rn F G) (catF rn T U) _ (by omega) hE0.row (catW g1 g2)).mono ?_
      rintro e w2 ⟨ao', n', cap', X, Y, rfl, hO, hr, hn, hi, hb⟩
      have h2 := hJ.below hb
      refine hK.out _ _ ⟨_, _, _, _, _, _, _, _, _, _, _, _, _, _, _, _, _, _, rfl, ?_⟩
      exact { h2 with o7 := fun _ => hd.1, o11 := fun _ => rfl, f6 := fun _ h => (by cases h), f7 := fun _ _ => ⟨ao', n', cap', X, Y, w2, rfl, ⟨hO.mono hJ.bl.size, hr, hn, hi⟩, h2.bl, Below.refl _ _, fun a => absurd (n.1.symm.trans a) (by simp), fun a => absurd (n.2.1.symm.trans a) (by simp)⟩, f18 := fun a => absurd (n.2.2.2.2.symm.trans a) (by simp), f16 := fun a => absurd (n.2.2.2.1.symm.trans a) (by simp), f17 := hJ.f17' n.2.2.2.2 hb.size (fun k hk _ => hb.block k hk) }
    · injection (show some (⟨_, _, _, _, _, _⟩ : Oper) = some o from ho) with e
      subst e
      go_simp
      refine hK.out _ _ ⟨_, _, _, _, _, _, _, _, _, _, _, _, _, _, _, _, _, _, rfl, ?_⟩
      exact { hJ.below ((Below.refl _ _).alloc (Nat.le_refl _) _) with f8 := fun _ => ⟨_, rfl⟩ }
    · injection (show some (⟨_, _, _, _, _, _⟩ : Oper) = some o from ho) with e
      subst e
      go_simp
      refine hK.out _ _ ⟨_, _, _, _, _, _, _, _, _, _, _, _, _, _, _, _, _, _, rfl, ?_⟩
      exact { hJ with f9 := fun _ => rfl }
    · injection (show some (⟨_, _, _, _, _, _⟩ : Oper) = some o from ho) with e
      subst e
      have hd : ([9].all L) = true := hd
      simp only [List.all_cons, List.all_nil, Bool.and_eq_true, Bool.and_true] at hd
      obtain rfl := hJ.f9 hd
      have c : wr.cell? ⟨w.heap.size, 3, none⟩ = some (.slice sa sn sc) := hcell10
      go_simp
      refine hK.out _ _ ⟨_, _, _, _, _, _, _, _, _, _, _, _, _, _, _, _, _, _, rfl, ?_⟩
      exact { hJ with f10 := fun _ => rfl }
    · injection (show some (⟨_, _, _, _, _, _⟩ : Oper) = some o from ho) with e
      subst e
      have hd : ([8, 10, 7].all L) = true := hd
      simp only [List.all_cons, List.all_nil, Bool.and_eq_true, Bool.and_true] at hd
      obtain ⟨x0, rfl⟩ := hJ.f8 hd.1
      obtain rfl := hJ.f10 hd.2.1
      have n := hJ.no11 hLi
      obtain ⟨ao, n0, cap, X, Y, wm, rfl, hT, hbm, hb3, _, _⟩ := hJ.f7 hd.2.2 n.2.2.2
      refine (if_pos (by rfl)).mpr ?_
      refine app_op (.tmp 14) (.tmp 16) rfl rfl (F := F) (T := T) (.inl ⟨rfl, rfl, x0, rfl⟩) sa sn sc rfl (hP.s.below hbw) (by omega) hb3.size ?_
      intro ao' cap' w' hE hb hfr _
      refine hK.out _ _ ⟨_, _, _, _, _, _, _, _, _, _, _, _, _, _, _, _, _, _, rfl, ?_⟩
      exact { hJ with bl := hJ.bl.trans (hb.mono hbm.size), o11 := fun _ => hd.2.2, o14 := fun _ => rfl, f3 := fun _ b => (by rw [show L 6 = true from hJ.o7 hd.2.2] at b; cases b), f6 := fun _ b => (by rw [show L 7 = true from hd.2.2] at b; cases b), f7 := fun _ _ => ⟨ao, n0, cap, X, Y, wm, rfl, hT, hbm, hb3.trans hb, fun _ _ => ⟨ao', cap', by rw [Nat.zero_add], by rw [Nat.zero_add, catF_zero, catF_zero] at hE; exact hE⟩, fun a => absurd (n.1.symm.trans a) (by simp)⟩, f15 := fun a => absurd (n.2.1.symm.trans a) (by simp), f18 := fun a => absurd (n.2.2.2.symm.trans a) (by simp), f17 := hJ.f17' n.2.2.2 hb.size hfr }
    · injection (show some (⟨_, _, _, _, _, _⟩ : Oper) = some o from ho) with e
      subst e
      go_simp
      refine hK.out _ _ ⟨_, _, _, _, _, _, _, _, _, _, _, _, _, _, _, _, _, _, rfl, ?_⟩
      exact { hJ with f12 := fun _ => rfl }
    · injection (show some (⟨_, _, _, _, _, _⟩ : Oper) = some o from ho) with e
      subst e
      have hd : ([12].all L) = true := hd
      simp only [List.all_cons, List.all_nil, Bool.and_eq_true, Bool.and_true] at hd
      obtain rfl := hJ.f12 hd
      have c : wr.cell? ⟨w.heap.size + 1, 3, none⟩ = some (.slice sa' sn' sc') := hcell13
      go_simp
      refine hK.out _ _ ⟨_, _, _, _, _, _, _, _, _, _, _, _, _, _, _, _, _, _, rfl, ?_⟩
      exact { hJ with f13 := fun _ => rfl }
    · injection (show some (⟨_, _, _, _, _, _⟩ : Oper) = some o from ho) with e
      subst e
      have hd : ([11, 13, 11].all L) = true := hd
      simp only [List.all_cons, List.all_nil, Bool.and_eq_true, Bool.and_true] at hd
      obtain rfl := hJ.f13 hd.2.1
      have n15 : L 15 = false := Bool.eq_false_iff.2 fun h => by rw [hJ.o15 h] at hLi; cases hLi
      have n16 : L 16 = false := Bool.eq_false_iff.2 fun h => by rw [hJ.o16 h] at n15; cases n15
      have n18 : L 18 = false := Bool.eq_false_iff.2 fun h => by rw [(hJ.o18 h).1] at n16; cases n16
      have l7 := hJ.o11 hd.1
      have l6 := hJ.o7 l7
      obtain ⟨ao, n0, cap, X, Y, wm, rfl, hT, hbm, hb3, h4, _⟩ := hJ.f7 l7 n18
      obtain ⟨bo, bc, rfl, hE0⟩ := h4 hd.1 hLi
      refine (if_pos (by rfl)).mpr ?_
      refine app_op (.tmp 17) (.tmp 19) rfl rfl hE0 sa' sn' sc' rfl (hQ.s.below hbw) (by omega) hb3.size ?_
      intro ao' cap' w' hE hb hfr _
      refine hK.out _ _ ⟨_, _, _, _, _, _, _, _, _, _, _, _, _, _, _, _, _, _, rfl, ?_⟩
      exact { hJ with bl := hJ.bl.trans (hb.mono hbm.size), o14 := fun _ => hd.1, o15 := fun _ => rfl, f3 := fun _ b => (by rw [show L 6 = true from l6] at b; cases b), f6 := fun _ b => (by rw [show L 7 = true from l7] at b; cases b), f7 := fun _ _ => ⟨ao, n0, cap, X, Y, wm, rfl, hT, hbm, hb3.trans hb, fun _ b => (by cases b), fun _ _ => ⟨ao', cap', rfl, hE⟩⟩, f15 := fun a => absurd (n15.symm.trans a) (by simp), f18 := fun a => absurd (n18.symm.trans a) (by simp), f17 := hJ.f17' n18 hb.size hfr }
    · injection (show some (⟨_, _, _, _, _, _⟩ : Oper) = some o from ho) with e
      subst e
      have hd : ([14, 14].all L) = true := hd
      simp only [List.all_cons, List.all_nil, Bool.and_eq_true, Bool.and_true] at hd
      have n16 : L 16 = false := Bool.eq_false_iff.2 fun h => by rw [hJ.o16 h] at hLi; cases hLi
      have n18 : L 18 = false := Bool.eq_false_iff.2 fun h => by rw [(hJ.o18 h).1] at n16; cases n16
      have l11 := hJ.o14 hd.1
      have l7 := hJ.o11 l11
      obtain ⟨ao, n0, cap, X, Y, wm, rfl, hT, hbm, hb3, _, h5⟩ := hJ.f7 l7 n18
      obtain ⟨bo, bc, rfl, hE0⟩ := h5 hd.1 hLi
      go_simp
      refine (tidy_any bo (sn + sn') bc (catF sn F' G') (catF sn T' U') _ (by omega) hE0.row (catW g3 g4)).mono ?_
      rintro e w2 ⟨ao', n', cap', X', Y', rfl, hO, hr, hn, hi, hb⟩
      have h2 := hJ.below hb
      refine hK.out _ _ ⟨_, _, _, _, _, _, _, _, _, _, _, _, _, _, _, _, _, _, rfl, ?_⟩
      exact { h2 with o15 := fun _ => hd.1, o16 := fun _ => rfl, f7 := fun _ _ => ⟨ao, n0, cap, X, Y, wm, rfl, hT, hbm, hb3.trans (hb.mono hb3.size), fun _ b => (by rw [show L 14 = true from hd.1] at b; cases b), fun _ b => (by cases b)⟩, f15 := fun _ _ => ⟨ao', n', cap', X', Y', w2, rfl, ⟨hO.mono hJ.bl.size, hr, hn, hi⟩, Below.refl _ _⟩, f18 := fun a => absurd (n18.symm.trans a) (by simp), f16 := fun a => absurd (n16.symm.trans a) (by simp), f17 := hJ.f17' n18 hb.size (fun k hk _ => hb.block k hk) }
    · injection (show some (⟨_, _, _, _, _, _⟩ : Oper) = some o from ho) with e
      subst e
      have hd : ([7, 15].all L) = true := hd
      simp only [List.all_cons, List.all_nil, Bool.and_eq_true, Bool.and_true] at hd
      have n18 : L 18 = false := Bool.eq_false_iff.2 fun h => by rw [(hJ.o18 h).1] at hLi; cases hLi
      obtain ⟨ao, n0, cap, X, Y, wm, rfl, _⟩ := hJ.f7 hd.1 n18
      obtain ⟨bo, m0, bc, X', Y', wm', rfl, _⟩ := hJ.f15 hd.2 n18
      go_simp
      refine hK.out _ _ ⟨_, _, _, _, _, _, _, _, _, _, _, _, _, _, _, _, _, _, rfl, ?_⟩
      exact { hJ with o16 := fun _ => hd.2, o18 := fun a => absurd (n18.symm.trans a) (by simp), f16 := fun _ => rfl }
    · injection (show some (⟨_, _, _, _, _, _⟩ : Oper) = some o from ho) with e
      subst e
      have n18 : L 18 = false := Bool.eq_false_iff.2 fun h => by rw [(hJ.o18 h).2] at hLi; cases hLi
      go_simp
      refine hK.out _ _ ⟨_, _, _, _, _, _, _, _, _, _, _, _, _, _, _, _, _, _, rfl, ?_⟩
      exact { hJ.below ((Below.refl _ _).alloc (Nat.le_refl _) _) with o18 := fun a => absurd (n18.symm.trans a) (by simp), f17 := fun _ => ⟨wr.heap.size, rfl, hJ.bl.size, by simp, (blk_new _ _).trans (congrArg (fun c => some (Obj.cells c 25 (0, 0))) (if_neg (show ¬ (L 18 = true) by rw [n18]; simp)).symm)⟩ }
    · injection (show some (⟨_, _, _, _, _, _⟩ : Oper) = some o from ho) with e
      subst e
      have hd : ([17, 16, 15, 0, 1, 2, 3, 4, 5, 6, 7, 8, 9, 10, 11, 12, 13, 14, 15, 16, 17].all L) = true := hd
      simp only [List.all_cons, List.all_nil, Bool.and_eq_true, Bool.and_true] at hd
      obtain ⟨g5, rfl, hg1, hg2, hg⟩ := hJ.f17 hd.1
      rw [hLi] at hg
      have hg : wr.heap[g5]? = some (.cells #[.bool false, .bool false, .slice none 0 0, .slice none 0 0] 25 (0, 0)) := hg
      obtain rfl := hJ.f16 hd.2.1
      obtain ⟨ao, n0, cap, X, Y, wm, rfl, hT, hbm, hb3, _, _⟩ := hJ.f7 hd.2.2.2.2.2.2.2.2.2.2.1 hLi
      obtain ⟨bo, m0, bc, X', Y', wm', rfl, hT', hb3'⟩ := hJ.f15 hd.2.2.1 hLi
      have l6 := hJ.o7 hd.2.2.2.2.2.2.2.2.2.2.1
      have l7 : L 7 = true := hd.2.2.2.2.2.2.2.2.2.2.1
      have c0 : wr.cell? ⟨g5, 0, none⟩ = some (.bool false) := blk_cell hg 0
      have c1 : wr.cell? ⟨g5, 1, none⟩ = some (.bool false) := blk_cell hg 1
      have c2 : wr.cell? ⟨g5, 2, none⟩ = some (.slice none 0 0) := blk_cell hg 2
      have c3 : wr.cell? ⟨g5, 3, none⟩ = some (.slice none 0 0) := blk_cell hg 3
      have z0 := blk_free hg 0
      have z1 := blk_free hg 1
      have z2 := blk_free hg 2
      have z3 := blk_free hg 3
      have oth : ∀ (v0 v1 v2 v3 : Value) (k : Nat) (cur : Array Value), wr.heap[k]? = some (Obj.cells cur 63 (0, 0)) → ((((wr.setCell ⟨g5, 0, none⟩ v0).setCell ⟨g5, 1, none⟩ v1).setCell ⟨g5, 2, none⟩ v2).setCell ⟨g5, 3, none⟩ v3).heap[k]? = wr.heap[k]? := fun v0 v1 v2 v3 k cur hk => oth4 (fun e => by subst e; rw [hg] at hk; injection hk with hk; injection hk with _ hk; cases hk) v0 v1 v2 v3
      go_simp
      refine hK.out _ _ ⟨_, _, _, _, _, _, _, _, _, _, _, _, _, _, _, _, _, _, rfl, ?_⟩
      exact { hJ with bl := b4 hJ.bl hg1 _ _ _ _, o18 := fun _ => ⟨hd.2.1, hd.1⟩, f3 := fun _ b => (by rw [show L 6 = true from l6] at b; cases b), f6 := fun _ b => (by rw [show L 7 = true from l7] at b; cases b), f7 := fun _ b => (by cases b), f15 := fun _ b => (by cases b), f18 := fun _ => ⟨ao, n0, cap, X, Y, bo, m0, bc, X', Y', rfl, rfl, (hT.own.grown hb3).other (oth _ _ _ _), (hT'.own.grown hb3').other (oth _ _ _ _), hT.le, hT'.le, hT.rg, hT'.rg, hT.ing, hT'.ing⟩, f17 := fun _ => ⟨g5, rfl, hg1, by simp; exact hg2, set4 hg _ _ _ _⟩ }
  case hend =>
    intro L a wr hall hI
    obtain ⟨u5, u6, u7, u8, u9, u10, u11, u12, u13, u14, u15, u16, u17, u18, u19, u20, u21, u22, rfl, hJ⟩ := hI
    have l : ∀ i, i < 19 → L i = true := fun i hi => List.all_eq_true.1 hall i (by simpa using hi)
    have hs : w1.heap.size = w.heap.size + 1 + 1 + 1 := by rw [hW.out]; simp
    have h0 : w1.heap[w.heap.size]? = some (.cells #[.bool p0, .bool p1, .slice ra rn rc, .slice sa sn sc] 25 (0, 0)) := by rw [hW.out]; exact blk_alloc (blk_alloc (blk_new _ _) _) _
    have h1 : w1.heap[w.heap.size + 1]? = some (.cells #[.bool q0, .bool q1, .slice ra' rn' rc', .slice sa' sn' sc'] 25 (0, 0)) := by rw [hW.out]; exact blk_alloc (blk_new' _ (by simp)) _
    have h2 : w1.heap[w.heap.size + 1 + 1]? = some (.cells #[.bool false, .bool false, .slice none 0 0, .slice none 0 0] 25 (0, 0)) := by rw [hW.out]; exact blk_new' _ (by simp)
    have k0 := (hJ.bl.block w.heap.size (by omega)).trans h0
    have k1 := (hJ.bl.block (w.heap.size + 1) (by omega)).trans h1
    have k2 := (hJ.bl.block (w.heap.size + 1 + 1) (by omega)).trans h2
    obtain ⟨xa, xn, xc, X, Y, ya, yn, yc, X', Y', rfl, rfl, r1, r2, n1, n2, e1, e2, e3, e4⟩ := hJ.f18 (l 18 (by omega))
    obtain ⟨g5, rfl, hg1, hg2, hg⟩ := hJ.f17 (l 17 (by omega))
    rw [l 18 (by omega)] at hg
    have hg : wr.heap[g5]? = some (.cells #[.bool false, .bool false, .slice xa xn xc, .slice ya yn yc] 25 (0, 0)) := hg
    have a0 : wr.cell? ⟨w.heap.size, 0, none⟩ = some (.bool p0) := blk_cell k0 0
    have a1 : wr.cell? ⟨w.heap.size, 1, none⟩ = some (.bool p1) := blk_cell k0 1
    have b0 : wr.cell? ⟨w.heap.size + 1, 0, none⟩ = some (.bool q0) := blk_cell k1 0
    have b1 : wr.cell? ⟨w.heap.size + 1, 1, none⟩ = some (.bool q1) := blk_cell k1 1
    have c0 : wr.cell? ⟨g5, 0, none⟩ = some (.bool false) := blk_cell hg 0
    have c1 : wr.cell? ⟨g5, 1, none⟩ = some (.bool false) := blk_cell hg 1
    have c2 : wr.cell? ⟨g5, 2, none⟩ = some (.slice xa xn xc) := blk_cell hg 2
    have c3 : wr.cell? ⟨g5, 3, none⟩ = some (.slice ya yn yc) := blk_cell hg 3
    have z0 := blk_free hg 0
    have z1 := blk_free hg 1
    have y0 := blk_free k2 0
    have y1 := blk_free k2 1
    have y2 := blk_free k2 2
    have y3 := blk_free k2 3
    have x0 : wr.cell? ⟨w.heap.size + 1 + 1, 0, none⟩ = some (.bool false) := blk_cell k2 0
    have x1 : wr.cell? ⟨w.heap.size + 1 + 1, 1, none⟩ = some (.bool false) := blk_cell k2 1
    have x2 : wr.cell? ⟨w.heap.size + 1 + 1, 2, none⟩ = some (.slice none 0 0) := blk_cell k2 2
    have x3 : wr.cell? ⟨w.heap.size + 1 + 1, 3, none⟩ = some (.slice none 0 0) := blk_cell k2 3
    have hne : g5 ≠ w.heap.size := by omega
    have hne1 : g5 ≠ w.heap.size + 1 := by omega
    have hne2 : g5 ≠ w.heap.size + 1 + 1 := by omega
    have hbw : Below w.heap.size w wr := by
      have e : Below w.heap.size w w1 := by rw [hW.out]; exact (((Below.refl _ _).alloc (Nat.le_refl _) _).alloc (by simp) _).alloc (by simp; omega) _
      exact e.trans (hJ.bl.mono e.size)
    have hG5 := hidI hg
    have hK2 := hidI k2
    have hx : ∀ (u0 u1 v0 v1 v2 v3 : Value) (k : Nat) (cur : Array Value), wr.heap[k]? = some (Obj.cells cur 63 (0, 0)) → ((((((wr.setCell ⟨g5, 0, none⟩ u0).setCell ⟨g5, 1, none⟩ u1).setCell ⟨w.heap.size + 1 + 1, 0, none⟩ v0).setCell ⟨w.heap.size + 1 + 1, 1, none⟩ v1).setCell ⟨w.heap.size + 1 + 1, 2, none⟩ v2).setCell ⟨w.heap.size + 1 + 1, 3, none⟩ v3).heap[k]? = wr.heap[k]? := fun u0 u1 v0 v1 v2 v3 k cur hk => by
      have n1 : g5 ≠ k := fun e => by subst e; rw [hG5.out] at hk; injection hk with hk; injection hk with _ hk; cases hk
      have n2 : w.heap.size + 1 + 1 ≠ k := fun e => by subst e; rw [hK2.out] at hk; injection hk with hk; injection hk with _ hk; cases hk
      exact (oth4 n2 _ _ _ _).trans ((blk_other (by exact n1) _).trans (blk_other (by exact n1) _))
    have hX := hidI hx
    have hB6 : ∀ (u0 u1 v0 v1 v2 v3 : Value), Below w.heap.size w ((((((wr.setCell ⟨g5, 0, none⟩ u0).setCell ⟨g5, 1, none⟩ u1).setCell ⟨w.heap.size + 1 + 1, 0, none⟩ v0).setCell ⟨w.heap.size + 1 + 1, 1, none⟩ v1).setCell ⟨w.heap.size + 1 + 1, 2, none⟩ v2).setCell ⟨w.heap.size + 1 + 1, 3, none⟩ v3) := fun u0 u1 v0 v1 v2 v3 =>
      b4 ((hbw.setCell (p := ⟨g5, 0, none⟩) (by show w.heap.size ≤ g5; omega) _).setCell (p := ⟨g5, 1, none⟩) (by show w.heap.size ≤ g5; omega) _) (by omega) _ _ _ _
    have hB := hidI hB6
    clear hx hB6 hg
    have hJ2 := hidI hJ
    clear hJ hall k0 k1 k2 h0 h1 h2
    cases p0 <;> cases p1
    · go_wp2_with fail
      exact bodyPost_ret (v := .agg #[.bool q0, .bool q1, .slice xa xn xc, .slice ya yn yc]) (by simp [results, Try.results15, go_sem, x0, x1, x2, x3, hne2]) rfl ⟨xa, xn, xc, ya, yn, yc, rfl, X, Y, X', Y', ⟨(r1.other (hX.out _ _ _ _ _ _)).row, (r2.other (hX.out _ _ _ _ _ _)).row, n1, n2⟩, e1, e2, e3, e4, hB.out _ _ _ _ _ _⟩
    · go_wp2_with fail
      exact bodyPost_ret (v := .agg #[.bool q0, .bool true, .slice xa xn xc, .slice ya yn yc]) (by simp [results, Try.results15, go_sem, x0, x1, x2, x3, hne2]) rfl ⟨xa, xn, xc, ya, yn, yc, rfl, X, Y, X', Y', ⟨(r1.other (hX.out _ _ _ _ _ _)).row, (r2.other (hX.out _ _ _ _ _ _)).row, n1, n2⟩, e1, e2, e3, e4, hB.out _ _ _ _ _ _⟩
    · go_wp2_with fail
      exact bodyPost_ret (v := .agg #[.bool true, .bool q1, .slice xa xn xc, .slice ya yn yc]) (by simp [results, Try.results15, go_sem, x0, x1, x2, x3, hne2]) rfl ⟨xa, xn, xc, ya, yn, yc, rfl, X, Y, X', Y', ⟨(r1.other (hX.out _ _ _ _ _ _)).row, (r2.other (hX.out _ _ _ _ _ _)).row, n1, n2⟩, e1, e2, e3, e4, hB.out _ _ _ _ _ _⟩
    · go_wp2_with fail
      exact bodyPost_ret (v := .agg #[.bool true, .bool true, .slice xa xn xc, .slice ya yn yc]) (by simp [results, Try.results15, go_sem, x0, x1, x2, x3, hne2]) rfl ⟨xa, xn, xc, ya, yn, yc, rfl, X, Y, X', Y', ⟨(r1.other (hX.out _ _ _ _ _ _)).row, (r2.other (hX.out _ _ _ _ _ _)).row, n1, n2⟩, e1, e2, e3, e4, hB.out _ _ _ _ _ _⟩
end Go.Proofs.Ytkhjfcbloahjeaa
namespace Go.Proofs.Ytkhjfcbloahjeaa
open Go.RowKit Go.Sx
theorem inG_cat (n m : Nat) (F T G U : Nat → Int) (x : Int) : inG (catF n F G) (catF n T U) (n + m) x = (inG F T n x || inG G U m x) := by
  rw [Bool.eq_iff_iff, Bool.or_eq_true, inG_iff, inG_iff, inG_iff]
  constructor
  · rintro ⟨i, hi, h1, h2⟩
    by_cases hin : i < n
    · simp only [catF, hin, if_true] at h1 h2; exact .inl ⟨i, hin, h1, h2⟩
    · simp only [catF, hin, if_false] at h1 h2; exact .inr ⟨i - n, by omega, h1, h2⟩
  · rintro (⟨i, hi, h1, h2⟩ | ⟨i, hi, h1, h2⟩)
    · exact ⟨i, by omega, by simp only [catF, hi, if_true]; exact h1, by simp only [catF, hi, if_true]; exact h2⟩
    · have hin : ¬ (n + i < n) := by omega
      exact ⟨n + i, by omega, by simp only [catF, hin, if_false, Nat.add_sub_cancel_left]; exact h1, by simp only [catF, hin, if_false, Nat.add_sub_cancel_left]; exact h2⟩
/-- More is secret, more is alike. -/
theorem low_mono {x y : ByteArray} {s s' : Nat → Bool} (hs : ∀ i, s i = true → s' i = true) (h : lowB x y s = true) : lowB x y s' = true := by
  unfold lowB at h ⊢
  rw [Bool.and_eq_true, List.all_eq_true] at h ⊢
  refine ⟨fun i hi => ?_, h.2⟩
  have := h.1 i hi
  rw [Bool.or_eq_true] at this ⊢
  exact this.imp id (hs i)
theorem low_refl (x : ByteArray) (s : Nat → Bool) : lowB x x s = true := by
  unfold lowB; simp
theorem low_symm (x y : ByteArray) (s : Nat → Bool) : lowB x y s = lowB y x s := by
  unfold lowB
  rw [Nat.min_comm x.size y.size, show decide (x.size = y.size) = decide (y.size = x.size) from decide_eq_decide.2 ⟨Eq.symm, Eq.symm⟩]
  congr 2
  funext i
  congr 1
  exact decide_eq_decide.2 ⟨Eq.symm, Eq.symm⟩
theorem eqR_symm (A B : Nat → Int) (n m : Nat) : eqR A B n m = eqR B A m n := by
  unfold eqR
  by_cases h : n = m
  · subst h
    congr 2
    funext k
    exact decide_eq_decide.2 ⟨Eq.symm, Eq.symm⟩
  · have h' : ¬ m = n := fun e => h e.symm
    simp [h, h']
theorem eqR_refl (A : Nat → Int) (n : Nat) : eqR A A n n = true := by unfold eqR; simp
theorem alk_symm (p0 p1 : Bool) (rn sn : Nat) (F T F' T' : Nat → Int) (pa : ByteArray) (na : Nat) (va ma : ByteArray) (A : Nat → Int) (pb : ByteArray) (nb : Nat) (vb mb : ByteArray) (B : Nat → Int) :
    alkB p0 p1 rn sn F T F' T' pa na va ma A pb nb vb mb B = alkB p0 p1 rn sn F T F' T' pb nb vb mb B pa na va ma A := by
  unfold alkB
  rw [eqR_symm A B na nb, low_symm pa pb, low_symm ma mb, low_symm va vb, Bool.and_assoc (mayPB rn sn F T F' T'), Bool.and_comm (maySB pa na va ma A), ← Bool.and_assoc (mayPB rn sn F T F' T'), show decide (fr pa = fr pb) = decide (fr pb = fr pa) from decide_eq_decide.2 ⟨Eq.symm, Eq.symm⟩]
theorem alk_refl {p0 p1 : Bool} {rn sn : Nat} {F T F' T' : Nat → Int} {pa : ByteArray} {na : Nat} {va ma : ByteArray} {A : Nat → Int} (h1 : mayPB rn sn F T F' T' = true) (h2 : maySB pa na va ma A = true) :
    alkB p0 p1 rn sn F T F' T' pa na va ma A pa na va ma A = true := by
  unfold alkB
  rw [h1, h2, eqR_refl, low_refl, low_refl, low_refl]
  simp
theorem alk_mono {p0 p1 q0 q1 : Bool} {rn sn xn yn : Nat} {F T F' T' X Y X' Y' : Nat → Int} {pa : ByteArray} {na : Nat} {va ma : ByteArray} {A : Nat → Int} {pb : ByteArray} {nb : Nat} {vb mb : ByteArray} {B : Nat → Int}
    (hm : mayPB xn yn X Y X' Y' = true) (hs : ∀ (k : Int) (i : Nat), secB p0 p1 rn sn F T F' T' k (i : Int) = true → secB q0 q1 xn yn X Y X' Y' k (i : Int) = true)
    (h : alkB p0 p1 rn sn F T F' T' pa na va ma A pb nb vb mb B = true) : alkB q0 q1 xn yn X Y X' Y' pa na va ma A pb nb vb mb B = true := by
  unfold alkB at h ⊢
  simp only [Bool.and_eq_true] at h ⊢
  obtain ⟨⟨⟨⟨⟨⟨⟨_, h2⟩, h3⟩, h4⟩, h5⟩, h6⟩, h7⟩, h8⟩ := h
  refine ⟨⟨⟨⟨⟨⟨⟨hm, h2⟩, h3⟩, h4⟩, h5⟩, low_mono (fun i hi => ?_) h6⟩, low_mono (fun i hi => hs 1 i hi) h7⟩, low_mono (fun i hi => hs 2 i hi) h8⟩
  have e : ((i : Int) % 2) = ((i % 2 : Nat) : Int) := by omega
  rw [e] at hi ⊢
  exact hs 0 _ hi
end Go.Proofs.Ytkhjfcbloahjeaa
namespace Go.Proofs.Ytkhjfcbloahjeaa
open Go.RowKit Go.Sx
theorem wi_all' {F T : Nat → Int} {n : Nat} {s : Int} (h : wiB F T n s = true) : rgB F T n = true ∧ ∀ i, i < n → T i < s := by
  unfold wiB at h
  rw [Bool.and_eq_true, List.all_eq_true] at h
  exact ⟨h.2, fun i hi => by simpa using h.1 i (by simpa using hi)⟩
theorem wi_of {F T : Nat → Int} {n : Nat} {s : Int} (h : rgB F T n = true) (h' : ∀ i, i < n → T i < s) : wiB F T n s = true := by
  unfold wiB
  rw [Bool.and_eq_true, List.all_eq_true]
  exact ⟨fun i hi => by simpa using h' i (by simpa using hi), h⟩
theorem wi_join {F T G U X Y : Nat → Int} {n m k : Nat} {s : Int} (h1 : wiB F T n s = true) (h2 : wiB G U m s = true) (hr : rgB X Y k = true) (hi : ∀ x : Nat, inG X Y k (x : Int) = inG (catF n F G) (catF n T U) (n + m) (x : Int)) : wiB X Y k s = true := by
  refine wi_of hr fun i hik => ?_
  have hg := rgB_get hr i hik
  obtain ⟨x, hx⟩ : ∃ x : Nat, Y i = (x : Int) := ⟨(Y i).toNat, by omega⟩
  have h := hi x
  rw [inG_cat, show inG X Y k (x : Int) = true from inG_iff.2 ⟨i, hik, by omega, by omega⟩] at h
  have h' := h.symm
  rw [Bool.or_eq_true, inG_iff, inG_iff] at h'
  rcases h' with ⟨j, hj, _, h3⟩ | ⟨j, hj, _, h3⟩
  · have := (wi_all' h1).2 j hj; omega
  · have := (wi_all' h2).2 j hj; omega
theorem may_join {rn sn rn' sn' xn yn : Nat} {F T F' T' G U G' U' X Y X' Y' : Nat → Int} (h1 : mayPB rn sn F T F' T' = true) (h2 : mayPB rn' sn' G U G' U' = true) (e1 : rgB X Y xn = true) (e2 : rgB X' Y' yn = true)
    (e3 : ∀ x : Nat, inG X Y xn (x : Int) = inG (catF rn F G) (catF rn T U) (rn + rn') (x : Int)) (e4 : ∀ x : Nat, inG X' Y' yn (x : Int) = inG (catF sn F' G') (catF sn T' U') (sn + sn') (x : Int)) : mayPB xn yn X Y X' Y' = true := by
  unfold mayPB at h1 h2 ⊢
  rw [Bool.and_eq_true] at h1 h2 ⊢
  exact ⟨wi_join h1.1 h2.1 e1 e3, wi_join h1.2 h2.2 e2 e4⟩
theorem sec_join {p0 p1 q0 q1 : Bool} {rn sn rn' sn' xn yn : Nat} {F T F' T' G U G' U' X Y X' Y' : Nat → Int}
    (e3 : ∀ x : Nat, inG X Y xn (x : Int) = inG (catF rn F G) (catF rn T U) (rn + rn') (x : Int)) (e4 : ∀ x : Nat, inG X' Y' yn (x : Int) = inG (catF sn F' G') (catF sn T' U') (sn + sn') (x : Int)) (k : Int) (i : Nat)
    (h : secB p0 p1 rn sn F T F' T' k (i : Int) = true) : secB (p0 || q0) (p1 || q1) xn yn X Y X' Y' k (i : Int) = true := by
  unfold secB at h ⊢
  by_cases k0 : k = 0
  · rw [if_pos k0] at h ⊢
    rw [Bool.or_eq_true, Bool.and_eq_true, Bool.and_eq_true] at h ⊢
    rcases h with ⟨h, rfl⟩ | ⟨h, rfl⟩
    · exact .inl ⟨h, by simp⟩
    · exact .inr ⟨h, by simp⟩
  · rw [if_neg k0] at h ⊢
    by_cases k1 : k = 1
    · rw [if_pos k1] at h ⊢
      rw [e3, inG_cat, h]; rfl
    · rw [if_neg k1] at h ⊢
      by_cases k2 : k = 2
      · rw [if_pos k2] at h ⊢
        rw [e4, inG_cat, h]; rfl
      · rw [if_neg k2] at h; cases h
/-- More is secret in the joined policy, so what is alike stays alike. -/
theorem alk_join {p0 p1 q0 q1 : Bool} {rn sn rn' sn' xn yn : Nat} {F T F' T' G U G' U' X Y X' Y' : Nat → Int} {pa : ByteArray} {na : Nat} {va ma : ByteArray} {A : Nat → Int} {pb : ByteArray} {nb : Nat} {vb mb : ByteArray} {B : Nat → Int}
    (h1 : mayPB rn sn F T F' T' = true) (h2 : mayPB rn' sn' G U G' U' = true) (e1 : rgB X Y xn = true) (e2 : rgB X' Y' yn = true)
    (e3 : ∀ x : Nat, inG X Y xn (x : Int) = inG (catF rn F G) (catF rn T U) (rn + rn') (x : Int)) (e4 : ∀ x : Nat, inG X' Y' yn (x : Int) = inG (catF sn F' G') (catF sn T' U') (sn + sn') (x : Int))
    (h : alkB p0 p1 rn sn F T F' T' pa na va ma A pb nb vb mb B = true) : alkB (p0 || q0) (p1 || q1) xn yn X Y X' Y' pa na va ma A pb nb vb mb B = true :=
  alk_mono (may_join h1 h2 e1 e2 e3 e4) (fun k i hi => sec_join e3 e4 k i hi) h
end Go.Proofs.Ytkhjfcbloahjeaa
namespace Go.Proofs.Ytkhjfcbloahjeaa
open Go.RowKit Go.Sx
theorem bt_ext {x y : ByteArray} (hs : x.size = y.size) (h : ∀ i, i < x.size → bt x i = bt y i) : x = y := by
  apply ByteArray.ext
  apply Array.ext hs
  intro i h1 h2
  have := h i h1
  unfold bt at this
  rw [Array.getD_eq_getD_getElem?, Array.getD_eq_getD_getElem?, Array.getElem?_eq_getElem h1, Array.getElem?_eq_getElem h2, Option.getD_some, Option.getD_some] at this
  exact UInt8.toNat_inj.1 (by omega)
theorem eqS_iff (x y : ByteArray) : eqS x y = true ↔ x = y := by
  unfold eqS
  rw [beq_iff_eq]
  constructor
  · intro h
    apply ByteArray.ext
    have e : ∀ z : ByteArray, z.toList = z.data.toList := ByteArray.toList_eq
    rw [e, e] at h
    exact Array.toList_inj.1 h
  · rintro rfl; rfl
theorem eqS_self (x : ByteArray) : eqS x x = true := (eqS_iff x x).2 rfl
theorem low_none (x y : ByteArray) (s : Nat → Bool) (hs : ∀ i, s i = false) : lowB x y s = eqS x y := by
  rw [Bool.eq_iff_iff, eqS_iff]
  constructor
  · intro h
    unfold lowB at h
    rw [Bool.and_eq_true, List.all_eq_true, decide_eq_true_iff] at h
    refine bt_ext h.2 fun k hk => ?_
    have := h.1 k (by simp; omega)
    rw [hs k] at this
    simpa using this
  · rintro rfl; exact low_refl x s
theorem sec_none (F T F' T' : Nat → Int) (k i : Int) : secB false false 0 0 F T F' T' k i = false := by
  unfold secB
  split
  · simp
  · split
    · rfl
    · split <;> rfl
theorem alk_none {F T F' T' : Nat → Int} {pa : ByteArray} {na : Nat} {va ma : ByteArray} {A : Nat → Int} {pb : ByteArray} {nb : Nat} {vb mb : ByteArray} {B : Nat → Int} (h1 : maySB pa na va ma A = true) (h2 : maySB pb nb vb mb B = true) :
    alkB false false 0 0 F T F' T' pa na va ma A pb nb vb mb B = sameB pa na va ma A pb nb vb mb B := by
  unfold alkB sameB
  rw [h1, h2, low_none pa pb _ (fun i => sec_none _ _ _ _ _ _), low_none ma mb _ (fun i => sec_none _ _ _ _ _ _), low_none va vb _ (fun i => sec_none _ _ _ _ _ _), show mayPB 0 0 F T F' T' = true from rfl]
  cases e : eqS pa pb
  · simp
  · rw [(eqS_iff pa pb).1 e]
    cases eqR A B na nb <;> cases eqS va vb <;> cases eqS ma mb <;> simp
end Go.Proofs.Ytkhjfcbloahjeaa
namespace Go.Proofs.Ytkhjfcbloahjeaa
open Go.RowKit Go.Sx
open Go
def fcells : Value → Array Value
  | .agg cs => cs
  | _ => #[]
/-- A block of its own, filled or not. -/
def Slot (wr : World) (b : Nat) (u : Value) (t : TypeId) (z : Array Value) (s : Bool) (v : Value) : Prop := ∃ g, u = .pointer (some ⟨g, 0, none⟩) ∧ b ≤ g ∧ g < wr.heap.size ∧ wr.heap[g]? = some (.cells (if s then fcells v else z) t (0, 0))
theorem Slot.below {wr wr' : World} {b : Nat} {u : Value} {t : TypeId} {z : Array Value} {s : Bool} {v : Value} (h : Slot wr b u t z s v) (hb : Below wr.heap.size wr wr') : Slot wr' b u t z s v := by
  obtain ⟨g, e, h1, h2, h3⟩ := h
  exact ⟨g, e, h1, Nat.lt_of_lt_of_le h2 hb.size, (hb.block g h2).trans h3⟩
theorem Slot.other {wr wr' : World} {b : Nat} {u : Value} {t : TypeId} {z : Array Value} {s : Bool} {v : Value} (h : Slot wr b u t z s v) (hs : wr.heap.size ≤ wr'.heap.size) (hf : ∀ g, u = .pointer (some ⟨g, 0, none⟩) → wr'.heap[g]? = wr.heap[g]?) : Slot wr' b u t z s v := by
  obtain ⟨g, e, h1, h2, h3⟩ := h
  exact ⟨g, e, h1, Nat.lt_of_lt_of_le h2 hs, (hf g e).trans h3⟩
theorem Slot.noval {wr : World} {b : Nat} {u : Value} {t : TypeId} {z : Array Value} {s : Bool} {v v' : Value} (h : Slot wr b u t z s v) (hs : s = false) : Slot wr b u t z s v' := by
  subst hs
  exact h
theorem Slot.new (wr : World) (b : Nat) (t : TypeId) (z : Array Value) (s : Bool) (v : Value) (hb : b ≤ wr.heap.size) (hs : s = false) : Slot (wr.alloc (.cells z t)) b (.pointer (some ⟨wr.heap.size, 0, none⟩)) t z s v := by
  subst hs
  exact ⟨_, rfl, hb, by simp, blk_new _ _⟩
theorem Slot.ne_new {wr : World} {b : Nat} {u : Value} {t : TypeId} {z : Array Value} {s : Bool} {v : Value} (h : Slot wr b u t z s v) : u ≠ .pointer (some ⟨wr.heap.size, 0, none⟩) := by
  rintro rfl
  obtain ⟨g, e, h1, h2, h3⟩ := h
  cases e
  omega
abbrev Z25 : Array Value := #[.bool false, .bool false, .slice none 0 0, .slice none 0 0]
abbrev Z28 : Array Value := #[.string ⟨#[]⟩, .slice none 0 0, .string ⟨#[]⟩, .string ⟨#[]⟩]
structure J3 (w w1 : World) (p0 p1 : Bool) (ra : Option Addr) (rn rc : Nat) (sa : Option Addr) (sn sc : Nat) (q0 q1 : Bool) (ra' : Option Addr) (rn' rc' : Nat) (sa' : Option Addr) (sn' sc' : Nat) (pa : ByteArray) (aa : Option Addr) (na ca : Nat) (va ma : ByteArray) (pb : ByteArray) (ab : Option Addr) (nb cb : Nat) (vb mb : ByteArray) (L : Nat → Bool) (wr : World) (u3 u4 u5 u6 u8 u9 u10 u11 u12 u13 u14 u15 u16 u17 u18 u19 : Value) : Prop where
  bl : Below w1.heap.size w1 wr
  o8 : L 8 = true → L 5 = true
  o11 : L 11 = true → L 8 = true
  o16 : L 16 = true → L 2 = true ∧ L 5 = true ∧ L 8 = true ∧ L 11 = true ∧ L 12 = true ∧ L 13 = true ∧ L 14 = true ∧ L 15 = true
  o17 : L 17 = true → L 16 = true
  o18 : L 18 = true → L 17 = true
  o19 : L 19 = true → L 18 = true
  f0 : L 0 = true → u8 = .pointer (some ⟨w.heap.size, 0, none⟩)
  f1 : L 1 = true → u9 = poV p0 p1 ra rn rc sa sn sc
  f2 : L 2 = true → u10 = poV p0 p1 ra (min rn 20) rc sa (min sn 20) sc
  f3 : L 3 = true → u11 = .pointer (some ⟨w.heap.size, 4, none⟩)
  f4 : L 4 = true → u12 = poV q0 q1 ra' rn' rc' sa' sn' sc'
  f5 : L 5 = true → u13 = poV q0 q1 ra' (min rn' 20) rc' sa' (min sn' 20) sc'
  f6 : L 6 = true → u14 = .pointer (some ⟨w.heap.size, 8, none⟩)
  f7 : L 7 = true → u15 = scV pa aa na ca va ma
  f8 : L 8 = true → ∃ p n s m, u16 = scV p aa n ca s m ∧ p.size ≤ 1201 ∧ n ≤ 20 ∧ n ≤ na ∧ s.size ≤ 8193 ∧ m.size ≤ 2049
  f9 : L 9 = true → u17 = .pointer (some ⟨w.heap.size, 12, none⟩)
  f10 : L 10 = true → u18 = scV pb ab nb cb vb mb
  f11 : L 11 = true → ∃ p n s m, u19 = scV p ab n cb s m ∧ p.size ≤ 1201 ∧ n ≤ 20 ∧ n ≤ nb ∧ s.size ≤ 8193 ∧ m.size ≤ 2049
  f12 : L 12 = true → Slot wr w1.heap.size u3 25 Z25 (L 16) u10
  f13 : L 13 = true → Slot wr w1.heap.size u4 25 Z25 (L 17) u13
  f14 : L 14 = true → Slot wr w1.heap.size u5 28 Z28 (L 18) u16
  f15 : L 15 = true → Slot wr w1.heap.size u6 28 Z28 (L 19) u19
  d1 : L 12 = true → L 13 = true → u3 ≠ u4
  d2 : L 14 = true → L 15 = true → u5 ≠ u6
section
variable {w w1 : World} {p0 p1 : Bool} {ra : Option Addr} {rn rc : Nat} {sa : Option Addr} {sn sc : Nat} {q0 q1 : Bool} {ra' : Option Addr} {rn' rc' : Nat} {sa' : Option Addr} {sn' sc' : Nat} {pa : ByteArray} {aa : Option Addr} {na ca : Nat} {va ma : ByteArray} {pb : ByteArray} {ab : Option Addr} {nb cb : Nat} {vb mb : ByteArray} {L : Nat → Bool} {wr wr' : World} {u3 u4 u5 u6 u8 u9 u10 u11 u12 u13 u14 u15 u16 u17 u18 u19 : Value}
theorem J3.below (h : J3 w w1 p0 p1 ra rn rc sa sn sc q0 q1 ra' rn' rc' sa' sn' sc' pa aa na ca va ma pb ab nb cb vb mb L wr u3 u4 u5 u6 u8 u9 u10 u11 u12 u13 u14 u15 u16 u17 u18 u19) (hb : Below wr.heap.size wr wr') : J3 w w1 p0 p1 ra rn rc sa sn sc q0 q1 ra' rn' rc' sa' sn' sc' pa aa na ca va ma pb ab nb cb vb mb L wr' u3 u4 u5 u6 u8 u9 u10 u11 u12 u13 u14 u15 u16 u17 u18 u19 :=
  { h with bl := h.bl.trans (hb.mono h.bl.size), f12 := fun a => (h.f12 a).below hb, f13 := fun a => (h.f13 a).below hb, f14 := fun a => (h.f14 a).below hb, f15 := fun a => (h.f15 a).below hb }
theorem J3.late (h : J3 w w1 p0 p1 ra rn rc sa sn sc q0 q1 ra' rn' rc' sa' sn' sc' pa aa na ca va ma pb ab nb cb vb mb L wr u3 u4 u5 u6 u8 u9 u10 u11 u12 u13 u14 u15 u16 u17 u18 u19) (n : L 16 = false) : L 17 = false ∧ L 18 = false ∧ L 19 = false := by
  have e : ∀ {i j : Nat}, (L i = true → L j = true) → L j = false → L i = false := fun h a => Bool.eq_false_iff.2 fun hh => by rw [h hh] at a; cases a
  have a17 := e h.o17 n
  have a18 := e h.o18 a17
  exact ⟨a17, a18, e h.o19 a18⟩
end
/-- Two policies and two scripts in blocks of their own. -/
structure Qua (w wk : World) (g3 g4 g5 g6 : Nat) (p0 p1 : Bool) (ra : Option Addr) (rn rc : Nat) (sa : Option Addr) (sn sc : Nat) (q0 q1 : Bool) (ra' : Option Addr) (rn' rc' : Nat) (sa' : Option Addr) (sn' sc' : Nat) (pa : ByteArray) (aa : Option Addr) (na ca : Nat) (va ma : ByteArray) (pb : ByteArray) (ab : Option Addr) (nb cb : Nat) (vb mb : ByteArray) : Prop where
  P : PoAt wk g3 p0 p1 ra rn rc sa sn sc
  Q : PoAt wk g4 q0 q1 ra' rn' rc' sa' sn' sc'
  A : ScAt wk g5 pa aa na ca va ma
  B : ScAt wk g6 pb ab nb cb vb mb
  bl : Below w.heap.size w wk
theorem Qua.below {w wk wl : World} {g3 g4 g5 g6 : Nat} {p0 p1 : Bool} {ra : Option Addr} {rn rc : Nat} {sa : Option Addr} {sn sc : Nat} {q0 q1 : Bool} {ra' : Option Addr} {rn' rc' : Nat} {sa' : Option Addr} {sn' sc' : Nat} {pa : ByteArray} {aa : Option Addr} {na ca : Nat} {va ma : ByteArray} {pb : ByteArray} {ab : Option Addr} {nb cb : Nat} {vb mb : ByteArray} (h : Qua w wk g3 g4 g5 g6 p0 p1 ra rn rc sa sn sc q0 q1 ra' rn' rc' sa' sn' sc' pa aa na ca va ma pb ab nb cb vb mb) (hb : Below wk.heap.size wk wl) : Qua w wl g3 g4 g5 g6 p0 p1 ra rn rc sa sn sc q0 q1 ra' rn' rc' sa' sn' sc' pa aa na ca va ma pb ab nb cb vb mb :=
  ⟨h.P.below hb, h.Q.below hb, h.A.below hb, h.B.below hb, h.bl.trans (hb.mono h.bl.size)⟩
end Go.Proofs.Ytkhjfcbloahjeaa
