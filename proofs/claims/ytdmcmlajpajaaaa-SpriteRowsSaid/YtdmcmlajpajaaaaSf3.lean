import Derived.Test.YtdmcmlajpajaaaaSf2
namespace Go.Proofs.Ytdmcmlajpajaaaa
open Go.RowKit Go.Sx
theorem cell_one_new (w : World) (x : Value) (t : TypeId) : ∀ j u, [x][j]? = some u → (w.alloc (.cells #[x] t)).cell? ((⟨w.heap.size, 0, none⟩ : Addr).add j) = some u := by
  intro j u hj
  match j, hj with
  | 0, hj => simp at hj; subst hj; simp [Addr.add]
theorem infoI : (Try.prog.info? 3).map (fun i => (i.zero, i.size, i.bytes)) = some (some (.int .i64 0), 1, 8) := by kernel_rfl
/-- Those of the first k that are on the line. -/
def fnd (V : Nat → Int) (line : Int) (t : Bool) (k : Nat) : List Nat := (List.range k).filter fun i => onL (V (4 * i)) line t
def secs (S : Nat → Bool) (k : Nat) : Bool := (List.range k).any fun i => S (4 * i)
def ints (l : List Nat) : List Value := l.map fun (i : Nat) => Value.int .i64 (i : Int)
theorem fnd_succ (V : Nat → Int) (line : Int) (t : Bool) (k : Nat) : fnd V line t (k + 1) = fnd V line t k ++ if onL (V (4 * k)) line t then [k] else [] := by
  unfold fnd
  rw [List.range_succ, List.filter_append]
  cases h : onL (V (4 * k)) line t <;> simp [h]
theorem fnd_le (V : Nat → Int) (line : Int) (t : Bool) (k : Nat) : (fnd V line t k).length ≤ k := by
  unfold fnd; exact Nat.le_trans (List.length_filter_le _ _) (by simp)
theorem secs_succ (S : Nat → Bool) (k : Nat) : secs S (k + 1) = (secs S k || S (4 * k)) := by
  unfold secs; rw [List.range_succ, List.any_append]; simp
theorem Find_no (ao : Option Addr) (n cap : Nat) (line : Int) (t : Bool) (w : World) (h0 : mayB n 0 line = false) :
    Calls Try.prog 10 #[.slice ao n cap, .int .i64 line, .bool t] w fun e w' => e = .returned (.tuple #[.slice none 0 0, .bool false, .bool false, .int .i64 1]) ∧ Below w.heap.size w w' := by
  have H := hidI h0; clear h0
  go_enter Try.func10, Try.ntmps10
  go_wp2_with (go_at_call 23; refine (may_any _ _ _ _ _ _).mono ?_; rw [H.out]; rintro e w' ⟨rfl, rfl⟩)
  refine bodyPost_ret (v := .tuple #[.slice none 0 0, .bool false, .bool false, .int .i64 1]) (by simp [results, Try.results10, go_sem]) rfl ⟨rfl, ((Below.refl _ _).alloc (Nat.le_refl _) _).alloc (by simp) _⟩
theorem alloc_last (w : World) (o : Obj) {i : Nat} (h : i = w.heap.size) {hi : i < (w.alloc o).heap.size} : (w.alloc o).heap[i] = o := by
  subst h
  show (w.heap.push o)[w.heap.size]'(by simp) = o
  simp
/-- A slice of numbers that the call owns, as others read it. -/
theorem own_row {w : World} {base e : Nat} {g n cap : Nat} {l : List Nat} (h : w.ownsRow base e 1 (.slice (some ⟨g, 0, none⟩) n cap) n (ints l)) (q m : Nat) (hm : m ≤ n) : RowAt (w.drewN q) (some ⟨g, 0, none⟩) m 1 (fun i _ => .int .i64 (l.getD i 0)) := by
  intro i hi
  obtain ⟨hlen, hv⟩ := h
  rcases hv with ⟨hv, _⟩ | ⟨g', cp, cur, hv, hg, hh, hnc, hcm, hcs, htk⟩
  · cases hv
  · cases hv
    refine ⟨g, 0, rfl, lt_of_block hh, fun j hj => ?_⟩
    obtain rfl : j = 0 := by omega
    simp only [ints, List.length_map] at hlen
    have hc : cur[i]? = some (.int .i64 ((l.getD i 0 : Nat) : Int)) := by
      have h1 : (cur.toList.take (n * 1))[i]? = cur[i]? := by rw [List.getElem?_take_of_lt (by omega), Array.getElem?_toList]
      rw [← h1, htk, ints, List.getElem?_map, List.getElem?_eq_getElem (by omega)]
      simp [List.getD_eq_getElem?_getD, List.getElem?_eq_getElem (show i < l.length by omega)]
    show w.cell? _ = _
    simp [World.cell?, hh, hc]
/-- What the loop of Find keeps. -/
structure FR (w wr : World) (V : Nat → Int) (S : Nat → Bool) (line : Int) (t : Bool) (k : Nat) (v : Value) : Prop where
  own : wr.ownsRow (w.heap.size + 1 + 1 + 1) 3 1 v (fnd V line t k).length (ints (fnd V line t k))
  S : wr.heap[w.heap.size + 1 + 1]? = some (.cells #[.bool (secs S k)] 4 (0, 0))
  L : wr.cell? ⟨w.heap.size, 0, none⟩ = some (.int .i64 line)
  T : wr.cell? ⟨w.heap.size + 1, 0, none⟩ = some (.bool t)
  bl : Below w.heap.size w wr
theorem same_cell {w w' : World} (h : Same w w') (a : Addr) : w'.cell? a = w.cell? a := by simp [World.cell?, h.1]
theorem same_below {B : Nat} {a w w' : World} (h : Same w w') (hb : Below B a w) : Below B a w' := ⟨h.2.1.trans hb.os, h.2.2.1.trans hb.tape, h.2.2.2.trans hb.output, by rw [h.1]; exact hb.size, fun k hk => by rw [h.1]; exact hb.block k hk⟩
theorem same_own {w w' : World} (h : Same w w') {b e s n : Nat} {v : Value} {xs : List Value} (ho : w.ownsRow b e s v n xs) : w'.ownsRow b e s v n xs := by
  unfold World.ownsRow; rw [h.1]; exact ho
/-- Behind the closure. -/
theorem FR.clos {w wr w' : World} {V : Nat → Int} {S : Nat → Bool} {line : Int} {t : Bool} {k : Nat} {v : Value} (h : FR w wr V S line t k v) (Q : Same (wr.setCell ⟨w.heap.size + 1 + 1, 0, none⟩ (.bool (secs S k || S (4 * k)))) w') :
    w'.ownsRow (w.heap.size + 1 + 1 + 1) 3 1 v (fnd V line t k).length (ints (fnd V line t k)) ∧ w'.heap[w.heap.size + 1 + 1]? = some (.cells #[.bool (secs S (k + 1))] 4 (0, 0)) ∧ w'.cell? ⟨w.heap.size, 0, none⟩ = some (.int .i64 line) ∧
      w'.cell? ⟨w.heap.size + 1, 0, none⟩ = some (.bool t) ∧ Below w.heap.size w w' := by
  refine ⟨same_own Q (ownsRow_setCell_below h.own (by simp) _), ?_, ?_, ?_, same_below Q (h.bl.setCell (by simp; omega) _)⟩
  · rw [Q.1, secs_succ]; exact one_setCell h.S
  · rw [same_cell Q]; exact (World.cell?_setCell_other _ _ _ _ (by intro e; simp at e)).trans h.L
  · rw [same_cell Q]; exact (World.cell?_setCell_other _ _ _ _ (by intro e; simp at e)).trans h.T
theorem FR.miss {w wr w' : World} {V : Nat → Int} {S : Nat → Bool} {line : Int} {t : Bool} {k : Nat} {v : Value} (h : FR w wr V S line t k v) (Q : Same (wr.setCell ⟨w.heap.size + 1 + 1, 0, none⟩ (.bool (secs S k || S (4 * k)))) w') (hm : onL (V (4 * k)) line t = false) : FR w w' V S line t (k + 1) v := by
  obtain ⟨a, b, c, d, e⟩ := h.clos Q
  refine ⟨?_, b, c, d, e⟩
  rw [fnd_succ, hm]
  simpa using a
theorem FR.hit {w wr w' w1 : World} {V : Nat → Int} {S : Nat → Bool} {line : Int} {t : Bool} {k : Nat} {v v' : Value} {o : Obj} (h : FR w wr V S line t k v) (Q : Same (wr.setCell ⟨w.heap.size + 1 + 1, 0, none⟩ (.bool (secs S k || S (4 * k)))) w') (hm : onL (V (4 * k)) line t = true)
    (ho : w1.ownsRow (w.heap.size + 1 + 1 + 1) 3 1 v' ((fnd V line t k).length + 1) (ints (fnd V line t k) ++ [.int .i64 (k : Int)])) (hg : (w'.alloc o).grownBy w1 v.ownBlock) : FR w w1 V S line t (k + 1) v' := by
  obtain ⟨a, b, c, d, e⟩ := h.clos Q
  have hb := lt_of_block b
  have hne : ∀ j, j < w.heap.size + 1 + 1 + 1 → some j ≠ v.ownBlock := fun j hj he => by have := a.lt j he.symm; omega
  refine ⟨?_, ?_, ?_, ?_, (e.alloc (by omega) o).grown hg (by simp; omega) (fun j hj => by have := (a.lt j hj).1; omega)⟩
  · rw [fnd_succ, hm]; simpa [ints] using ho
  · rw [hg.block _ (by simp; omega) (hne _ (by omega)), Below.heap_alloc _ _ _ hb]; exact b
  · exact hg.cell ((World.cell?_alloc_past _ _ _ (by show w.heap.size < w'.heap.size; omega)).trans c) (hne w.heap.size (by omega))
  · exact hg.cell ((World.cell?_alloc_past _ _ _ (by show w.heap.size + 1 < w'.heap.size; omega)).trans d) (hne (w.heap.size + 1) (by omega))
set_option maxHeartbeats 1600000 in
theorem Find_yes (b off cap : Nat) (V : Nat → Int) (S : Nat → Bool) (line : Int) (t : Bool) (w : World) (hb : b < w.heap.size) (hcap : 256 ≤ cap) (hl0 : 0 ≤ line) (hl1 : line ≤ 255) (hV : ∀ i, i < 256 → 0 ≤ V i ∧ V i ≤ 255)
    (h : ∀ i, i < 256 → ∀ j, j < 2 → w.cell? ⟨b, off + i * 2 + j, none⟩ = some (ByC V S i j)) :
    Calls Try.prog 10 #[.slice (some ⟨b, off, none⟩) 256 cap, .int .i64 line, .bool t] w fun e w' => ∃ ao n cap', e = .returned (.tuple #[.slice ao n cap', .bool (decide (8 < (fnd V line t 64).length)), .bool (secs S 64), .int .i64 0]) ∧
      n = min (fnd V line t 64).length 8 ∧ n ≤ cap' ∧ RowAt w' ao n 1 (fun i _ => .int .i64 ((fnd V line t 64).getD i 0)) ∧ Below w.heap.size w w' := by
  have HM : Hid (mayB 256 0 line = true) := by show mayB 256 0 line = true; unfold mayB; rw [decide_eq_true_iff]; omega
  obtain ⟨i0, hi, hz0, hz1, hz2⟩ := info_parts infoI
  go_enter Try.func10, Try.ntmps10
  go_wp2_with (go_at_call 23; refine (may_any _ _ _ _ _ _).mono ?_; rw [HM.out]; rintro e w' ⟨rfl, rfl⟩)
  go_loopw [10, 20] (fun v i wr => ∃ k : Nat, k ≤ 64 ∧ i = .int .i64 k ∧ FR w wr V S line t k v) (fun _ i _ => 64 - (intOf i).toNat)
  case atStart =>
    refine ⟨0, Nat.zero_le _, rfl, ⟨rfl, .inl ⟨rfl, rfl⟩⟩, ?_, ?_, ?_, ?_⟩
    · simp [go_sem, secs]
      exact alloc_last _ _ (by simp)
    · simp [go_sem]
    · simp [go_sem]
    · exact (((Below.refl _ _).alloc (Nat.le_refl _) _).alloc (by simp) _).alloc (by simp; omega) _
  case round =>
    obtain ⟨k, hk, rfl, hF⟩ := hrel
    by_cases hlt : k < 64
    · have c0 : wr.cell? ⟨b, off + 4 * k * 2, none⟩ = some (.int .u8 (V (4 * k))) := (hF.bl.cell (p := ⟨b, off + 4 * k * 2, none⟩) (by exact hb)).trans (h (4 * k) (by omega) 0 (by omega))
      have c1 : wr.cell? ⟨b, off + 4 * k * 2 + 1, none⟩ = some (.bool (S (4 * k))) := (hF.bl.cell (p := ⟨b, off + 4 * k * 2 + 1, none⟩) (by exact hb)).trans (h (4 * k) (by omega) 1 (by omega))
      have hv := hV (4 * k) (by omega)
      cases hon : onL (V (4 * k)) line t
      · have HON := hidI hon; clear hon
        go_wp2_with (first
          | (go_at_call 26; refine (one_any b off cap k _ hlt hcap).mono ?_; rintro e w' ⟨rfl, rfl⟩)
          | (go_at_call 24; refine (here_any b (off + 4 * k * 2) (V (4 * k)) line (S (4 * k)) (secs S k) t (w.heap.size + 1 + 1) w.heap.size (w.heap.size + 1) _ hv.1 hv.2 hl0 hl1 c0 c1 (by omega) (by omega) (by omega) (cell_of_one hF.S) (free_of_one hF.S) hF.L hF.T).mono ?_; rw [HON.out]; rintro e w' ⟨rfl, hQ⟩))
        go_roundw
        case rel => exact ⟨k + 1, by omega, by go_num, hF.miss hQ HON.out⟩
        case measure => simp [intOf]; omega
      · have HON := hidI hon; clear hon
        have hfl := fnd_le V line t k
        go_wp2_with (first
          | (go_at_call 26; refine (one_any b off cap k _ hlt hcap).mono ?_; rintro e w' ⟨rfl, rfl⟩)
          | (go_at_call 24; refine (here_any b (off + 4 * k * 2) (V (4 * k)) line (S (4 * k)) (secs S k) t (w.heap.size + 1 + 1) w.heap.size (w.heap.size + 1) _ hv.1 hv.2 hl0 hl1 c0 c1 (by omega) (by omega) (by omega) (cell_of_one hF.S) (free_of_one hF.S) hF.L hF.T).mono ?_; rw [HON.out]; rintro e w' ⟨rfl, hQ⟩)
          | (at_builtin; go_loud (refine wpList_append_own _ rfl _ _ 28 rfl (w.heap.size + 1 + 1 + 1) 3 i0 (.int .i64 0) 1 8 Try.underlying28 hi hz0 hz1 hz2 rfl (by decide) _ _ _ rfl ((hF.clos hQ).1.alloc _) ⟨w'.heap.size, 0, none⟩ 1 1 [.int .i64 (k : Int)] rfl rfl (cell_one_new _ _ _) (fun x hx => by simp at hx; subst hx; rfl) (by unfold maxLen; omega) (by omega) (by have := (hF.clos hQ).2.1; have := lt_of_block this; simp; omega) ?_); intro v' w1 hown' hgrow _))
        go_roundw
        case rel => exact ⟨k + 1, by omega, by go_num, hF.hit hQ HON.out hown' hgrow⟩
        case measure => simp [intOf]; omega
    · obtain rfl : k = 64 := by omega
      have hfl := fnd_le V line t 64
      have cS := cell_of_one hF.S
      obtain ⟨hlen, hv⟩ := hF.own
      have HL := hidI hlen; clear hlen
      obtain ⟨m, hm⟩ : ∃ m, m = (fnd V line t 64).length := ⟨_, rfl⟩
      rw [← hm] at hv hfl
      have HM2 := hidI hm; clear hm
      rcases hv with ⟨rfl, hn0⟩ | ⟨g, cp, cur, rfl, hg, hh, hnc, hcm, hcs, htk⟩
      · subst hn0
        go_wp2
        go_quiet (fail)
        go_wp2
        refine bodyPost_ret (v := .tuple #[.slice none 0 0, .bool false, .bool (secs S 64), .int .i64 0]) (by simp [results, Try.results10, go_sem]) rfl ⟨none, 0, 0, ?_, ?_, Nat.le_refl _, fun i hi => absurd hi (by omega), below_drewN hF.bl _⟩
        · rw [← HM2.out]; rfl
        · rw [← HM2.out]; rfl
      · have HC := hidI hcs; clear hcs
        have HT := hidI htk; clear htk
        have HH := hidI hh; clear hh
        rcases Nat.lt_or_ge 8 m with h8 | h8
        · have e8 : min (m : Int) 8 = 8 := by omega
          go_wp2
          go_quiet (fail)
          go_wp2
          have ho := hF.own
          rw [← HM2.out] at ho
          refine bodyPost_ret (v := .tuple #[.slice (some ⟨g, 0, none⟩) 8 8, .bool true, .bool (secs S 64), .int .i64 0]) (by simp [results, Try.results10, go_sem]; omega) rfl ⟨some ⟨g, 0, none⟩, 8, 8, ?_, ?_, Nat.le_refl _, own_row ho _ _ (by omega), below_drewN hF.bl _⟩
          · rw [← HM2.out]; simp; omega
          · rw [← HM2.out]; omega
        · have e8 : min (m : Int) 8 = m := by omega
          go_wp2
          go_quiet (fail)
          go_wp2
          have ho := hF.own
          rw [← HM2.out] at ho
          refine bodyPost_ret (v := .tuple #[.slice (some ⟨g, 0, none⟩) m m, .bool false, .bool (secs S 64), .int .i64 0]) (by simp [results, Try.results10, go_sem]; omega) rfl ⟨some ⟨g, 0, none⟩, m, m, ?_, ?_, Nat.le_refl _, own_row ho _ _ (by omega), below_drewN hF.bl _⟩
          · rw [← HM2.out]; simp; omega
          · rw [← HM2.out]; omega
end Go.Proofs.Ytdmcmlajpajaaaa
