import Derived.Test.YtdmcmlajpajaaaaSf3
namespace Go.Proofs.Ytdmcmlajpajaaaa
open Go.RowKit Go.Sx
/-- What the loop of the document's Find keeps. -/
structure RR (w wr : World) (V : Nat → Int) (line : Int) (t : Bool) (k : Nat) (v : Value) : Prop where
  own : wr.ownsRow w.heap.size 3 1 v (min (fnd V line t k).length 8) (ints ((fnd V line t k).take 8))
  bl : Below w.heap.size w wr
theorem cell_one_at (w : World) (x : Value) (t : TypeId) (b : Nat) (hb : b = w.heap.size) : ∀ j u, [x][j]? = some u → (w.alloc (.cells #[x] t)).cell? ((⟨b, 0, none⟩ : Addr).add j) = some u := by
  subst hb; exact cell_one_new w x t
theorem own_shape {w : World} {base e s n : Nat} {v : Value} {xs : List Value} (h : w.ownsRow base e s v n xs) : ∃ ao cp, v = .slice ao n cp := by
  rcases h.2 with ⟨rfl, rfl⟩ | ⟨g, cap, cur, rfl, _⟩
  · exact ⟨_, _, rfl⟩
  · exact ⟨_, _, rfl⟩
theorem own_row' {w : World} {base : Nat} {v : Value} {l : List Nat} (h : w.ownsRow base 3 1 v (min l.length 8) (ints (l.take 8))) : ∃ ao cp, v = .slice ao (min l.length 8) cp ∧ min l.length 8 ≤ cp ∧ RowAt w ao (min l.length 8) 1 (fun i _ => .int .i64 (l.getD i 0)) := by
  rcases h.2 with ⟨rfl, h0⟩ | ⟨g, cap, cur, rfl, _, _, hc, _⟩
  · rw [h0]; exact ⟨_, _, rfl, Nat.le_refl _, fun i hi => absurd hi (by omega)⟩
  · refine ⟨_, _, rfl, hc, fun i hi => ?_⟩
    obtain ⟨b, off, e, hb, hcc⟩ := own_row h 0 _ (Nat.le_refl _) i hi
    refine ⟨b, off, e, hb, fun j hj => (hcc j hj).trans ?_⟩
    simp only [List.getD_eq_getElem?_getD]
    rw [List.getElem?_take_of_lt (by omega)]
theorem lines_quiet (t : Bool) (z : Int) (hz : z = hi t) (w : World) : Calls Try.prog 30 #[.bool t] w fun e w' => e = .returned (.int .i64 z) ∧ w' = w :=
  (lines_any t w).mono fun _ _ h => ⟨by rw [h.1, hz]; rfl, h.2.symm⟩
theorem RR.step {w wr w' : World} {V : Nat → Int} {line : Int} {t : Bool} {k : Nat} {v : Value} (h : RR w wr V line t k v) {o : Obj} {q : Nat} (e : w' = (wr.alloc o).drewN q) : w'.ownsRow w.heap.size 3 1 v (min (fnd V line t k).length 8) (ints ((fnd V line t k).take 8)) ∧ Below w.heap.size w w' := by
  subst e
  exact ⟨h.own.alloc o, below_drewN (h.bl.alloc h.bl.size o) q⟩
theorem RR.miss {w wr w' : World} {V : Nat → Int} {line : Int} {t : Bool} {k : Nat} {v : Value} (h : RR w wr V line t k v) {o : Obj} {q : Nat} (e : w' = (wr.alloc o).drewN q) (hm : onL (V (4 * k)) line t = false) : RR w w' V line t (k + 1) v := by
  have hs : fnd V line t (k + 1) = fnd V line t k := by rw [fnd_succ, hm]; simp
  exact ⟨by rw [hs]; exact (h.step e).1, (h.step e).2⟩
theorem more_miss {V : Nat → Int} {line : Int} {t : Bool} {k : Nat} (hm : onL (V (4 * k)) line t = false) : decide (8 < (fnd V line t (k + 1)).length) = decide (8 < (fnd V line t k).length) := by
  rw [show fnd V line t (k + 1) = fnd V line t k by rw [fnd_succ, hm]; simp]
theorem more_full {V : Nat → Int} {line : Int} {t : Bool} {k : Nat} (hm : onL (V (4 * k)) line t = true) (h8 : 8 ≤ (fnd V line t k).length) : decide (8 < (fnd V line t (k + 1)).length) = true := by
  rw [fnd_succ, hm]; simp; omega
theorem more_hit {V : Nat → Int} {line : Int} {t : Bool} {k : Nat} (hm : onL (V (4 * k)) line t = true) (h8 : (fnd V line t k).length < 8) : decide (8 < (fnd V line t (k + 1)).length) = decide (8 < (fnd V line t k).length) := by
  rw [fnd_succ, hm, decide_eq_decide]; simp; omega
theorem RR.full {w wr w' : World} {V : Nat → Int} {line : Int} {t : Bool} {k : Nat} {v : Value} (h : RR w wr V line t k v) {o : Obj} {q : Nat} (e : w' = (wr.alloc o).drewN q) (hm : onL (V (4 * k)) line t = true) (h8 : 8 ≤ (fnd V line t k).length) : RR w w' V line t (k + 1) v := by
  have hs : fnd V line t (k + 1) = fnd V line t k ++ [k] := by rw [fnd_succ, hm]; simp
  obtain ⟨a, b⟩ := h.step e
  refine ⟨?_, b⟩
  rw [hs, List.take_append_of_le_length h8, show min (fnd V line t k ++ [k]).length 8 = min (fnd V line t k).length 8 by simp; omega]
  exact a
theorem RR.hit {w wr w' w1 : World} {V : Nat → Int} {line : Int} {t : Bool} {k : Nat} {v v' : Value} (h : RR w wr V line t k v) {o o' : Obj} {q : Nat} (e : w' = (wr.alloc o).drewN q) (hm : onL (V (4 * k)) line t = true) (h8 : (fnd V line t k).length < 8)
    (ho : w1.ownsRow w.heap.size 3 1 v' (min (fnd V line t k).length 8 + 1) (ints ((fnd V line t k).take 8) ++ [.int .i64 (k : Int)])) {vb : Option Nat} (hg : (w'.alloc o').grownBy w1 vb) (hvb : vb = v.ownBlock) : RR w w1 V line t (k + 1) v' := by
  have hs : fnd V line t (k + 1) = fnd V line t k ++ [k] := by rw [fnd_succ, hm]; simp
  obtain ⟨a, b⟩ := h.step e
  subst hvb
  refine ⟨?_, (b.alloc b.size o').grown hg (by simp; have := b.size; omega) (fun j hj => (a.lt j hj).1)⟩
  rw [hs, List.take_of_length_le (by simp; omega), show min (fnd V line t k ++ [k]).length 8 = min (fnd V line t k).length 8 + 1 by simp; omega]
  rw [List.take_of_length_le (by omega)] at ho
  simpa [ints] using ho
set_option maxHeartbeats 1600000 in
theorem rFind_any (b off cap : Nat) (V : Nat → Int) (S : Nat → Bool) (line : Int) (t : Bool) (w : World) (hb : b < w.heap.size) (hl0 : 0 ≤ line) (hl1 : line ≤ 255) (hV : ∀ i, i < 256 → 0 ≤ V i ∧ V i ≤ 255)
    (h : ∀ i, i < 256 → ∀ j, j < 2 → w.cell? ⟨b, off + i * 2 + j, none⟩ = some (ByC V S i j)) :
    Calls Try.prog 15 #[.slice (some ⟨b, off, none⟩) 256 cap, .int .i64 line, .bool t] w fun e w' => ∃ ao n cap', e = .returned (.tuple #[.slice ao n cap', .bool (decide (8 < (fnd V line t 64).length)), .bool (secs S 64)]) ∧
      n = min (fnd V line t 64).length 8 ∧ n ≤ cap' ∧ RowAt w' ao n 1 (fun i _ => .int .i64 ((fnd V line t 64).getD i 0)) ∧ Below w.heap.size w w' := by
  obtain ⟨i0, hi0, hz0, hz1, hz2⟩ := info_parts infoI
  obtain ⟨z, hz⟩ : ∃ z, z = hi t := ⟨_, rfl⟩
  have hzz : 8 ≤ z ∧ z ≤ 16 := by rw [hz]; cases t <;> decide
  obtain ⟨hzl, hzh⟩ := hzz
  have HZ := hidI hz; clear hz
  go_enter Try.func15, Try.ntmps15
  go_wp2
  go_loopw [9, 10, 11, 12] (fun v m s i wr => ∃ k : Nat, k ≤ 64 ∧ i = .int .i64 k ∧ RR w wr V line t k v ∧ m = .bool (decide (8 < (fnd V line t k).length)) ∧ s = .bool (secs S k)) (fun _ _ _ i _ => 64 - (intOf i).toNat)
  case atStart => exact ⟨0, Nat.zero_le _, rfl, ⟨⟨rfl, .inl ⟨rfl, rfl⟩⟩, Below.refl _ _⟩, rfl, rfl⟩
  case round =>
    obtain ⟨k, hk, rfl, hF, rfl, rfl⟩ := hrel
    obtain ⟨mo, hmo⟩ : ∃ m, m = decide (8 < (fnd V line t k).length) := ⟨_, rfl⟩
    rw [← hmo]
    have HMO := hidI hmo; clear hmo
    obtain ⟨sk, hsk⟩ : ∃ m, m = secs S k := ⟨_, rfl⟩
    rw [← hsk]
    have hs2 := secs_succ S k
    rw [← hsk] at hs2
    have HSK := hidI hs2; clear hs2
    have HS0 := hidI hsk; clear hsk
    by_cases hlt : k < 64
    · have c0 : wr.cell? ⟨b, off + 4 * k * 2, none⟩ = some (.int .u8 (V (4 * k))) := (hF.bl.cell (p := ⟨b, off + 4 * k * 2, none⟩) (by exact hb)).trans (h (4 * k) (by omega) 0 (by omega))
      have c1 : wr.cell? ⟨b, off + 4 * k * 2 + 1, none⟩ = some (.bool (S (4 * k))) := (hF.bl.cell (p := ⟨b, off + 4 * k * 2 + 1, none⟩) (by exact hb)).trans (h (4 * k) (by omega) 1 (by omega))
      obtain ⟨hv0, hv1⟩ := hV (4 * k) (by omega)
      have hfl := fnd_le V line t k
      by_cases hy : V (4 * k) ≤ line
      · by_cases hh : line < V (4 * k) + z
        · have HON : Hid (onL (V (4 * k)) line t = true) := by show _ = true; unfold onL; rw [decide_eq_true_iff, ← HZ.out]; omega
          obtain ⟨ao, cp, hv⟩ := own_shape hF.own
          subst hv
          have HU := hidI (Nat.min_le_left (fnd V line t k).length 8)
          obtain ⟨m, hm⟩ : ∃ m, m = min (fnd V line t k).length 8 := ⟨_, rfl⟩
          have hst := fun (o : Obj) (q : Nat) => (hF.step (o := o) (q := q) rfl).1
          have hm8 : m ≤ 8 := by omega
          have hml : m = 8 ∨ (m < 8 ∧ (fnd V line t k).length < 8) := by omega
          have hml' : m = 8 → 8 ≤ (fnd V line t k).length := by omega
          rw [← hm] at hst
          have HST := hidI hst; clear hst
          rw [← hm]
          have HM := hidI hm; clear hm
          rcases hml with hml | ⟨hml, hml2⟩
          · have HFULL := hidI (hml' hml)
            clear hml'
            cases hsx : S (4 * k)
            all_goals
              have HSX := hidI hsx
              rw [hsx] at c1
              clear hsx
              go_wp2
              go_quiet ((go_at_call 30; exact Calls.quiet_of_same (lines_quiet _ _ HZ.out _)))
              go_wp2
              go_roundw
              case rel => exact ⟨k + 1, by omega, by go_num, by rw [HM.out] ; exact hF.full rfl HON.out HFULL.out, by rw [more_full HON.out HFULL.out], by rw [HSK.out, HSX.out]; simp⟩
              case measure => simp [intOf]; omega
          · clear hml'
            have H2 := hidI hml2
            clear hml2
            cases hsx : S (4 * k)
            all_goals
              have HSX := hidI hsx
              rw [hsx] at c1
              clear hsx
              go_wp2
              go_quiet ((go_at_call 30; exact Calls.quiet_of_same (lines_quiet _ _ HZ.out _)))
              go_wp2_with (at_builtin; go_loud (refine wpList_append_own _ rfl _ _ 28 rfl w.heap.size 3 i0 (.int .i64 0) 1 8 Try.underlying28 hi0 hz0 hz1 hz2 rfl (by decide) _ _ _ rfl ((HST.out _ _).alloc _) ⟨wr.heap.size + 1, 0, none⟩ 1 1 [.int .i64 (k : Int)] rfl rfl (cell_one_at _ _ _ _ (by simp)) (fun x hx => by simp at hx; subst hx; rfl) (by unfold maxLen; omega) (by omega) (by have := hF.bl.size; simp; omega) ?_); intro v' w1 hown' hgrow _)
              go_roundw
              case rel => exact ⟨k + 1, by omega, by go_num, hF.hit rfl HON.out H2.out (by rw [← HM.out]; simpa only [← HM.out] using hown') hgrow (by cases ao <;> rfl), by rw [more_hit HON.out H2.out, ← HMO.out], by rw [HSK.out, HSX.out]; simp⟩
              case measure => simp [intOf]; omega
        · have HON : Hid (onL (V (4 * k)) line t = false) := by show _ = false; unfold onL; rw [decide_eq_false_iff_not, ← HZ.out]; omega
          cases hsx : S (4 * k)
          all_goals
            have HSX := hidI hsx
            rw [hsx] at c1
            clear hsx
            go_wp2
            go_quiet ((go_at_call 30; exact Calls.quiet_of_same (lines_quiet _ _ HZ.out _)))
            go_wp2
            go_roundw
            case rel => 
              exact ⟨k + 1, by omega, by go_num, hF.miss rfl HON.out, by rw [more_miss HON.out, ← HMO.out], by rw [HSK.out, HSX.out]; simp⟩
            case measure => simp [intOf]; omega
      · have hy' : decide (V (4 * k) ≤ line) = false := by simpa using hy
        have HON : Hid (onL (V (4 * k)) line t = false) := by show _ = false; unfold onL; rw [decide_eq_false_iff_not, ← HZ.out]; omega
        cases hsx : S (4 * k)
        all_goals
          have HSX := hidI hsx
          rw [hsx] at c1
          clear hsx
          go_wp2
          go_quiet ((go_at_call 30; exact Calls.quiet_of_same (lines_quiet _ _ HZ.out _)))
          go_wp2
          go_roundw
          case rel =>
            exact ⟨k + 1, by omega, by go_num, hF.miss rfl HON.out, by rw [more_miss HON.out, ← HMO.out], by rw [HSK.out, HSX.out]; simp⟩
          case measure => simp [intOf]; omega
    · obtain rfl : k = 64 := by omega
      have hfl := fnd_le V line t 64
      have hs := own_row' hF.own
      go_wp2
      obtain ⟨ao, cp, hv, hle, hr⟩ := hs
      subst hv
      refine bodyPost_ret (v := .tuple #[.slice ao (min (fnd V line t 64).length 8) cp, .bool mo, .bool sk]) (by simp [results, Try.results15, go_sem]) rfl ⟨ao, _, cp, by rw [← HMO.out, ← HS0.out], rfl, hle, hr, hF.bl⟩
end Go.Proofs.Ytdmcmlajpajaaaa
