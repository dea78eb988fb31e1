import Derived.Test.YtkhjfcbloahjeaaQd1
namespace Go.Proofs.Ytkhjfcbloahjeaa
open Go.RowKit Go.Sx
theorem wi_all {F T : Nat → Int} {n : Nat} {s : Int} (h : wiB F T n s = true) : rgB F T n = true ∧ ∀ i, i < n → T i < s := by
  unfold wiB at h
  rw [Bool.and_eq_true, List.all_eq_true] at h
  exact ⟨h.2, fun i hi => by simpa using h.1 i (by simpa using hi)⟩
set_option maxRecDepth 100000 in
set_option maxHeartbeats 6400000 in
theorem make_any (N : Nat) (p : ByteArray) (ao : Option Addr) (n c : Nat) (F T : Nat → Int) (w : World) (hN : N ≤ 65536) (hN1 : 1 ≤ N) (hp : p.size ≤ N) (hl : n ≤ 1000000) (h : RgAt w ao n F T) (hw : wiB F T n N = true) :
    Calls Try.prog 36 #[.int .i64 N, .string p, .slice ao n c] w fun e w' => ∃ g, e = .returned (.tuple #[.slice (some ⟨g, 0, none⟩) N N, .int .i64 0]) ∧ w.heap.size ≤ g ∧ OwnM w' g g N (bt p) (fun i => inG F T n (i : Int)) ∧ Below w.heap.size w w' := by
  obtain ⟨i0, hi, hz0, hz1, hz2⟩ := info_parts infoB
  obtain ⟨hrg, htl⟩ := wi_all hw
  have HRG := hidI hrg; clear hrg
  have HTL := hidI htl; clear htl hw
  have HG := rgB_get HRG.out
  have HGH := hidI HG; clear HG
  go_enter Try.func36, Try.ntmps36
  go_wp2_with fail
  refine (rcheck_any ao n c F T _ hl h).mono ?_
  rw [HRG.out]
  rintro e w1 ⟨rfl, b1⟩
  simp only [if_true]
  go_wp2_with (at_make; go_loud (refine wpList_make_full _ rfl _ _ 51 rfl w1.heap.size 67 i0 (.agg #[.int .u8 0, .bool false]) 2 Try.underlying51 hi hz0 hz1 .i64 .i64 N N N rfl rfl rfl rfl (by rw [hz2]; omega) (by unfold maxLen; omega) (Nat.le_refl _) ?_); intro w2 hown hgrow)
  have hz := OwnM.new hown
  have hb2 : Below w1.heap.size w1 w2 := (Below.refl _ _).grown hgrow (Nat.le_refl _) (fun k hk => by cases hk)
  clear hown hgrow
  obtain ⟨g, hg⟩ : ∃ g, g = w1.heap.size := ⟨_, rfl⟩
  rw [← hg] at hz hb2 ⊢
  have hgw : w.heap.size ≤ g := by rw [hg]; exact b1.size
  have B2 : Below w.heap.size w w2 := b1.trans (hb2.mono hgw)
  clear hb2 b1 hg
  go_loopw [34] (fun i wr => ∃ k : Nat, k ≤ p.size ∧ i = .int .i64 k ∧ OwnM wr g g N (fun i => if i < k then bt p i else 0) (fun _ => false) ∧ Below w.heap.size w wr) (fun i _ => p.size - (intOf i).toNat)
  case atStart => exact ⟨0, Nat.zero_le _, rfl, hz.vals (fun i hi => ⟨by simp, rfl⟩), B2⟩
  case round =>
    obtain ⟨k, hk, rfl, hO, hbl⟩ := hrel
    by_cases hkp : k < p.size
    · have c0 : wr.cell? ⟨g, k * 2, none⟩ = some _ := hO.cell (show k < N by omega) (j := 0) (by omega)
      have f0 := hO.frozen (k * 2)
      obtain ⟨x0, hx0⟩ : ∃ x0, x0 = bt p k := ⟨_, rfl⟩
      have x1 : ((p[k]'hkp).toNat : Int) = x0 := (bt_eq p k hkp).trans hx0.symm
      have HX := hidI hx0; clear hx0
      go_wp2_with fail
      refine ⟨⟨k + 1, by omega, by simp, (hO.putV x0 (show k < N by omega)).vals (fun i hi => ⟨by rw [HX.out]; exact step_v i k _, rfl⟩), hbl.setCell (p := ⟨g, k * 2, none⟩) hgw _⟩, by simp [intOf]; omega⟩
    · obtain rfl : k = p.size := by omega
      have hO1 : OwnM wr g g N (bt p) (fun i => inG F T 0 (i : Int)) := hO.vals (fun i hi => ⟨by
        by_cases e : i < p.size
        · rw [if_pos e]
        · rw [if_neg e, bt_out (by omega)], rfl⟩)
      clear hO
      obtain ⟨w3, rfl⟩ : ∃ w3, w3 = wr := ⟨_, rfl⟩
      go_wp2_with fail
      go_loopw [47] (fun i wr => ∃ k : Nat, k ≤ n ∧ i = .int .i64 k ∧ OwnM wr g g N (bt p) (fun i => inG F T k (i : Int)) ∧ Below w.heap.size w wr) (fun i _ => n - (intOf i).toNat)
      case atStart => exact ⟨0, Nat.zero_le _, rfl, hO1, hbl⟩
      case round =>
        obtain ⟨k, hk2, rfl, hO2, hbl2⟩ := hrel
        by_cases hlt : k < n
        · obtain ⟨b, off, rfl, hb, hc⟩ := h.get (by omega)
          have c0 := (hbl2.cell (p := ⟨b, off + k * 2, none⟩) (by exact hb)).trans (hc k hlt).1
          have c1 := (hbl2.cell (p := ⟨b, off + k * 2 + 1, none⟩) (by exact hb)).trans (hc k hlt).2
          have hbw : b < wr.heap.size := Nat.lt_of_lt_of_le hb hbl2.size
          have n1 : wr.heap.size ≠ b := by omega
          have n2 : b ≠ wr.heap.size := by omega
          obtain ⟨q0, q1, q2, _⟩ := HGH.out k hlt
          have qt := HTL.out k hlt
          obtain ⟨f, hf⟩ : ∃ f : Nat, F k = f := ⟨(F k).toNat, by omega⟩
          obtain ⟨t, ht⟩ : ∃ t : Nat, T k = t := ⟨(T k).toNat, by omega⟩
          rw [hf] at c0 q0 q1
          rw [ht] at c1 q1 q2 qt
          have HF := hidI hf; clear hf
          have HT := hidI ht; clear ht
          have O4 := hO2.below ((Below.refl wr.heap.size wr).alloc (Nat.le_refl _) (.cells #[.int .i64 f, .int .i64 t] 63))
          have E4 : (wr.alloc (.cells #[.int .i64 (f : Int), .int .i64 (t : Int)] 63)).heap[wr.heap.size]? = some (.cells #[.int .i64 (f : Int), .int .i64 (t : Int)] 63 (0, 0)) := blk_new _ _
          have B4 := hbl2.alloc hbl2.size (.cells #[.int .i64 (f : Int), .int .i64 (t : Int)] 63)
          have gne : g ≠ wr.heap.size := by have := hO2.lt.2; omega
          go_wp2_with fail
          obtain ⟨w4, hw4⟩ : ∃ w4, w4 = wr.alloc (.cells #[.int .i64 (f : Int), .int .i64 (t : Int)] 63) := ⟨_, rfl⟩
          obtain ⟨gb, hgb⟩ : ∃ gb, gb = wr.heap.size := ⟨_, rfl⟩
          rw [← hw4] at O4 E4 B4 ⊢
          rw [← hgb] at E4 gne ⊢
          clear hw4 hgb hO2 hbl2 c0 c1 n1 n2 hbw
          go_loopw [12] (fun v wx => ∃ j : Nat, f ≤ j ∧ j ≤ t + 1 ∧ v = .int .i64 j ∧ OwnM wx g g N (bt p) (fun i => inG F T k (i : Int) || decide (f ≤ i ∧ i < j)) ∧ wx.heap[gb]? = some (.cells #[.int .i64 (f : Int), .int .i64 (t : Int)] 63 (0, 0)) ∧ Below w.heap.size w wx) (fun v _ => t + 1 - (intOf v).toNat)
          case atStart => exact ⟨f, Nat.le_refl _, by omega, rfl, O4.vals (fun i hi => ⟨rfl, by rw [decide_eq_false (show ¬ (f ≤ i ∧ i < f) by omega), Bool.or_false]⟩), E4, B4⟩
          case round =>
            obtain ⟨j, hj1, hj2, rfl, hO5, hE5, hbl5⟩ := hrel
            have y1 : wr.cell? ⟨gb, 1, none⟩ = some (.int .i64 (t : Int)) := blk_cell hE5 1
            have hmin : ¬ ((N : Int) - 1 < t) := by omega
            by_cases hjt : j ≤ t
            · have c0 : wr.cell? ⟨g, j * 2 + 1, none⟩ = some _ := hO5.cell (show j < N by omega) (j := 1) (by omega)
              have f0 := hO5.frozen (j * 2 + 1)
              have hjt' : (j : Int) ≤ t := by omega
              go_wp2_with fail
              refine ⟨⟨j + 1, by omega, by omega, by simp, (hO5.putS true (show j < N by omega)).vals (fun i hi => ⟨rfl, ?_⟩), (blk_other (by exact gne) _).trans hE5, hbl5.setCell (p := ⟨g, j * 2 + 1, none⟩) hgw _⟩, by simp [intOf]; omega⟩
              by_cases e : i = j
              · subst e; rw [if_pos rfl, decide_eq_true (show f ≤ i ∧ i < i + 1 by omega), Bool.or_true]
              · rw [if_neg e]
                congr 1
                rw [decide_eq_decide]; omega
            · have hjt' : ¬ ((j : Int) ≤ t) := by omega
              go_wp2_with fail
              refine ⟨⟨k + 1, by omega, by simp, hO5.vals (fun i hi => ⟨rfl, ?_⟩), hbl5⟩, by simp [intOf]; omega⟩
              rw [inG_succ, HF.out, HT.out]
              congr 1
              rw [decide_eq_decide]; omega
        · obtain rfl : k = n := by omega
          go_wp2_with fail
          refine bodyPost_ret (v := .tuple #[.slice (some ⟨g, 0, none⟩) N N, .int .i64 0]) (by simp [results, Try.results36, go_sem]) rfl ⟨g, rfl, hgw, hO2, hbl2⟩
end Go.Proofs.Ytkhjfcbloahjeaa
