import Derived.Test.YtdmcmlajpajaaaaSg3
namespace Go.Proofs.Ytdmcmlajpajaaaa
open Go.RowKit Go.Sx
theorem fnd_prefix (V : Nat → Int) (line : Int) (t : Bool) : ∀ {i j : Nat}, i ≤ j → fnd V line t i <+: fnd V line t j := by
  intro i j h
  induction j with
  | zero => obtain rfl : i = 0 := by omega
            exact List.prefix_refl _
  | succ j ih =>
    by_cases e : i = j + 1
    · subst e; exact List.prefix_refl _
    · rw [fnd_succ]; exact (ih (by omega)).trans (List.prefix_append _ _)
theorem fnd_at {V : Nat → Int} {line : Int} {t : Bool} {i : Nat} (h : i < 64) (ho : onL (V (4 * i)) line t = true) : (fnd V line t i).length < (fnd V line t 64).length ∧ (fnd V line t 64).getD (fnd V line t i).length 0 = i := by
  have hp := fnd_prefix V line t (show i + 1 ≤ 64 by omega)
  rw [fnd_succ, ho, if_pos rfl] at hp
  obtain ⟨r, hr⟩ := hp
  rw [← hr]
  simp [List.getD_eq_getElem?_getD]
set_option maxRecDepth 100000 in
set_option maxHeartbeats 1600000 in
theorem finds_no (ao : Option Addr) (n cap : Nat) (I line lv hv x : Int) (t tb ls hs : Bool) (w : World) (hc : n ≤ cap) (h : mayB (min n 257) 0 line = false) :
    Calls Try.prog 3 #[.slice ao n cap, .agg #[.int .i64 I, .int .i64 line, .bool t, .bool tb, .int .u8 lv, .bool ls, .int .u8 hv, .bool hs, .int .i64 x]] w fun e w' => e = .returned (.bool true) ∧ Below w.heap.size w w' := by
  have H := hidI h; clear h
  go_enter Try.func3, Try.ntmps3
  go_wp2_with fail
  refine (few_any ao n cap _ hc).mono ?_
  rintro e w1 ⟨⟨cap', rfl, hc'⟩, rfl⟩
  go_wp2_with fail
  refine (Find_no _ _ _ _ _ _ H.out).mono ?_
  rintro e w2 ⟨rfl, hb2⟩
  go_wp2_with fail
  refine (awake_any _).mono ?_
  rintro e w3 ⟨rfl, hb3⟩
  go_wp2
  go_ret
  have a1 : Below w.heap.size w w2 := ((Below.refl _ _).alloc (Nat.le_refl _) _).trans (hb2.mono (by simp))
  exact ⟨rfl, a1.trans (hb3.mono a1.size)⟩
theorem lt_of_cell {w : World} {a : Addr} {v : Value} (h : w.cell? a = some v) : a.block < w.heap.size := by
  unfold World.cell? at h
  rcases Nat.lt_or_ge a.block w.heap.size with h' | h'
  · exact h'
  · simp [Array.getElem?_eq_none h'] at h
set_option maxRecDepth 100000 in
set_option maxHeartbeats 3200000 in
theorem finds_yes (b off n cap : Nat) (V : Nat → Int) (S : Nat → Bool) (I line lv hv x : Int) (t tb ls hs : Bool) (w : World) (hb : b < w.heap.size) (hc : n ≤ cap) (hn : min n 257 = 256) (hl0 : 0 ≤ line) (hl1 : line ≤ 255) (hV : ∀ i, i < 256 → 0 ≤ V i ∧ V i ≤ 255)
    (h : ∀ i, i < 256 → ∀ j, j < 2 → w.cell? ⟨b, off + i * 2 + j, none⟩ = some (ByC V S i j)) :
    Calls Try.prog 3 #[.slice (some ⟨b, off, none⟩) n cap, .agg #[.int .i64 I, .int .i64 line, .bool t, .bool tb, .int .u8 lv, .bool ls, .int .u8 hv, .bool hs, .int .i64 x]] w fun e w' => e = .returned (.bool true) ∧ Below w.heap.size w w' := by
  have HN := hidI hn; clear hn
  obtain ⟨z, hz⟩ : ∃ z, z = hi t := ⟨_, rfl⟩
  have hzz : 8 ≤ z ∧ z ≤ 16 := by rw [hz]; cases t <;> decide
  obtain ⟨hzl, hzh⟩ := hzz
  have HZ := hidI hz; clear hz
  go_enter Try.func3, Try.ntmps3
  go_wp2_with fail
  refine (few_any _ n cap _ hc).mono ?_
  rw [HN.out]
  rintro e w1 ⟨⟨cap', rfl, hc'⟩, rfl⟩
  go_wp2_with fail
  refine (Find_yes b off cap' V S line t _ (by simp; omega) hc' hl0 hl1 hV (fun i hi j hj => (World.cell?_alloc_past _ _ _ (by show b < _; exact hb)).trans (h i hi j hj))).mono ?_
  rintro e w2 ⟨ao, m, cp, rfl, hm, hmc, hr, hb2⟩
  obtain ⟨mo, hmo⟩ : ∃ mo, mo = decide (8 < (fnd V line t 64).length) := ⟨_, rfl⟩
  obtain ⟨se, hse⟩ : ∃ se, se = secs S 64 := ⟨_, rfl⟩
  rw [← hmo, ← hse]
  have hm8 : m ≤ 8 := by omega
  have hmm : mo = true → m = 8 := by intro e; rw [hmo] at e; simp at e; omega
  have HM := hidI hm; clear hm
  have HMO := hidI hmo; clear hmo
  have HSE := hidI hse; clear hse
  have cq : ∀ o, w2.cell? ⟨w.heap.size, o, none⟩ = (w.alloc (.cells #[.int .i64 I, .int .i64 line, .bool t, .bool tb, .int .u8 lv, .bool ls, .int .u8 hv, .bool hs, .int .i64 x] 26)).cell? ⟨w.heap.size, o, none⟩ := fun o => hb2.cell (by simp)
  have q1 : w2.cell? ⟨w.heap.size, 1, none⟩ = some (.int .i64 line) := (cq 1).trans (by simp [go_sem])
  have q2 : w2.cell? ⟨w.heap.size, 2, none⟩ = some (.bool t) := (cq 2).trans (by simp [go_sem])
  clear cq
  have hvl : ∀ i, i < 64 → 0 ≤ V (4 * i) ∧ V (4 * i) ≤ 255 := fun i hi => hV (4 * i) (by omega)
  have hz8 : (if t = true then (16 : Int) else 8) = z := by rw [HZ.out]; rfl
  clear hV
  have Hbl : Below w.heap.size w w2 := ((Below.refl _ _).alloc (Nat.le_refl _) _).trans (hb2.mono (by simp))
  have hrow : ∀ i, i < 256 → ∀ j, j < 2 → w2.cell? ⟨b, off + i * 2 + j, none⟩ = some (ByC V S i j) := fun i hi j hj => (Hbl.cell (p := ⟨b, off + i * 2 + j, none⟩) hb).trans (h i hi j hj)
  clear h hb2
  have Hrow := hidI hrow; clear hrow
  have Hvl := hidI hvl; clear hvl
  have hbw2 : b < w2.heap.size := Nat.lt_of_lt_of_le hb Hbl.size
  have hq2 : w.heap.size < w2.heap.size := by have := lt_of_cell q1; exact this
  have FACTS : Hid (∀ i, i < 64 → ((0 ≤ line - V (4 * i) ∧ line - V (4 * i) < z) → (fnd V line t i).length < (fnd V line t 64).length ∧ (fnd V line t 64).getD (fnd V line t i).length 0 = i ∧ (fnd V line t (i + 1)).length = (fnd V line t i).length + 1) ∧
      (¬ (0 ≤ line - V (4 * i) ∧ line - V (4 * i) < z) → (fnd V line t (i + 1)).length = (fnd V line t i).length) ∧ (fnd V line t i).length ≤ i) := by
    refine fun i hi => ⟨fun ho => ?_, fun ho => ?_, fnd_le V line t i⟩
    · have ho' : onL (V (4 * i)) line t = true := by unfold onL; rw [← HZ.out]; simpa using ho
      have := fnd_at hi ho'
      exact ⟨this.1, this.2, by rw [fnd_succ, ho']; simp⟩
    · have ho' : onL (V (4 * i)) line t = false := by unfold onL; rw [← HZ.out]; simpa using ho
      rw [fnd_succ, ho']; simp
  generalize fnd V line t = F at hr HM HMO FACTS
  clear HZ
  cases mo
  all_goals cases t
  · have hz8' : z = 8 := by rw [← hz8]; rfl
    subst hz8'
    clear hz8
    go_wp2_with fail
    go_loopw [10, 11, 12, 13] (fun k m s i wr => ∃ j : Nat, j ≤ 64 ∧ i = .int .i64 j ∧ k = .int .i64 (F j).length ∧ m = .int .i64 (F j).length ∧ s = .bool (secs S j) ∧ Below w2.heap.size w2 wr) (fun _ _ _ i _ => 64 - (intOf i).toNat)
    case atStart => exact ⟨0, Nat.zero_le _, rfl, by have := (FACTS.out 0 (by omega)).2.2; rw [show (F 0).length = 0 by omega]; rfl, by have := (FACTS.out 0 (by omega)).2.2; rw [show (F 0).length = 0 by omega]; rfl, rfl, Below.refl _ _⟩
    case round =>
      obtain ⟨j, hj, rfl, rfl, rfl, rfl, hbl⟩ := hrel
      have p1 : wr.cell? ⟨w.heap.size, 1, none⟩ = some (.int .i64 line) := (hbl.cell (p := ⟨w.heap.size, 1, none⟩) hq2).trans q1
      obtain ⟨sj, hsj⟩ : ∃ sj, sj = secs S j := ⟨_, rfl⟩
      have hs2 := secs_succ S j
      rw [← hsj] at hs2 ⊢
      have HSJ := hidI hs2; clear hs2
      have HSK := hidI hsj; clear hsj
      by_cases hlt : j < 64
      · have c0 : wr.cell? ⟨b, off + 4 * j * 2, none⟩ = some (.int .u8 (V (4 * j))) := (hbl.cell (p := ⟨b, off + 4 * j * 2, none⟩) hbw2).trans (Hrow.out (4 * j) (by omega) 0 (by omega))
        have c1 : wr.cell? ⟨b, off + 4 * j * 2 + 1, none⟩ = some (.bool (S (4 * j))) := (hbl.cell (p := ⟨b, off + 4 * j * 2 + 1, none⟩) hbw2).trans (Hrow.out (4 * j) (by omega) 1 (by omega))
        obtain ⟨v0, v1⟩ := Hvl.out j hlt
        have FJ := hidI (FACTS.out j hlt)
        have hFl := FJ.out.2.2
        by_cases hon : 0 ≤ line - V (4 * j) ∧ line - V (4 * j) < 8
        · obtain ⟨g1, g2, g3⟩ := FJ.out.1 hon
          have G1 := hidI g1; have G2 := hidI g2; have G3 := hidI g3
          clear g1 g2 g3
          obtain ⟨hon0, hon1⟩ := hon
          by_cases h8 : (F j).length < 8
          · have hkm : (F j).length < m := by have := HM.out; have := G1.out; omega
            have hg : ∃ g go, ao = some ⟨g, go, none⟩ ∧ wr.cell? ⟨g, go + (F j).length, none⟩ = some (.int .i64 (j : Int)) := by
              obtain ⟨g, go, e, hlt2, hc2⟩ := hr (F j).length hkm
              refine ⟨g, go, e, ?_⟩
              have h9 : wr.cell? ⟨g, go + (F j).length * 1 + 0, none⟩ = some (Value.int .i64 (((F 64).getD (F j).length 0 : Nat) : Int)) := (hbl.cell (p := ⟨g, go + (F j).length * 1 + 0, none⟩) hlt2).trans (hc2 0 (by omega))
              rw [G2.out] at h9
              simpa using h9
            obtain ⟨g, go, rfl, cg⟩ := hg
            clear h8
            go_wp2
            all_goals go_quiet (fail)
            all_goals go_wp2
            all_goals
              go_roundw
              case rel => exact ⟨j + 1, by omega, by go_num, by rw [G3.out]; go_num, by rw [G3.out]; go_num, by rw [HSJ.out]; simp [*], below_drewN hbl _⟩
              case measure => simp [intOf]; omega
          · have h8' : 8 ≤ (F j).length := by omega
            have hm8' : 8 < (F 64).length := by have := G1.out; omega
            have hmo' := HMO.out
            rw [decide_eq_true hm8'] at hmo'
            exact absurd hmo' (by decide)
        · have g0 := FJ.out.2.1 hon
          have G0 := hidI g0; clear g0
          go_wp2
          all_goals go_quiet (fail)
          all_goals go_wp2
          all_goals
            go_roundw
            case rel => exact ⟨j + 1, by omega, by go_num, by rw [G0.out], by rw [G0.out], by rw [HSJ.out]; simp [*], below_drewN hbl _⟩
            case measure => simp [intOf]; omega
      · obtain rfl : j = 64 := by omega
        obtain rfl : se = sj := by rw [HSE.out, HSK.out]
        have hle : (F 64).length ≤ 8 := by have := HMO.out; simpa using this.symm
        obtain rfl : m = (F 64).length := by have := HM.out; omega
        have e8 : min ((F 64).length : Int) 8 = (F 64).length := by omega
        go_wp2_with fail
        refine (awake_any _).mono ?_
        rintro e w5 ⟨rfl, hb5⟩
        go_wp2
        go_ret
        exact ⟨rfl, (Hbl.trans (hbl.mono Hbl.size)).trans (hb5.mono (Nat.le_trans Hbl.size hbl.size))⟩
  · have hz8' : z = 16 := by rw [← hz8]; rfl
    subst hz8'
    clear hz8
    go_wp2_with fail
    go_loopw [10, 11, 12, 13] (fun k m s i wr => ∃ j : Nat, j ≤ 64 ∧ i = .int .i64 j ∧ k = .int .i64 (F j).length ∧ m = .int .i64 (F j).length ∧ s = .bool (secs S j) ∧ Below w2.heap.size w2 wr) (fun _ _ _ i _ => 64 - (intOf i).toNat)
    case atStart => exact ⟨0, Nat.zero_le _, rfl, by have := (FACTS.out 0 (by omega)).2.2; rw [show (F 0).length = 0 by omega]; rfl, by have := (FACTS.out 0 (by omega)).2.2; rw [show (F 0).length = 0 by omega]; rfl, rfl, Below.refl _ _⟩
    case round =>
      obtain ⟨j, hj, rfl, rfl, rfl, rfl, hbl⟩ := hrel
      have p1 : wr.cell? ⟨w.heap.size, 1, none⟩ = some (.int .i64 line) := (hbl.cell (p := ⟨w.heap.size, 1, none⟩) hq2).trans q1
      obtain ⟨sj, hsj⟩ : ∃ sj, sj = secs S j := ⟨_, rfl⟩
      have hs2 := secs_succ S j
      rw [← hsj] at hs2 ⊢
      have HSJ := hidI hs2; clear hs2
      have HSK := hidI hsj; clear hsj
      by_cases hlt : j < 64
      · have c0 : wr.cell? ⟨b, off + 4 * j * 2, none⟩ = some (.int .u8 (V (4 * j))) := (hbl.cell (p := ⟨b, off + 4 * j * 2, none⟩) hbw2).trans (Hrow.out (4 * j) (by omega) 0 (by omega))
        have c1 : wr.cell? ⟨b, off + 4 * j * 2 + 1, none⟩ = some (.bool (S (4 * j))) := (hbl.cell (p := ⟨b, off + 4 * j * 2 + 1, none⟩) hbw2).trans (Hrow.out (4 * j) (by omega) 1 (by omega))
        obtain ⟨v0, v1⟩ := Hvl.out j hlt
        have FJ := hidI (FACTS.out j hlt)
        have hFl := FJ.out.2.2
        by_cases hon : 0 ≤ line - V (4 * j) ∧ line - V (4 * j) < 16
        · obtain ⟨g1, g2, g3⟩ := FJ.out.1 hon
          have G1 := hidI g1; have G2 := hidI g2; have G3 := hidI g3
          clear g1 g2 g3
          obtain ⟨hon0, hon1⟩ := hon
          by_cases h8 : (F j).length < 8
          · have hkm : (F j).length < m := by have := HM.out; have := G1.out; omega
            have hg : ∃ g go, ao = some ⟨g, go, none⟩ ∧ wr.cell? ⟨g, go + (F j).length, none⟩ = some (.int .i64 (j : Int)) := by
              obtain ⟨g, go, e, hlt2, hc2⟩ := hr (F j).length hkm
              refine ⟨g, go, e, ?_⟩
              have h9 : wr.cell? ⟨g, go + (F j).length * 1 + 0, none⟩ = some (Value.int .i64 (((F 64).getD (F j).length 0 : Nat) : Int)) := (hbl.cell (p := ⟨g, go + (F j).length * 1 + 0, none⟩) hlt2).trans (hc2 0 (by omega))
              rw [G2.out] at h9
              simpa using h9
            obtain ⟨g, go, rfl, cg⟩ := hg
            clear h8
            go_wp2
            all_goals go_quiet (fail)
            all_goals go_wp2
            all_goals
              go_roundw
              case rel => exact ⟨j + 1, by omega, by go_num, by rw [G3.out]; go_num, by rw [G3.out]; go_num, by rw [HSJ.out]; simp [*], below_drewN hbl _⟩
              case measure => simp [intOf]; omega
          · have h8' : 8 ≤ (F j).length := by omega
            have hm8' : 8 < (F 64).length := by have := G1.out; omega
            have hmo' := HMO.out
            rw [decide_eq_true hm8'] at hmo'
            exact absurd hmo' (by decide)
        · have g0 := FJ.out.2.1 hon
          have G0 := hidI g0; clear g0
          go_wp2
          all_goals go_quiet (fail)
          all_goals go_wp2
          all_goals
            go_roundw
            case rel => exact ⟨j + 1, by omega, by go_num, by rw [G0.out], by rw [G0.out], by rw [HSJ.out]; simp [*], below_drewN hbl _⟩
            case measure => simp [intOf]; omega
      · obtain rfl : j = 64 := by omega
        obtain rfl : se = sj := by rw [HSE.out, HSK.out]
        have hle : (F 64).length ≤ 8 := by have := HMO.out; simpa using this.symm
        obtain rfl : m = (F 64).length := by have := HM.out; omega
        have e8 : min ((F 64).length : Int) 8 = (F 64).length := by omega
        go_wp2_with fail
        refine (awake_any _).mono ?_
        rintro e w5 ⟨rfl, hb5⟩
        go_wp2
        go_ret
        exact ⟨rfl, (Hbl.trans (hbl.mono Hbl.size)).trans (hb5.mono (Nat.le_trans Hbl.size hbl.size))⟩
  · have hz8' : z = 8 := by rw [← hz8]; rfl
    subst hz8'
    clear hz8
    go_wp2_with fail
    go_loopw [10, 11, 12, 13] (fun k m s i wr => ∃ j : Nat, j ≤ 64 ∧ i = .int .i64 j ∧ k = .int .i64 (F j).length ∧ m = .int .i64 (F j).length ∧ s = .bool (secs S j) ∧ Below w2.heap.size w2 wr) (fun _ _ _ i _ => 64 - (intOf i).toNat)
    case atStart => exact ⟨0, Nat.zero_le _, rfl, by have := (FACTS.out 0 (by omega)).2.2; rw [show (F 0).length = 0 by omega]; rfl, by have := (FACTS.out 0 (by omega)).2.2; rw [show (F 0).length = 0 by omega]; rfl, rfl, Below.refl _ _⟩
    case round =>
      obtain ⟨j, hj, rfl, rfl, rfl, rfl, hbl⟩ := hrel
      have p1 : wr.cell? ⟨w.heap.size, 1, none⟩ = some (.int .i64 line) := (hbl.cell (p := ⟨w.heap.size, 1, none⟩) hq2).trans q1
      obtain ⟨sj, hsj⟩ : ∃ sj, sj = secs S j := ⟨_, rfl⟩
      have hs2 := secs_succ S j
      rw [← hsj] at hs2 ⊢
      have HSJ := hidI hs2; clear hs2
      have HSK := hidI hsj; clear hsj
      by_cases hlt : j < 64
      · have c0 : wr.cell? ⟨b, off + 4 * j * 2, none⟩ = some (.int .u8 (V (4 * j))) := (hbl.cell (p := ⟨b, off + 4 * j * 2, none⟩) hbw2).trans (Hrow.out (4 * j) (by omega) 0 (by omega))
        have c1 : wr.cell? ⟨b, off + 4 * j * 2 + 1, none⟩ = some (.bool (S (4 * j))) := (hbl.cell (p := ⟨b, off + 4 * j * 2 + 1, none⟩) hbw2).trans (Hrow.out (4 * j) (by omega) 1 (by omega))
        obtain ⟨v0, v1⟩ := Hvl.out j hlt
        have FJ := hidI (FACTS.out j hlt)
        have hFl := FJ.out.2.2
        by_cases hon : 0 ≤ line - V (4 * j) ∧ line - V (4 * j) < 8
        · obtain ⟨g1, g2, g3⟩ := FJ.out.1 hon
          have G1 := hidI g1; have G2 := hidI g2; have G3 := hidI g3
          clear g1 g2 g3
          obtain ⟨hon0, hon1⟩ := hon
          by_cases h8 : (F j).length < 8
          · have hkm : (F j).length < m := by have := HM.out; have := G1.out; omega
            have hg : ∃ g go, ao = some ⟨g, go, none⟩ ∧ wr.cell? ⟨g, go + (F j).length, none⟩ = some (.int .i64 (j : Int)) := by
              obtain ⟨g, go, e, hlt2, hc2⟩ := hr (F j).length hkm
              refine ⟨g, go, e, ?_⟩
              have h9 : wr.cell? ⟨g, go + (F j).length * 1 + 0, none⟩ = some (Value.int .i64 (((F 64).getD (F j).length 0 : Nat) : Int)) := (hbl.cell (p := ⟨g, go + (F j).length * 1 + 0, none⟩) hlt2).trans (hc2 0 (by omega))
              rw [G2.out] at h9
              simpa using h9
            obtain ⟨g, go, rfl, cg⟩ := hg
            clear h8
            go_wp2
            all_goals go_quiet (fail)
            all_goals go_wp2
            all_goals
              go_roundw
              case rel => exact ⟨j + 1, by omega, by go_num, by rw [G3.out]; go_num, by rw [G3.out]; go_num, by rw [HSJ.out]; simp [*], below_drewN hbl _⟩
              case measure => simp [intOf]; omega
          · have h8' : 8 ≤ (F j).length := by omega
            have hm8' : 8 < (F 64).length := by have := G1.out; omega
            have hmo' := HMO.out
            rw [decide_eq_true hm8'] at hmo'
            have HM8 : m = 8 := by have := HM.out; omega
            subst HM8
            clear hmo' hm8' h8
            go_wp2
            all_goals go_quiet (fail)
            all_goals go_wp2
            all_goals
              go_roundw
              case rel => exact ⟨j + 1, by omega, by go_num, by rw [G3.out]; go_num, by rw [G3.out]; go_num, by rw [HSJ.out]; simp [*], below_drewN hbl _⟩
              case measure => simp [intOf]; omega
        · have g0 := FJ.out.2.1 hon
          have G0 := hidI g0; clear g0
          go_wp2
          all_goals go_quiet (fail)
          all_goals go_wp2
          all_goals
            go_roundw
            case rel => exact ⟨j + 1, by omega, by go_num, by rw [G0.out], by rw [G0.out], by rw [HSJ.out]; simp [*], below_drewN hbl _⟩
            case measure => simp [intOf]; omega
      · obtain rfl : j = 64 := by omega
        obtain rfl : se = sj := by rw [HSE.out, HSK.out]
        have hgt : 8 < (F 64).length := by have := HMO.out; simpa using this.symm
        obtain rfl : m = 8 := by have := HM.out; omega
        have e8 : min ((F 64).length : Int) 8 = 8 := by omega
        go_wp2_with fail
        refine (awake_any _).mono ?_
        rintro e w5 ⟨rfl, hb5⟩
        go_wp2
        go_ret
        exact ⟨rfl, (Hbl.trans (hbl.mono Hbl.size)).trans (hb5.mono (Nat.le_trans Hbl.size hbl.size))⟩
  · have hz8' : z = 16 := by rw [← hz8]; rfl
    subst hz8'
    clear hz8
    go_wp2_with fail
    go_loopw [10, 11, 12, 13] (fun k m s i wr => ∃ j : Nat, j ≤ 64 ∧ i = .int .i64 j ∧ k = .int .i64 (F j).length ∧ m = .int .i64 (F j).length ∧ s = .bool (secs S j) ∧ Below w2.heap.size w2 wr) (fun _ _ _ i _ => 64 - (intOf i).toNat)
    case atStart => exact ⟨0, Nat.zero_le _, rfl, by have := (FACTS.out 0 (by omega)).2.2; rw [show (F 0).length = 0 by omega]; rfl, by have := (FACTS.out 0 (by omega)).2.2; rw [show (F 0).length = 0 by omega]; rfl, rfl, Below.refl _ _⟩
    case round =>
      obtain ⟨j, hj, rfl, rfl, rfl, rfl, hbl⟩ := hrel
      have p1 : wr.cell? ⟨w.heap.size, 1, none⟩ = some (.int .i64 line) := (hbl.cell (p := ⟨w.heap.size, 1, none⟩) hq2).trans q1
      obtain ⟨sj, hsj⟩ : ∃ sj, sj = secs S j := ⟨_, rfl⟩
      have hs2 := secs_succ S j
      rw [← hsj] at hs2 ⊢
      have HSJ := hidI hs2; clear hs2
      have HSK := hidI hsj; clear hsj
      by_cases hlt : j < 64
      · have c0 : wr.cell? ⟨b, off + 4 * j * 2, none⟩ = some (.int .u8 (V (4 * j))) := (hbl.cell (p := ⟨b, off + 4 * j * 2, none⟩) hbw2).trans (Hrow.out (4 * j) (by omega) 0 (by omega))
        have c1 : wr.cell? ⟨b, off + 4 * j * 2 + 1, none⟩ = some (.bool (S (4 * j))) := (hbl.cell (p := ⟨b, off + 4 * j * 2 + 1, none⟩) hbw2).trans (Hrow.out (4 * j) (by omega) 1 (by omega))
        obtain ⟨v0, v1⟩ := Hvl.out j hlt
        have FJ := hidI (FACTS.out j hlt)
        have hFl := FJ.out.2.2
        by_cases hon : 0 ≤ line - V (4 * j) ∧ line - V (4 * j) < 16
        · obtain ⟨g1, g2, g3⟩ := FJ.out.1 hon
          have G1 := hidI g1; have G2 := hidI g2; have G3 := hidI g3
          clear g1 g2 g3
          obtain ⟨hon0, hon1⟩ := hon
          by_cases h8 : (F j).length < 8
          · have hkm : (F j).length < m := by have := HM.out; have := G1.out; omega
            have hg : ∃ g go, ao = some ⟨g, go, none⟩ ∧ wr.cell? ⟨g, go + (F j).length, none⟩ = some (.int .i64 (j : Int)) := by
              obtain ⟨g, go, e, hlt2, hc2⟩ := hr (F j).length hkm
              refine ⟨g, go, e, ?_⟩
              have h9 : wr.cell? ⟨g, go + (F j).length * 1 + 0, none⟩ = some (Value.int .i64 (((F 64).getD (F j).length 0 : Nat) : Int)) := (hbl.cell (p := ⟨g, go + (F j).length * 1 + 0, none⟩) hlt2).trans (hc2 0 (by omega))
              rw [G2.out] at h9
              simpa using h9
            obtain ⟨g, go, rfl, cg⟩ := hg
            clear h8
            go_wp2
            all_goals go_quiet (fail)
            all_goals go_wp2
            all_goals
              go_roundw
              case rel => exact ⟨j + 1, by omega, by go_num, by rw [G3.out]; go_num, by rw [G3.out]; go_num, by rw [HSJ.out]; simp [*], below_drewN hbl _⟩
              case measure => simp [intOf]; omega
          · have h8' : 8 ≤ (F j).length := by omega
            have hm8' : 8 < (F 64).length := by have := G1.out; omega
            have hmo' := HMO.out
            rw [decide_eq_true hm8'] at hmo'
            have HM8 : m = 8 := by have := HM.out; omega
            subst HM8
            clear hmo' hm8' h8
            go_wp2
            all_goals go_quiet (fail)
            all_goals go_wp2
            all_goals
              go_roundw
              case rel => exact ⟨j + 1, by omega, by go_num, by rw [G3.out]; go_num, by rw [G3.out]; go_num, by rw [HSJ.out]; simp [*], below_drewN hbl _⟩
              case measure => simp [intOf]; omega
        · have g0 := FJ.out.2.1 hon
          have G0 := hidI g0; clear g0
          go_wp2
          all_goals go_quiet (fail)
          all_goals go_wp2
          all_goals
            go_roundw
            case rel => exact ⟨j + 1, by omega, by go_num, by rw [G0.out], by rw [G0.out], by rw [HSJ.out]; simp [*], below_drewN hbl _⟩
            case measure => simp [intOf]; omega
      · obtain rfl : j = 64 := by omega
        obtain rfl : se = sj := by rw [HSE.out, HSK.out]
        have hgt : 8 < (F 64).length := by have := HMO.out; simpa using this.symm
        obtain rfl : m = 8 := by have := HM.out; omega
        have e8 : min ((F 64).length : Int) 8 = 8 := by omega
        go_wp2_with fail
        refine (awake_any _).mono ?_
        rintro e w5 ⟨rfl, hb5⟩
        go_wp2
        go_ret
        exact ⟨rfl, (Hbl.trans (hbl.mono Hbl.size)).trans (hb5.mono (Nat.le_trans Hbl.size hbl.size))⟩
theorem finds_any (ao : Option Addr) (n cap : Nat) (V : Nat → Int) (S : Nat → Bool) (I line lv hv x : Int) (t tb ls hs : Bool) (w : World) (hc : n ≤ cap) (hV : ∀ i, i < n → 0 ≤ V i ∧ V i ≤ 255) (h : RowAt w ao n 2 (ByC V S)) :
    Calls Try.prog 3 #[.slice ao n cap, .agg #[.int .i64 I, .int .i64 line, .bool t, .bool tb, .int .u8 lv, .bool ls, .int .u8 hv, .bool hs, .int .i64 x]] w fun e w' => e = .returned (.bool true) ∧ Below w.heap.size w w' := by
  cases hm : mayB (min n 257) 0 line
  · exact finds_no ao n cap I line lv hv x t tb ls hs w hc hm
  · have hm' := hm
    unfold mayB at hm'
    rw [decide_eq_true_iff] at hm'
    obtain ⟨b, off, rfl, hb, hr⟩ := h.some (by omega)
    exact finds_yes b off n cap V S I line lv hv x t tb ls hs w hb hc hm'.1 hm'.2.2.2.1 hm'.2.2.2.2 (fun i hi => hV i (by omega)) (fun i hi => hr i (by omega))
end Go.Proofs.Ytdmcmlajpajaaaa
