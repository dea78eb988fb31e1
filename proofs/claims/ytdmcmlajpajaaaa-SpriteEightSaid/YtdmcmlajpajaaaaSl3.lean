import Derived.Test.YtdmcmlajpajaaaaSl2a
namespace Go.Proofs.Ytdmcmlajpajaaaa
open Go.RowKit Go.Sx
/-- What stands in the bytes: sprites from one on are on the line. -/
def vE (line : Int) (at_ n : Nat) (i : Nat) : Int := if i % 4 = 0 then (if at_ ≤ i / 4 ∧ i / 4 < at_ + n then line else (line + 100) % 256) else 0
theorem onE (line : Int) (t : Bool) (at_ n j : Nat) : onL (vE line at_ n (4 * j)) line t = decide (at_ ≤ j ∧ j < at_ + n) := by
  unfold onL vE
  rw [if_pos (by omega), show 4 * j / 4 = j by omega, decide_eq_decide]
  have hh : 8 ≤ hi t ∧ hi t ≤ 16 := by cases t <;> decide
  by_cases h : at_ ≤ j ∧ j < at_ + n
  · rw [if_pos h]; simp [h]; omega
  · rw [if_neg h]; simp only [h, iff_false]; omega
theorem fndE (line : Int) (t : Bool) (at_ n : Nat) : ∀ k, fnd (vE line at_ n) line t k = (List.range (min n (k - at_))).map (at_ + ·) := by
  intro k
  induction k with
  | zero => simp [fnd]
  | succ k ih =>
    rw [fnd_succ, ih, onE line t at_ n k]
    by_cases h : at_ ≤ k ∧ k < at_ + n
    · rw [decide_eq_true h, if_pos rfl, show min n (k + 1 - at_) = min n (k - at_) + 1 by omega, List.range_succ, List.map_append]
      simp; omega
    · rw [decide_eq_false h]
      simp
      by_cases h2 : k < at_
      · rw [show min n (k - at_) = 0 by omega, show min n (k + 1 - at_) = 0 by omega]
      · rw [show min n (k - at_) = n by omega, show min n (k + 1 - at_) = n by omega]
theorem fndE_len (line : Int) (t : Bool) (at_ n : Nat) (h : at_ + n ≤ 64) : (fnd (vE line at_ n) line t 64).length = n ∧ ∀ k, k < n → (fnd (vE line at_ n) line t 64).getD k 0 = at_ + k := by
  rw [fndE line t at_ n, show min n (64 - at_) = n by omega]
  refine ⟨by simp, fun k hk => ?_⟩
  simp [List.getD_eq_getElem?_getD, hk]
def vE1 (line : Int) (k i : Nat) : Int := if i % 4 = 0 ∧ i / 4 < k then (line + 100) % 256 else 0
theorem vE1_step (line : Int) (k i : Nat) : (if i = 4 * k then (line + 100) % 256 else vE1 line k i) = vE1 line (k + 1) i := by
  unfold vE1
  by_cases h : i = 4 * k
  · rw [if_pos h, if_pos (by omega)]
  · rw [if_neg h]
    by_cases h' : i % 4 = 0 ∧ i / 4 < k
    · rw [if_pos h', if_pos (by omega)]
    · rw [if_neg h', if_neg (by omega)]
theorem vE_step (line : Int) (at_ k i : Nat) : (if i = 4 * (at_ + k) then line else vE line at_ k i) = vE line at_ (k + 1) i := by
  unfold vE
  by_cases h : i = 4 * (at_ + k)
  · rw [if_pos h, if_pos (by omega), if_pos (by omega)]
  · rw [if_neg h]
    by_cases h4 : i % 4 = 0
    · rw [if_pos h4, if_pos h4]
      by_cases h' : at_ ≤ i / 4 ∧ i / 4 < at_ + k
      · rw [if_pos h', if_pos (by omega)]
      · rw [if_neg h', if_neg (by omega)]
    · rw [if_neg h4, if_neg h4]
theorem vE_in (line : Int) (at_ n i : Nat) (h0 : 0 ≤ line) (h1 : line ≤ 255) : 0 ≤ vE line at_ n i ∧ vE line at_ n i ≤ 255 := by
  unfold vE; split
  · split <;> omega
  · omega
set_option maxRecDepth 100000 in
set_option maxHeartbeats 3200000 in
theorem eight_any (line many from_ : Int) (t : Bool) (w : World) (hl0 : 0 ≤ line) (hl1 : line ≤ 255) (hm0 : 0 ≤ many) (hm1 : many ≤ 255) (hf0 : 0 ≤ from_) (hf1 : from_ ≤ 255) :
    Calls Try.prog 5 #[.agg #[.int .u8 line, .int .u8 many, .int .u8 from_, .bool t]] w fun e w' => e = .returned (.bool true) ∧ Below w.heap.size w w' := by
  obtain ⟨i0, hi, hz0, hz1, hz2⟩ := info_parts infoB
  go_enter Try.func5, Try.ntmps5
  go_wp2
  go_quiet (fail)
  go_wp2_with (at_make; go_loud (refine wpList_make_full _ rfl _ _ 22 rfl w.heap.size 24 i0 (.agg #[.int .u8 0, .bool false]) 2 Try.underlying22 hi hz0 hz1 .i64 .i64 256 256 256 rfl rfl rfl rfl (by rw [hz2]; decide) (by decide) (by simp) ?_); intro w1 hown hgrow)
  have es : ((w.alloc (Obj.cells #[Value.int IntKind.u8 line, Value.int IntKind.u8 many, Value.int IntKind.u8 from_, Value.bool t] 41)).drewN nq).heap.size = w.heap.size + 1 := by show (w.alloc _).heap.size = _; simp
  rw [es] at hown
  clear es
  have hz : OwnB w1 w.heap.size (w.heap.size + 1) (vE1 line 0) (fun _ => false) := ⟨_, hown, fun i hi j hj => by
    rw [Array.getElem?_toList]
    simp only [madeCells, Array.getElem?_map, Array.getElem?_range]
    rw [if_pos (by omega)]
    match j, hj with
    | 0, _ => simp [ByC, Value.cells, vE1]
    | 1, _ => simp [ByC, Value.cells]⟩
  have hb1 : Below w.heap.size w w1 := (below_drewN ((Below.refl _ _).alloc (Nat.le_refl _) _) _).grown hgrow (by show _ ≤ (w.alloc _).heap.size; simp) (fun k hk => by cases hk)
  clear hown hgrow
  go_loopw [9] (fun i wr => ∃ k : Nat, k ≤ 64 ∧ i = .int .i64 k ∧ OwnB wr w.heap.size (w.heap.size + 1) (vE1 line k) (fun _ => false) ∧ Below w.heap.size w wr) (fun i _ => 64 - (intOf i).toNat)
  case atStart => exact ⟨0, Nat.zero_le _, rfl, hz, hb1⟩
  case round =>
    obtain ⟨k, hk, rfl, hO, hbl⟩ := hrel
    clear hz hb1
    by_cases hlt : k < 64
    · have c0 : wr.cell? ⟨w.heap.size + 1, 4 * k * 2, none⟩ = some _ := hO.cell (i := 4 * k) (by omega) (j := 0) (by omega)
      have f0 := hO.frozen (4 * k * 2)
      go_wp2
      go_roundw
      case rel => exact ⟨k + 1, by omega, by go_num, (hO.store (k := 4 * k) _ (by omega)).vals (fun i hi => ⟨vE1_step line k i, rfl⟩), hbl.setCell (by simp) _⟩
      case measure => simp [intOf]; omega
    · have hO1 : OwnB wr w.heap.size (w.heap.size + 1) (vE line (from_ % 30).toNat 0) (fun _ => false) := hO.vals (fun i hi => ⟨by unfold vE vE1; split <;> split <;> first | rfl | omega | (rw [if_neg (by omega)]), rfl⟩)
      obtain ⟨n, hn, hn30⟩ : ∃ n : Nat, many % 30 = n ∧ n < 30 := ⟨(many % 30).toNat, by omega, by omega⟩
      obtain ⟨a, ha, ha30⟩ : ∃ n : Nat, from_ % 30 = n ∧ n < 30 := ⟨(from_ % 30).toNat, by omega, by omega⟩
      rw [ha, Int.toNat_natCast] at hO1
      clear hO
      go_wp2
      have HA := hidI ha; clear ha
      have HN := hidI hn; clear hn
      go_loopw [12] (fun i wx => ∃ j : Nat, j ≤ n ∧ i = .int .i64 j ∧ OwnB wx w.heap.size (w.heap.size + 1) (vE line a j) (fun _ => false) ∧ Below w.heap.size w wx) (fun i _ => n - (intOf i).toNat)
      case atStart => exact ⟨0, Nat.zero_le _, rfl, hO1, hbl⟩
      case round =>
        obtain ⟨j, hj, rfl, hO2, hbl2⟩ := hrel
        clear hO1 hbl
        by_cases hlt2 : j < n
        · have c0 : wr.cell? ⟨w.heap.size + 1, 4 * (a + j) * 2, none⟩ = some _ := hO2.cell (i := 4 * (a + j)) (by omega) (j := 0) (by omega)
          have f0 := hO2.frozen (4 * (a + j) * 2)
          go_wp2
          go_roundw
          case rel => exact ⟨j + 1, by omega, by go_num, (hO2.store (k := 4 * (a + j)) _ (by omega)).vals (fun i hi => ⟨vE_step line a j i, rfl⟩), hbl2.setCell (by simp) _⟩
          case measure => simp [intOf]; omega
        · obtain rfl : j = n := by omega
          go_wp2_with fail
          refine (Find_yes (w.heap.size + 1) 0 256 (vE line a j) (fun _ => false) line t _ hO2.lt.2 (Nat.le_refl _) hl0 hl1 (fun i _ => vE_in line a j i hl0 hl1) hO2.rows).mono ?_
          obtain ⟨e1, e2⟩ := fndE_len line t a j (by omega)
          rintro e w2 ⟨ao, m, cp, rfl, hm, hmc, hr, hb2⟩
          rw [e1] at hm
          rw [e1, show secs (fun _ => false) 64 = false by decide]
          generalize fnd (vE line a j) line t = F at hr e2
          clear e1
          have E2 := hidI e2; clear e2
          rcases Nat.lt_or_ge 8 j with h8 | h8
          · obtain rfl : m = 8 := by omega
            clear hm
            have e8 : min (j : Int) 8 = 8 := by omega
            go_wp2
            go_loop [17] (fun i => ∃ q : Nat, q ≤ 8 ∧ i = .int .i64 q) (fun i => 8 - (intOf i).toNat)
            case atStart => exact ⟨0, Nat.zero_le _, rfl⟩
            case round =>
              obtain ⟨q, hq, rfl⟩ := hrel
              by_cases hlt3 : q < 8
              · have hg : ∃ g go, ao = some ⟨g, go, none⟩ ∧ w2.cell? ⟨g, go + q, none⟩ = some (.int .i64 ((a : Int) + q)) := by
                  obtain ⟨g, go, e, _, hc2⟩ := hr q hlt3
                  refine ⟨g, go, e, ?_⟩
                  have h9 : w2.cell? ⟨g, go + q * 1 + 0, none⟩ = some (Value.int .i64 (((F 64).getD q 0 : Nat) : Int)) := hc2 0 (by omega)
                  rw [E2.out q (by omega)] at h9
                  simpa using h9
                obtain ⟨g, go, rfl, cg⟩ := hg
                go_wp2
                go_round
                case rel => exact ⟨q + 1, by omega, by go_num⟩
                case measure => simp [intOf]; omega
              · obtain rfl : q = 8 := by omega
                go_wp2_with fail
                refine (awake_any _).mono ?_
                rintro e w5 ⟨rfl, hb5⟩
                go_wp2
                go_ret
                have a1 := hbl2.trans (hb2.mono hbl2.size)
                exact ⟨rfl, a1.trans (hb5.mono a1.size)⟩
          · obtain rfl : m = j := by omega
            clear hm
            have e8 : min (m : Int) 8 = m := by omega
            go_wp2
            go_loop [17] (fun i => ∃ q : Nat, q ≤ m ∧ i = .int .i64 q) (fun i => m - (intOf i).toNat)
            case atStart => exact ⟨0, Nat.zero_le _, rfl⟩
            case round =>
              obtain ⟨q, hq, rfl⟩ := hrel
              by_cases hlt3 : q < m
              · have hg : ∃ g go, ao = some ⟨g, go, none⟩ ∧ w2.cell? ⟨g, go + q, none⟩ = some (.int .i64 ((a : Int) + q)) := by
                  obtain ⟨g, go, e, _, hc2⟩ := hr q hlt3
                  refine ⟨g, go, e, ?_⟩
                  have h9 : w2.cell? ⟨g, go + q * 1 + 0, none⟩ = some (Value.int .i64 (((F 64).getD q 0 : Nat) : Int)) := hc2 0 (by omega)
                  rw [E2.out q (by omega)] at h9
                  simpa using h9
                obtain ⟨g, go, rfl, cg⟩ := hg
                go_wp2
                go_round
                case rel => exact ⟨q + 1, by omega, by go_num⟩
                case measure => simp [intOf]; omega
              · obtain rfl : q = m := by omega
                go_wp2_with fail
                refine (awake_any _).mono ?_
                rintro e w5 ⟨rfl, hb5⟩
                go_wp2
                go_ret
                have a1 := hbl2.trans (hb2.mono hbl2.size)
                exact ⟨rfl, a1.trans (hb5.mono a1.size)⟩
end Go.Proofs.Ytdmcmlajpajaaaa
