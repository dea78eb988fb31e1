import Derived.Test.YtkhjfcbloahjeaaQm2
namespace Go.Proofs.Ytkhjfcbloahjeaa
open Go.RowKit Go.Sx
theorem rin_zero (ao : Option Addr) (c : Nat) (F T : Nat → Int) (at_ : Int) (w : World) : Calls Try.prog 16 #[.slice ao 0 c, .int .i64 at_] w fun e w' => e = .returned (.bool (inG F T 0 at_)) ∧ w = w' := by
  go_enter Try.func16, Try.ntmps16
  go_wp2
  refine wp_loop_rounds 1 ?_
  rw [rounds_succ]
  go_wp2
  go_ret
  exact ⟨rfl, rfl⟩
theorem inG_succ (F T : Nat → Int) (k : Nat) (at_ : Int) : inG F T (k + 1) at_ = (inG F T k at_ || decide (F k ≤ at_ ∧ at_ ≤ T k)) := by
  unfold inG; rw [List.range_succ, List.any_append]; simp
theorem rin_some (b off n c : Nat) (F T : Nat → Int) (at_ : Int) (w : World) (hl : n ≤ 1000000) (h : ∀ i, i < n → w.cell? ⟨b, off + i * 2, none⟩ = some (.int .i64 (F i)) ∧ w.cell? ⟨b, off + i * 2 + 1, none⟩ = some (.int .i64 (T i))) :
    Calls Try.prog 16 #[.slice (some ⟨b, off, none⟩) n c, .int .i64 at_] w fun e w' => e = .returned (.bool (inG F T n at_)) ∧ w = w' := by
  have H := hidI h; clear h
  go_enter Try.func16, Try.ntmps16
  go_wp2_with fail
  go_loop [5, 6] (fun m i => ∃ k j : Nat, k ≤ n ∧ i = .int .i64 k ∧ m = .int .i64 j ∧ j ≤ k ∧ decide (0 < j) = inG F T k at_) (fun _ i => n - (intOf i).toNat)
  case atStart => exact ⟨0, 0, Nat.zero_le _, rfl, rfl, Nat.le_refl _, rfl⟩
  case round =>
    obtain ⟨k, j, hk, rfl, rfl, hj, ht0⟩ := hrel
    have ht := hidI ht0; clear ht0
    by_cases hlt : k < n
    · have c0 := (H.out k hlt).1
      have c1 := (H.out k hlt).2
      go_wp2
      all_goals
        first
          | exact ⟨⟨k + 1, j + 1, by omega, by simp, by simp, by omega, by rw [inG_succ, ← ht.out, Bool.eq_iff_iff]; simp; omega⟩, by simp [intOf]; omega⟩
          | exact ⟨⟨k + 1, j, by omega, by simp, by simp, by omega, by rw [inG_succ, ← ht.out, Bool.eq_iff_iff]; simp; omega⟩, by simp [intOf]; omega⟩
    · obtain rfl : k = n := by omega
      go_wp2
      go_ret
      exact ⟨ret_bool ht.out, rfl⟩
theorem rin_any (ao : Option Addr) (n c : Nat) (F T : Nat → Int) (at_ : Int) (w : World) (hl : n ≤ 1000000) (h : RgAt w ao n F T) : Calls Try.prog 16 #[.slice ao n c, .int .i64 at_] w fun e w' => e = .returned (.bool (inG F T n at_)) ∧ w = w' := by
  by_cases hn : 0 < n
  · obtain ⟨b, off, rfl, hb, hc⟩ := h.get hn
    exact rin_some b off n c F T at_ w hl hc
  · obtain rfl : n = 0 := by omega
    exact rin_zero ao c F T at_ w
def eqR (A B : Nat → Int) (n m : Nat) : Bool := decide (n = m) && (List.range n).all fun k => decide (A k = B k)
set_option maxHeartbeats 800000 in
theorem equal_some (b off b' off' n c c' : Nat) (A B : Nat → Int) (w : World) (hl : n ≤ 1000000) (h : ∀ i, i < n → w.cell? ⟨b, off + i, none⟩ = some (.int .i64 (A i))) (h' : ∀ i, i < n → w.cell? ⟨b', off' + i, none⟩ = some (.int .i64 (B i))) :
    Calls Try.prog 30 #[.slice (some ⟨b, off, none⟩) n c, .slice (some ⟨b', off', none⟩) n c'] w fun e w' => e = .returned (.bool ((List.range n).all fun k => decide (A k = B k))) ∧ Below w.heap.size w w' := by
  obtain ⟨z, hz⟩ : ∃ z, z = ((List.range n).all fun k => decide (A k = B k)) := ⟨_, rfl⟩
  rw [← hz]
  have HZ := hidI hz; clear hz
  have H := hidI h; clear h
  have H' := hidI h'; clear h'
  go_enter Try.func30, Try.ntmps30
  go_wp2_with fail
  go_loopw [13] (fun i wr => ∃ k q : Nat, k ≤ n ∧ i = .int .i64 k ∧ ((List.range k).all fun k => decide (A k = B k)) = true ∧ wr = w.drewN q) (fun i _ => n - (intOf i).toNat)
  case atStart => exact ⟨0, 0, Nat.zero_le _, rfl, rfl, rfl⟩
  case round =>
    obtain ⟨k, q, hk, rfl, ht0, rfl⟩ := hrel
    have ht := hidI ht0; clear ht0
    by_cases hlt : k < n
    · have d1 : (w.drewN q).cell? ⟨b, off + k, none⟩ = some (.int .i64 (A k)) := H.out k hlt
      have d2 : (w.drewN q).cell? ⟨b', off' + k, none⟩ = some (.int .i64 (B k)) := H'.out k hlt
      have hlt' : (k : Int) < n := by omega
      go_upto_region 6 with fail
      refine wp_region_noPanic ?_
      refine wp_region_held_drew (S := (fun w' => w'.cell? ⟨b, off + k, none⟩ = some (.int .i64 (A k)) ∧ w'.cell? ⟨b', off' + k, none⟩ = some (.int .i64 (B k)))) (by kernel_rfl) ⟨d1, d2⟩ (fun hHeld => ?_)
      refine tk 0 (oi := ⟨_, _, _, _, _, _⟩) (v := ?_) rfl (by rfl) ?_ (by assumption) ?_; rotate_left; (focus (intro w hSw; (try dsimp only at hSw); go_simp; with_reducible rfl)); simp only [Act.put, tA, tB, tC]
      refine tk 1 (oi := ⟨_, _, _, _, _, _⟩) (v := ?_) rfl (by rfl) ?_ (by assumption) ?_; rotate_left; (focus (intro w hSw; (try dsimp only at hSw); go_simp; with_reducible rfl)); simp only [Act.put, tA, tB, tC]
      refine tk 2 (oi := ⟨_, _, _, _, _, _⟩) (v := ?_) rfl (by rfl) ?_ (by assumption) ?_; rotate_left; (focus (intro w hSw; (try dsimp only at hSw); go_simp; with_reducible rfl)); simp only [Act.put, tA, tB, tC]
      refine tk 3 (oi := ⟨_, _, _, _, _, _⟩) (v := ?_) rfl (by rfl) ?_ (by assumption) ?_; rotate_left; (focus (intro w hSw; (try dsimp only at hSw); go_simp; with_reducible rfl)); simp only [Act.put, tA, tB, tC]
      refine tk 4 (oi := ⟨_, _, _, _, _, _⟩) (v := ?_) rfl (by rfl) ?_ (by assumption) ?_; rotate_left; (focus (intro w hSw; (try dsimp only at hSw); go_simp; with_reducible rfl)); simp only [Act.put, tA, tB, tC]
      refine tk 5 (oi := ⟨_, _, _, _, _, _⟩) (v := ?_) rfl (by rfl) ?_ (by assumption) ?_; rotate_left; (focus (intro w hSw; (try dsimp only at hSw); go_simp; with_reducible rfl)); simp only [Act.put, tA, tB, tC]
      refine tk 6 (oi := ⟨_, _, _, _, _, _⟩) (v := ?_) rfl (by rfl) ?_ (by assumption) ?_; rotate_left; (focus (intro w hSw; (try dsimp only at hSw); go_simp; with_reducible rfl)); simp only [Act.put, tA, tB, tC]
      refine tk 7 (oi := ⟨_, _, _, _, _, _⟩) (v := ?_) rfl (by rfl) ?_ (by assumption) ?_; rotate_left; (focus (intro w hSw; (try dsimp only at hSw); go_simp; with_reducible rfl)); simp only [Act.put, tA, tB, tC]
      refine tk 8 (oi := ⟨_, _, _, _, _, _⟩) (v := ?_) rfl (by rfl) ?_ (by assumption) ?_; rotate_left; (focus (intro w hSw; (try dsimp only at hSw); go_simp; with_reducible rfl)); simp only [Act.put, tA, tB, tC]
      refine wpAnyH_done (by kernel_rfl) (NoPanic.normal ?_) _
      go_wp2_with fail
      · go_ret
        have h : (A k != B k) = true := by assumption
        exact ⟨ret_bool (by rw [HZ.out, (all_succ (p := fun k => decide (A k = B k)) hlt ht.out).2 (by simpa using h)]), (below_drewN (Below.refl _ _) _).drew⟩
      · have h : (A k != B k) = false := by assumption
        exact ⟨⟨k + 1, q + 1, by omega, by simp, (all_succ (p := fun k => decide (A k = B k)) hlt ht.out).1 (by simpa using h), rfl⟩, by simp [intOf]; omega⟩
    · obtain rfl : k = n := by omega
      go_wp2
      go_ret
      exact ⟨ret_bool (by rw [HZ.out, ht.out]), below_drewN (Below.refl _ _) _⟩
theorem equal_zero (ao ao' : Option Addr) (c c' : Nat) (w : World) : Calls Try.prog 30 #[.slice ao 0 c, .slice ao' 0 c'] w fun e w' => e = .returned (.bool true) ∧ Below w.heap.size w w' := by
  go_enter Try.func30, Try.ntmps30
  go_wp2
  refine wp_loop_rounds 1 ?_
  rw [rounds_succ]
  go_wp2
  go_ret
  exact ⟨rfl, Below.refl _ _⟩
theorem equal_ne (ao ao' : Option Addr) (n m c c' : Nat) (w : World) (h : n ≠ m) : Calls Try.prog 30 #[.slice ao n c, .slice ao' m c'] w fun e w' => e = .returned (.bool false) ∧ Below w.heap.size w w' := by
  have h' : (n : Int) ≠ m := by omega
  go_enter Try.func30, Try.ntmps30
  go_wp2
  go_ret
  exact ⟨rfl, Below.refl _ _⟩
theorem equal_any (ao ao' : Option Addr) (n m c c' : Nat) (A B : Nat → Int) (w : World) (hl : n ≤ 1000000) (h : IntsAt w ao n A) (h' : IntsAt w ao' m B) : Calls Try.prog 30 #[.slice ao n c, .slice ao' m c'] w fun e w' => e = .returned (.bool (eqR A B n m)) ∧ Below w.heap.size w w' := by
  by_cases e : n = m
  · subst e
    unfold eqR
    rw [decide_eq_true rfl, Bool.true_and]
    by_cases hn : 0 < n
    · obtain ⟨b, off, rfl, hb, hc⟩ := h.some hn
      obtain ⟨b', off', rfl, hb', hc'⟩ := h'.some hn
      exact equal_some b off b' off' n c c' A B w hl (fun i hi => by have := hc i hi 0 (by omega); rw [Nat.mul_one, Nat.add_zero] at this; exact this) (fun i hi => by have := hc' i hi 0 (by omega); rw [Nat.mul_one, Nat.add_zero] at this; exact this)
    · obtain rfl : n = 0 := by omega
      exact equal_zero ao ao' c c' w
  · unfold eqR
    rw [decide_eq_false e, Bool.false_and]
    exact equal_ne ao ao' n m c c' w e
set_option maxHeartbeats 800000 in
theorem rsame_some (b off b' off' n c c' : Nat) (A B : Nat → Int) (w : World) (hl : n ≤ 1000000) (h : ∀ i, i < n → w.cell? ⟨b, off + i, none⟩ = some (.int .i64 (A i))) (h' : ∀ i, i < n → w.cell? ⟨b', off' + i, none⟩ = some (.int .i64 (B i))) :
    Calls Try.prog 33 #[.slice (some ⟨b, off, none⟩) n c, .slice (some ⟨b', off', none⟩) n c'] w fun e w' => e = .returned (.bool ((List.range n).all fun k => decide (A k = B k))) ∧ Below w.heap.size w w' := by
  obtain ⟨z, hz⟩ : ∃ z, z = ((List.range n).all fun k => decide (A k = B k)) := ⟨_, rfl⟩
  rw [← hz]
  have HZ := hidI hz; clear hz
  have H := hidI h; clear h
  have H' := hidI h'; clear h'
  go_enter Try.func33, Try.ntmps33
  go_wp2_with fail
  go_loopw [5] (fun i wr => ∃ k q : Nat, k ≤ n ∧ i = .int .i64 k ∧ ((List.range k).all fun k => decide (A k = B k)) = true ∧ wr = w.drewN q) (fun i _ => n - (intOf i).toNat)
  case atStart => exact ⟨0, 0, Nat.zero_le _, rfl, rfl, rfl⟩
  case round =>
    obtain ⟨k, q, hk, rfl, ht0, rfl⟩ := hrel
    have ht := hidI ht0; clear ht0
    by_cases hlt : k < n
    · have d1 : (w.drewN q).cell? ⟨b, off + k, none⟩ = some (.int .i64 (A k)) := H.out k hlt
      have d2 : (w.drewN q).cell? ⟨b', off' + k, none⟩ = some (.int .i64 (B k)) := H'.out k hlt
      have hlt' : (k : Int) < n := by omega
      go_upto_region 6 with fail
      refine wp_region_noPanic ?_
      refine wp_region_held_drew (S := (fun w' => w'.cell? ⟨b, off + k, none⟩ = some (.int .i64 (A k)) ∧ w'.cell? ⟨b', off' + k, none⟩ = some (.int .i64 (B k)))) (by kernel_rfl) ⟨d1, d2⟩ (fun hHeld => ?_)
      refine tk 0 (oi := ⟨_, _, _, _, _, _⟩) (v := ?_) rfl (by rfl) ?_ (by assumption) ?_; rotate_left; (focus (intro w hSw; (try dsimp only at hSw); go_simp; with_reducible rfl)); simp only [Act.put, tA, tB, tC]
      refine tk 1 (oi := ⟨_, _, _, _, _, _⟩) (v := ?_) rfl (by rfl) ?_ (by assumption) ?_; rotate_left; (focus (intro w hSw; (try dsimp only at hSw); go_simp; with_reducible rfl)); simp only [Act.put, tA, tB, tC]
      refine tk 2 (oi := ⟨_, _, _, _, _, _⟩) (v := ?_) rfl (by rfl) ?_ (by assumption) ?_; rotate_left; (focus (intro w hSw; (try dsimp only at hSw); go_simp; with_reducible rfl)); simp only [Act.put, tA, tB, tC]
      refine tk 3 (oi := ⟨_, _, _, _, _, _⟩) (v := ?_) rfl (by rfl) ?_ (by assumption) ?_; rotate_left; (focus (intro w hSw; (try dsimp only at hSw); go_simp; with_reducible rfl)); simp only [Act.put, tA, tB, tC]
      refine tk 4 (oi := ⟨_, _, _, _, _, _⟩) (v := ?_) rfl (by rfl) ?_ (by assumption) ?_; rotate_left; (focus (intro w hSw; (try dsimp only at hSw); go_simp; with_reducible rfl)); simp only [Act.put, tA, tB, tC]
      refine tk 5 (oi := ⟨_, _, _, _, _, _⟩) (v := ?_) rfl (by rfl) ?_ (by assumption) ?_; rotate_left; (focus (intro w hSw; (try dsimp only at hSw); go_simp; with_reducible rfl)); simp only [Act.put, tA, tB, tC]
      refine tk 6 (oi := ⟨_, _, _, _, _, _⟩) (v := ?_) rfl (by rfl) ?_ (by assumption) ?_; rotate_left; (focus (intro w hSw; (try dsimp only at hSw); go_simp; with_reducible rfl)); simp only [Act.put, tA, tB, tC]
      refine tk 7 (oi := ⟨_, _, _, _, _, _⟩) (v := ?_) rfl (by rfl) ?_ (by assumption) ?_; rotate_left; (focus (intro w hSw; (try dsimp only at hSw); go_simp; with_reducible rfl)); simp only [Act.put, tA, tB, tC]
      refine tk 8 (oi := ⟨_, _, _, _, _, _⟩) (v := ?_) rfl (by rfl) ?_ (by assumption) ?_; rotate_left; (focus (intro w hSw; (try dsimp only at hSw); go_simp; with_reducible rfl)); simp only [Act.put, tA, tB, tC]
      refine wpAnyH_done (by kernel_rfl) (NoPanic.normal ?_) _
      go_wp2_with fail
      · go_ret
        have h : (A k != B k) = true := by assumption
        exact ⟨ret_bool (by rw [HZ.out, (all_succ (p := fun k => decide (A k = B k)) hlt ht.out).2 (by simpa using h)]), (below_drewN (Below.refl _ _) _).drew⟩
      · have h : (A k != B k) = false := by assumption
        exact ⟨⟨k + 1, q + 1, by omega, by simp, (all_succ (p := fun k => decide (A k = B k)) hlt ht.out).1 (by simpa using h), rfl⟩, by simp [intOf]; omega⟩
    · obtain rfl : k = n := by omega
      go_wp2
      go_ret
      exact ⟨ret_bool (by rw [HZ.out, ht.out]), below_drewN (Below.refl _ _) _⟩
theorem rsame_zero (ao ao' : Option Addr) (c c' : Nat) (w : World) : Calls Try.prog 33 #[.slice ao 0 c, .slice ao' 0 c'] w fun e w' => e = .returned (.bool true) ∧ Below w.heap.size w w' := by
  go_enter Try.func33, Try.ntmps33
  go_wp2
  refine wp_loop_rounds 1 ?_
  rw [rounds_succ]
  go_wp2
  go_ret
  exact ⟨rfl, Below.refl _ _⟩
theorem rsame_ne (ao ao' : Option Addr) (n m c c' : Nat) (w : World) (h : n ≠ m) : Calls Try.prog 33 #[.slice ao n c, .slice ao' m c'] w fun e w' => e = .returned (.bool false) ∧ Below w.heap.size w w' := by
  have h' : (n : Int) ≠ m := by omega
  go_enter Try.func33, Try.ntmps33
  go_wp2
  go_ret
  exact ⟨rfl, Below.refl _ _⟩
theorem rsame_any (ao ao' : Option Addr) (n m c c' : Nat) (A B : Nat → Int) (w : World) (hl : n ≤ 1000000) (h : IntsAt w ao n A) (h' : IntsAt w ao' m B) : Calls Try.prog 33 #[.slice ao n c, .slice ao' m c'] w fun e w' => e = .returned (.bool (eqR A B n m)) ∧ Below w.heap.size w w' := by
  by_cases e : n = m
  · subst e
    unfold eqR
    rw [decide_eq_true rfl, Bool.true_and]
    by_cases hn : 0 < n
    · obtain ⟨b, off, rfl, hb, hc⟩ := h.some hn
      obtain ⟨b', off', rfl, hb', hc'⟩ := h'.some hn
      exact rsame_some b off b' off' n c c' A B w hl (fun i hi => by have := hc i hi 0 (by omega); rw [Nat.mul_one, Nat.add_zero] at this; exact this) (fun i hi => by have := hc' i hi 0 (by omega); rw [Nat.mul_one, Nat.add_zero] at this; exact this)
    · obtain rfl : n = 0 := by omega
      exact rsame_zero ao ao' c c' w
  · unfold eqR
    rw [decide_eq_false e, Bool.false_and]
    exact rsame_ne ao ao' n m c c' w e
end Go.Proofs.Ytkhjfcbloahjeaa
namespace Go.Proofs.Ytkhjfcbloahjeaa
open Go.RowKit Go.Sx
theorem sc2 (w : World) (p : ByteArray) (ao : Option Addr) (n c : Nat) (sv rm : ByteArray) (p' : ByteArray) (ao' : Option Addr) (n' c' : Nat) (sv' rm' : ByteArray) {w' : World} (hb : Below (w.heap.size + 1 + 1) ((w.alloc (.cells #[.string p, .slice ao n c, .string sv, .string rm] 28)).alloc (.cells #[.string p', .slice ao' n' c', .string sv', .string rm'] 28)) w') :
    ScAt w' w.heap.size p ao n c sv rm ∧ ScAt w' (w.heap.size + 1) p' ao' n' c' sv' rm' := ⟨(hb.block _ (by omega)).trans (blk_alloc (blk_new _ _) _), (hb.block _ (by omega)).trans (blk_new' _ (by simp))⟩
def eqS (p p' : ByteArray) : Bool := p.toList == p'.toList
def sameB (p : ByteArray) (n : Nat) (sv rm : ByteArray) (R : Nat → Int) (p' : ByteArray) (n' : Nat) (sv' rm' : ByteArray) (R' : Nat → Int) : Bool := eqS p p' && eqR R R' n n' && eqS sv sv' && eqS rm rm'
set_option maxHeartbeats 1600000 in
theorem same_any (p : ByteArray) (ao : Option Addr) (n c : Nat) (sv rm : ByteArray) (R : Nat → Int) (p' : ByteArray) (ao' : Option Addr) (n' c' : Nat) (sv' rm' : ByteArray) (R' : Nat → Int) (w : World) (hl : n ≤ 1000000) (h : IntsAt w ao n R) (h' : IntsAt w ao' n' R') :
    Calls Try.prog 14 #[scV p ao n c sv rm, scV p' ao' n' c' sv' rm'] w fun e w' => e = .returned (.bool (sameB p n sv rm R p' n' sv' rm' R')) ∧ Below w.heap.size w w' := by
  have b0 : Below w.heap.size w ((w.alloc (.cells #[.string p, .slice ao n c, .string sv, .string rm] 28)).alloc (.cells #[.string p', .slice ao' n' c', .string sv', .string rm'] 28)) := ((Below.refl _ _).alloc (Nat.le_refl _) _).alloc (by simp) _
  obtain ⟨z, hz⟩ : ∃ z, z = sameB p n sv rm R p' n' sv' rm' R' := ⟨_, rfl⟩
  rw [← hz]
  have HZ := hidI hz; clear hz
  go_enter Try.func14, Try.ntmps14
  cases h1 : (p.toList == p'.toList)
  · go_wp2_with fail
    all_goals first
      | (go_ret; exact ⟨ret_bool (by rw [HZ.out, sameB, eqS, h1]; rfl), b0⟩)
      | (exfalso; simp_all; done)
  · have H1 : Hid (eqS p p' = true) := h1
    go_wp2_with fail
    all_goals try (exfalso; simp_all; done)
    refine (rsame_any ao ao' n n' c c' R R' _ hl (h.below b0) (h'.below b0)).mono ?_
    rintro e w1 ⟨rfl, b1⟩
    obtain ⟨S1, S2⟩ := sc2 w p ao n c sv rm p' ao' n' c' sv' rm' (b1.mono (by simp))
    have B1 := b0.trans (b1.mono b0.size)
    clear b1 b0
    have c2 : w1.cell? ⟨w.heap.size, 2, none⟩ = some (.string sv) := blk_cell S1 2
    have c3 : w1.cell? ⟨w.heap.size, 3, none⟩ = some (.string rm) := blk_cell S1 3
    have d2 : w1.cell? ⟨w.heap.size + 1, 2, none⟩ = some (.string sv') := blk_cell S2 2
    have d3 : w1.cell? ⟨w.heap.size + 1, 3, none⟩ = some (.string rm') := blk_cell S2 3
    cases h2 : eqR R R' n n'
    · have H2 := hidI h2; clear h2
      go_wp2_with fail
      go_ret
      exact ⟨ret_bool (by rw [HZ.out, sameB, H1.out, H2.out]; rfl), B1⟩
    · have H2 := hidI h2; clear h2
      go_wp2_with fail
      all_goals
        go_ret
        exact ⟨ret_bool (by rw [HZ.out, sameB, H1.out, H2.out, eqS, eqS]; simp [*]), B1⟩
end Go.Proofs.Ytkhjfcbloahjeaa
namespace Go.Proofs.Ytkhjfcbloahjeaa
open Go.RowKit Go.Sx
/-- A policy in a block of its own. -/
def PoAt (w : World) (g : Nat) (p0 p1 : Bool) (ra : Option Addr) (rn rc : Nat) (sa : Option Addr) (sn sc : Nat) : Prop := w.heap[g]? = some (.cells #[.bool p0, .bool p1, .slice ra rn rc, .slice sa sn sc] 25 (0, 0))
theorem PoAt.below {w w' : World} {g : Nat} {p0 p1 : Bool} {ra : Option Addr} {rn rc : Nat} {sa : Option Addr} {sn sc : Nat} (h : PoAt w g p0 p1 ra rn rc sa sn sc) (hb : Below w.heap.size w w') : PoAt w' g p0 p1 ra rn rc sa sn sc := (hb.block _ (blk_lt h)).trans h
/-- Two texts are the same wherever nothing is secret. -/
def lowB (x y : ByteArray) (sec : Nat → Bool) : Bool := ((List.range (min x.size y.size)).all fun i => decide (bt x i = bt y i) || sec i) && decide (x.size = y.size)
set_option maxRecDepth 100000 in
set_option maxHeartbeats 3200000 in
theorem low0 (x y : ByteArray) (g : Nat) (p0 p1 : Bool) (ra : Option Addr) (rn rc : Nat) (sa : Option Addr) (sn sc : Nat) (F T F' T' : Nat → Int) (kind : Int) (w : World) (hx : x.size ≤ 1000000) (hy : y.size ≤ 1000000) (hP : PolAt w ra rn rc sa sn sc F T F' T') (hG : PoAt w g p0 p1 ra rn rc sa sn sc) :
    Calls Try.prog 31 #[.string x, .string y, .int .i64 kind, .int .i64 0, .pointer (some ⟨g, 0, none⟩)] w fun e w' => e = .returned (.bool (lowB x y fun i => secB p0 p1 rn sn F T F' T' kind (i : Int))) ∧ Below w.heap.size w w' := by
  obtain ⟨z, hz⟩ : ∃ z, z = lowB x y fun i => secB p0 p1 rn sn F T F' T' kind (i : Int) := ⟨_, rfl⟩
  rw [← hz]
  have HZ := hidI hz; clear hz
  rcases Nat.lt_or_ge y.size x.size with hxy | hxy
  · have hxy' : y.size < x.size := hxy
    go_enter Try.func31, Try.ntmps31
    go_wp2_with fail
    go_loopw [17] (fun i wr => ∃ k : Nat, k ≤ y.size ∧ i = .int .i64 k ∧ ((List.range k).all fun i => decide (bt x i = bt y i) || secB p0 p1 rn sn F T F' T' kind (i : Int)) = true ∧ Below w.heap.size w wr) (fun i _ => y.size - (intOf i).toNat)
    case atStart => exact ⟨0, Nat.zero_le _, rfl, rfl, Below.refl _ _⟩
    case round =>
      obtain ⟨k, hk, rfl, ht0, hbl⟩ := hrel
      have ht := hidI ht0; clear ht0
      have Gr := hG.below hbl
      have Pr := hP.below hbl
      have hkx : k ≤ x.size := by omega
      by_cases hlt : k < y.size
      · have hltm : k < min x.size y.size := by omega
        have h1 : k < x.size := by omega
        have h2 : k < y.size := by omega
        obtain ⟨a, ha⟩ : ∃ a, a = bt x k := ⟨_, rfl⟩
        obtain ⟨b, hb⟩ : ∃ b, b = bt y k := ⟨_, rfl⟩
        have x0 : ((x[k]'h1).toNat : Int) = a := (bt_eq x k h1).trans ha.symm
        have x1 : ((y[k]'h2).toNat : Int) = b := (bt_eq y k h2).trans hb.symm
        have k1 : (0 : Int) ≤ (k : Int) := by omega
        have k2 : (k : Int) < x.size := by omega
        have k3 : (k : Int) < y.size := by omega
        by_cases hab : a = b
        · have HE : Hid (decide (bt x k = bt y k) = true) := by show _ = _; rw [← ha, ← hb]; simpa using hab
          clear ha hb
          subst hab
          go_upto_region 7 with fail
          refine wp_region_noPanic ?_
          refine wp_region_held_drew (S := (fun w' => w'.cell? ⟨g, 0, none⟩ = some (.bool p0) ∧ w'.cell? ⟨g, 1, none⟩ = some (.bool p1) ∧ w'.cell? ⟨g, 2, none⟩ = some (.slice ra rn rc) ∧ w'.cell? ⟨g, 3, none⟩ = some (.slice sa sn sc))) (by kernel_rfl) ⟨blk_cell Gr 0, blk_cell Gr 1, blk_cell Gr 2, blk_cell Gr 3⟩ (fun hHeld => ?_)
          refine tk 0 (oi := ⟨_, _, _, _, _, _⟩) (v := ?_) rfl (by rfl) ?_ (by assumption) ?_; rotate_left; (focus (intro w hSw; (try dsimp only at hSw); go_simp; with_reducible rfl)); simp only [Act.put, tA, tB, tC]
          refine tk 1 (oi := ⟨_, _, _, _, _, _⟩) (v := ?_) rfl (by rfl) ?_ (by assumption) ?_; rotate_left; (focus (intro w hSw; (try dsimp only at hSw); go_simp; with_reducible rfl)); simp only [Act.put, tA, tB, tC]
          refine tk 2 (oi := ⟨_, _, _, _, _, _⟩) (v := ?_) rfl (by rfl) ?_ (by assumption) ?_; rotate_left; (focus (intro w hSw; (try dsimp only at hSw); go_simp; with_reducible rfl)); simp only [Act.put, tA, tB, tC]
          refine tk 3 (oi := ⟨_, _, _, _, _, _⟩) (v := ?_) rfl (by rfl) ?_ (by assumption) ?_; rotate_left; (focus (intro w hSw; (try dsimp only at hSw); go_simp; with_reducible rfl)); simp only [Act.put, tA, tB, tC]
          refine tk 4 (oi := ⟨_, _, _, _, _, _⟩) (v := ?_) rfl (by rfl) ?_ (by assumption) ?_; rotate_left; (focus (intro w hSw; (try dsimp only at hSw); go_simp; with_reducible rfl)); simp only [Act.put, tA, tB, tC]
          refine tk 5 (oi := ⟨_, _, _, _, _, _⟩) (v := ?_) rfl (by rfl) ?_ (by assumption) ?_; rotate_left; (focus (intro w hSw; (try dsimp only at hSw); go_simp; with_reducible rfl)); simp only [Act.put, tA, tB, tC]
          refine tk 6 (oi := ⟨_, _, _, _, _, _⟩) (v := ?_) rfl (by rfl) ?_ (by assumption) ?_; rotate_left; (focus (intro w hSw; (try dsimp only at hSw); go_simp; with_reducible rfl)); simp only [Act.put, tA, tB, tC]
          refine tk 7 (oi := ⟨_, _, _, _, _, _⟩) (v := ?_) rfl (by rfl) ?_ (by assumption) ?_; rotate_left; (focus (intro w hSw; (try dsimp only at hSw); go_simp; with_reducible rfl)); simp only [Act.put, tA, tB, tC]
          refine tn 8 (oi := ⟨_, _, _, _, _, _⟩) rfl (by rfl) (by assumption) ?_; simp only [Act.put, tA, tB, tC]
          refine tn 9 (oi := ⟨_, _, _, _, _, _⟩) rfl (by rfl) (by assumption) ?_; simp only [Act.put, tA, tB, tC]
          refine tn 10 (oi := ⟨_, _, _, _, _, _⟩) rfl (by rfl) (by assumption) ?_; simp only [Act.put, tA, tB, tC]
          refine tn 11 (oi := ⟨_, _, _, _, _, _⟩) rfl (by rfl) (by assumption) ?_; simp only [Act.put, tA, tB, tC]
          refine tn 12 (oi := ⟨_, _, _, _, _, _⟩) rfl (by rfl) (by assumption) ?_; simp only [Act.put, tA, tB, tC]
          refine tk 13 (oi := ⟨_, _, _, _, _, _⟩) (v := ?_) rfl (by rfl) ?_ (by assumption) ?_; rotate_left; (focus (intro w hSw; (try dsimp only at hSw); go_simp; with_reducible rfl)); simp only [Act.put, tA, tB, tC]
          refine wpAnyH_done (by kernel_rfl) (NoPanic.normal ?_) _
          go_wp2_with fail
          exact ⟨⟨k + 1, by omega, by simp, (all_succ (p := fun i => decide (bt x i = bt y i) || secB p0 p1 rn sn F T F' T' kind (i : Int)) hltm ht.out).1 (by simp only [HE.out, Bool.true_or]), hbl.drew⟩, by simp [intOf]; omega⟩
        · have HE : Hid (decide (bt x k = bt y k) = false) := by show _ = _; rw [← ha, ← hb]; simpa using hab
          have hne : (a != b) = true := by simpa using hab
          clear ha hb
          cases hs : secB p0 p1 rn sn F T F' T' kind (k : Int)
          · have HS := hidI hs; clear hs
            go_upto_region 7 with fail
            refine wp_region_noPanic ?_
            refine wp_region_held_drew (S := (fun w' => w'.cell? ⟨g, 0, none⟩ = some (.bool p0) ∧ w'.cell? ⟨g, 1, none⟩ = some (.bool p1) ∧ w'.cell? ⟨g, 2, none⟩ = some (.slice ra rn rc) ∧ w'.cell? ⟨g, 3, none⟩ = some (.slice sa sn sc))) (by kernel_rfl) ⟨blk_cell Gr 0, blk_cell Gr 1, blk_cell Gr 2, blk_cell Gr 3⟩ (fun hHeld => ?_)
            refine tk 0 (oi := ⟨_, _, _, _, _, _⟩) (v := ?_) rfl (by rfl) ?_ (by assumption) ?_; rotate_left; (focus (intro w hSw; (try dsimp only at hSw); go_simp; with_reducible rfl)); simp only [Act.put, tA, tB, tC]
            refine tk 1 (oi := ⟨_, _, _, _, _, _⟩) (v := ?_) rfl (by rfl) ?_ (by assumption) ?_; rotate_left; (focus (intro w hSw; (try dsimp only at hSw); go_simp; with_reducible rfl)); simp only [Act.put, tA, tB, tC]
            refine tk 2 (oi := ⟨_, _, _, _, _, _⟩) (v := ?_) rfl (by rfl) ?_ (by assumption) ?_; rotate_left; (focus (intro w hSw; (try dsimp only at hSw); go_simp; with_reducible rfl)); simp only [Act.put, tA, tB, tC]
            refine tk 3 (oi := ⟨_, _, _, _, _, _⟩) (v := ?_) rfl (by rfl) ?_ (by assumption) ?_; rotate_left; (focus (intro w hSw; (try dsimp only at hSw); go_simp; with_reducible rfl)); simp only [Act.put, tA, tB, tC]
            refine tk 4 (oi := ⟨_, _, _, _, _, _⟩) (v := ?_) rfl (by rfl) ?_ (by assumption) ?_; rotate_left; (focus (intro w hSw; (try dsimp only at hSw); go_simp; with_reducible rfl)); simp only [Act.put, tA, tB, tC]
            refine tk 5 (oi := ⟨_, _, _, _, _, _⟩) (v := ?_) rfl (by rfl) ?_ (by assumption) ?_; rotate_left; (focus (intro w hSw; (try dsimp only at hSw); go_simp; with_reducible rfl)); simp only [Act.put, tA, tB, tC]
            refine tk 6 (oi := ⟨_, _, _, _, _, _⟩) (v := ?_) rfl (by rfl) ?_ (by assumption) ?_; rotate_left; (focus (intro w hSw; (try dsimp only at hSw); go_simp; with_reducible rfl)); simp only [Act.put, tA, tB, tC]
            refine tk 7 (oi := ⟨_, _, _, _, _, _⟩) (v := ?_) rfl (by rfl) ?_ (by assumption) ?_; rotate_left; (focus (intro w hSw; (try dsimp only at hSw); go_simp; with_reducible rfl)); simp only [Act.put, tA, tB, tC]
            refine tk 8 (oi := ⟨_, _, _, _, _, _⟩) (v := ?_) rfl (by rfl) ?_ (by assumption) ?_; rotate_left; (focus (intro w hSw; (try dsimp only at hSw); go_simp; with_reducible rfl)); simp only [Act.put, tA, tB, tC]
            refine tk 9 (oi := ⟨_, _, _, _, _, _⟩) (v := ?_) rfl (by rfl) ?_ (by assumption) ?_; rotate_left; (focus (intro w hSw; (try dsimp only at hSw); go_simp; with_reducible rfl)); simp only [Act.put, tA, tB, tC]
            refine tk 10 (oi := ⟨_, _, _, _, _, _⟩) (v := ?_) rfl (by rfl) ?_ (by assumption) ?_; rotate_left; (focus (intro w hSw; (try dsimp only at hSw); go_simp; with_reducible rfl)); simp only [Act.put, tA, tB, tC]
            refine wpAnyH_ready (rs := [11]) (by kernel_rfl) (by simp) ?_
            refine AllReadyH.cons (o := ⟨_, _, _, _, _, _⟩) rfl (fun K hK => ?_) (AllReadyH.nil)
            go_simp
            refine (sec_any p0 p1 ra rn rc sa sn sc F T F' T' kind (k : Int) _ (Pr.below (Below.refl wr.heap.size wr).drew)).mono ?_
            rw [HS.out]
            rintro e wa ⟨rfl, ba⟩
            have bx := (Below.refl wr.heap.size wr).drew.trans ba
            have Ga := Gr.below bx
            refine hK.out _ _ ⟨blk_cell Ga 0, blk_cell Ga 1, blk_cell Ga 2, blk_cell Ga 3⟩ (fun hHeld => ?_)
            clear hK K
            refine tk 12 (oi := ⟨_, _, _, _, _, _⟩) (v := ?_) rfl (by rfl) ?_ (by assumption) ?_; rotate_left; (focus (intro w hSw; (try dsimp only at hSw); go_simp; with_reducible rfl)); simp only [Act.put, tA, tB, tC]
            refine tk 13 (oi := ⟨_, _, _, _, _, _⟩) (v := ?_) rfl (by rfl) ?_ (by assumption) ?_; rotate_left; (focus (intro w hSw; (try dsimp only at hSw); go_simp; with_reducible rfl)); simp only [Act.put, tA, tB, tC]
            refine wpAnyH_done (by kernel_rfl) (NoPanic.normal ?_) _
            go_wp2_with fail
            go_ret
            exact ⟨ret_bool (by rw [HZ.out, lowB, (all_succ (p := fun i => decide (bt x i = bt y i) || secB p0 p1 rn sn F T F' T' kind (i : Int)) hltm ht.out).2 (by simp only [HE.out, Bool.false_or]; exact HS.out), Bool.false_and]), hbl.trans (bx.mono hbl.size)⟩
          · have HS := hidI hs; clear hs
            go_upto_region 7 with fail
            refine wp_region_noPanic ?_
            refine wp_region_held_drew (S := (fun w' => w'.cell? ⟨g, 0, none⟩ = some (.bool p0) ∧ w'.cell? ⟨g, 1, none⟩ = some (.bool p1) ∧ w'.cell? ⟨g, 2, none⟩ = some (.slice ra rn rc) ∧ w'.cell? ⟨g, 3, none⟩ = some (.slice sa sn sc))) (by kernel_rfl) ⟨blk_cell Gr 0, blk_cell Gr 1, blk_cell Gr 2, blk_cell Gr 3⟩ (fun hHeld => ?_)
            refine tk 0 (oi := ⟨_, _, _, _, _, _⟩) (v := ?_) rfl (by rfl) ?_ (by assumption) ?_; rotate_left; (focus (intro w hSw; (try dsimp only at hSw); go_simp; with_reducible rfl)); simp only [Act.put, tA, tB, tC]
            refine tk 1 (oi := ⟨_, _, _, _, _, _⟩) (v := ?_) rfl (by rfl) ?_ (by assumption) ?_; rotate_left; (focus (intro w hSw; (try dsimp only at hSw); go_simp; with_reducible rfl)); simp only [Act.put, tA, tB, tC]
            refine tk 2 (oi := ⟨_, _, _, _, _, _⟩) (v := ?_) rfl (by rfl) ?_ (by assumption) ?_; rotate_left; (focus (intro w hSw; (try dsimp only at hSw); go_simp; with_reducible rfl)); simp only [Act.put, tA, tB, tC]
            refine tk 3 (oi := ⟨_, _, _, _, _, _⟩) (v := ?_) rfl (by rfl) ?_ (by assumption) ?_; rotate_left; (focus (intro w hSw; (try dsimp only at hSw); go_simp; with_reducible rfl)); simp only [Act.put, tA, tB, tC]
            refine tk 4 (oi := ⟨_, _, _, _, _, _⟩) (v := ?_) rfl (by rfl) ?_ (by assumption) ?_; rotate_left; (focus (intro w hSw; (try dsimp only at hSw); go_simp; with_reducible rfl)); simp only [Act.put, tA, tB, tC]
            refine tk 5 (oi := ⟨_, _, _, _, _, _⟩) (v := ?_) rfl (by rfl) ?_ (by assumption) ?_; rotate_left; (focus (intro w hSw; (try dsimp only at hSw); go_simp; with_reducible rfl)); simp only [Act.put, tA, tB, tC]
            refine tk 6 (oi := ⟨_, _, _, _, _, _⟩) (v := ?_) rfl (by rfl) ?_ (by assumption) ?_; rotate_left; (focus (intro w hSw; (try dsimp only at hSw); go_simp; with_reducible rfl)); simp only [Act.put, tA, tB, tC]
            refine tk 7 (oi := ⟨_, _, _, _, _, _⟩) (v := ?_) rfl (by rfl) ?_ (by assumption) ?_; rotate_left; (focus (intro w hSw; (try dsimp only at hSw); go_simp; with_reducible rfl)); simp only [Act.put, tA, tB, tC]
            refine tk 8 (oi := ⟨_, _, _, _, _, _⟩) (v := ?_) rfl (by rfl) ?_ (by assumption) ?_; rotate_left; (focus (intro w hSw; (try dsimp only at hSw); go_simp; with_reducible rfl)); simp only [Act.put, tA, tB, tC]
            refine tk 9 (oi := ⟨_, _, _, _, _, _⟩) (v := ?_) rfl (by rfl) ?_ (by assumption) ?_; rotate_left; (focus (intro w hSw; (try dsimp only at hSw); go_simp; with_reducible rfl)); simp only [Act.put, tA, tB, tC]
            refine tk 10 (oi := ⟨_, _, _, _, _, _⟩) (v := ?_) rfl (by rfl) ?_ (by assumption) ?_; rotate_left; (focus (intro w hSw; (try dsimp only at hSw); go_simp; with_reducible rfl)); simp only [Act.put, tA, tB, tC]
            refine wpAnyH_ready (rs := [11]) (by kernel_rfl) (by simp) ?_
            refine AllReadyH.cons (o := ⟨_, _, _, _, _, _⟩) rfl (fun K hK => ?_) (AllReadyH.nil)
            go_simp
            refine (sec_any p0 p1 ra rn rc sa sn sc F T F' T' kind (k : Int) _ (Pr.below (Below.refl wr.heap.size wr).drew)).mono ?_
            rw [HS.out]
            rintro e wa ⟨rfl, ba⟩
            have bx := (Below.refl wr.heap.size wr).drew.trans ba
            have Ga := Gr.below bx
            refine hK.out _ _ ⟨blk_cell Ga 0, blk_cell Ga 1, blk_cell Ga 2, blk_cell Ga 3⟩ (fun hHeld => ?_)
            clear hK K
            refine tk 12 (oi := ⟨_, _, _, _, _, _⟩) (v := ?_) rfl (by rfl) ?_ (by assumption) ?_; rotate_left; (focus (intro w hSw; (try dsimp only at hSw); go_simp; with_reducible rfl)); simp only [Act.put, tA, tB, tC]
            refine tk 13 (oi := ⟨_, _, _, _, _, _⟩) (v := ?_) rfl (by rfl) ?_ (by assumption) ?_; rotate_left; (focus (intro w hSw; (try dsimp only at hSw); go_simp; with_reducible rfl)); simp only [Act.put, tA, tB, tC]
            refine wpAnyH_done (by kernel_rfl) (NoPanic.normal ?_) _
            go_wp2_with fail
            exact ⟨⟨k + 1, by omega, by simp, (all_succ (p := fun i => decide (bt x i = bt y i) || secB p0 p1 rn sn F T F' T' kind (i : Int)) hltm ht.out).1 (by simp only [HE.out, Bool.false_or]; exact HS.out), hbl.trans (bx.mono hbl.size)⟩, by simp [intOf]; omega⟩
      · have hkm : k = y.size := by omega
        go_wp2_with fail
        go_ret
        exact ⟨ret_bool (by rw [HZ.out, lowB, show min x.size y.size = k by omega, ht.out, Bool.true_and, Bool.eq_iff_iff]; simp; omega), hbl⟩
  · have hxy' : ¬ y.size < x.size := by omega
    go_enter Try.func31, Try.ntmps31
    go_wp2_with fail
    go_loopw [17] (fun i wr => ∃ k : Nat, k ≤ x.size ∧ i = .int .i64 k ∧ ((List.range k).all fun i => decide (bt x i = bt y i) || secB p0 p1 rn sn F T F' T' kind (i : Int)) = true ∧ Below w.heap.size w wr) (fun i _ => x.size - (intOf i).toNat)
    case atStart => exact ⟨0, Nat.zero_le _, rfl, rfl, Below.refl _ _⟩
    case round =>
      obtain ⟨k, hk, rfl, ht0, hbl⟩ := hrel
      have ht := hidI ht0; clear ht0
      have Gr := hG.below hbl
      have Pr := hP.below hbl
      have hkx : k ≤ x.size := by omega
      by_cases hlt : k < x.size
      · have hltm : k < min x.size y.size := by omega
        have h1 : k < x.size := by omega
        have h2 : k < y.size := by omega
        obtain ⟨a, ha⟩ : ∃ a, a = bt x k := ⟨_, rfl⟩
        obtain ⟨b, hb⟩ : ∃ b, b = bt y k := ⟨_, rfl⟩
        have x0 : ((x[k]'h1).toNat : Int) = a := (bt_eq x k h1).trans ha.symm
        have x1 : ((y[k]'h2).toNat : Int) = b := (bt_eq y k h2).trans hb.symm
        have k1 : (0 : Int) ≤ (k : Int) := by omega
        have k2 : (k : Int) < x.size := by omega
        have k3 : (k : Int) < y.size := by omega
        by_cases hab : a = b
        · have HE : Hid (decide (bt x k = bt y k) = true) := by show _ = _; rw [← ha, ← hb]; simpa using hab
          clear ha hb
          subst hab
          go_upto_region 7 with fail
          refine wp_region_noPanic ?_
          refine wp_region_held_drew (S := (fun w' => w'.cell? ⟨g, 0, none⟩ = some (.bool p0) ∧ w'.cell? ⟨g, 1, none⟩ = some (.bool p1) ∧ w'.cell? ⟨g, 2, none⟩ = some (.slice ra rn rc) ∧ w'.cell? ⟨g, 3, none⟩ = some (.slice sa sn sc))) (by kernel_rfl) ⟨blk_cell Gr 0, blk_cell Gr 1, blk_cell Gr 2, blk_cell Gr 3⟩ (fun hHeld => ?_)
          refine tk 0 (oi := ⟨_, _, _, _, _, _⟩) (v := ?_) rfl (by rfl) ?_ (by assumption) ?_; rotate_left; (focus (intro w hSw; (try dsimp only at hSw); go_simp; with_reducible rfl)); simp only [Act.put, tA, tB, tC]
          refine tk 1 (oi := ⟨_, _, _, _, _, _⟩) (v := ?_) rfl (by rfl) ?_ (by assumption) ?_; rotate_left; (focus (intro w hSw; (try dsimp only at hSw); go_simp; with_reducible rfl)); simp only [Act.put, tA, tB, tC]
          refine tk 2 (oi := ⟨_, _, _, _, _, _⟩) (v := ?_) rfl (by rfl) ?_ (by assumption) ?_; rotate_left; (focus (intro w hSw; (try dsimp only at hSw); go_simp; with_reducible rfl)); simp only [Act.put, tA, tB, tC]
          refine tk 3 (oi := ⟨_, _, _, _, _, _⟩) (v := ?_) rfl (by rfl) ?_ (by assumption) ?_; rotate_left; (focus (intro w hSw; (try dsimp only at hSw); go_simp; with_reducible rfl)); simp only [Act.put, tA, tB, tC]
          refine tk 4 (oi := ⟨_, _, _, _, _, _⟩) (v := ?_) rfl (by rfl) ?_ (by assumption) ?_; rotate_left; (focus (intro w hSw; (try dsimp only at hSw); go_simp; with_reducible rfl)); simp only [Act.put, tA, tB, tC]
          refine tk 5 (oi := ⟨_, _, _, _, _, _⟩) (v := ?_) rfl (by rfl) ?_ (by assumption) ?_; rotate_left; (focus (intro w hSw; (try dsimp only at hSw); go_simp; with_reducible rfl)); simp only [Act.put, tA, tB, tC]
          refine tk 6 (oi := ⟨_, _, _, _, _, _⟩) (v := ?_) rfl (by rfl) ?_ (by assumption) ?_; rotate_left; (focus (intro w hSw; (try dsimp only at hSw); go_simp; with_reducible rfl)); simp only [Act.put, tA, tB, tC]
          refine tk 7 (oi := ⟨_, _, _, _, _, _⟩) (v := ?_) rfl (by rfl) ?_ (by assumption) ?_; rotate_left; (focus (intro w hSw; (try dsimp only at hSw); go_simp; with_reducible rfl)); simp only [Act.put, tA, tB, tC]
          refine tn 8 (oi := ⟨_, _, _, _, _, _⟩) rfl (by rfl) (by assumption) ?_; simp only [Act.put, tA, tB, tC]
          refine tn 9 (oi := ⟨_, _, _, _, _, _⟩) rfl (by rfl) (by assumption) ?_; simp only [Act.put, tA, tB, tC]
          refine tn 10 (oi := ⟨_, _, _, _, _, _⟩) rfl (by rfl) (by assumption) ?_; simp only [Act.put, tA, tB, tC]
          refine tn 11 (oi := ⟨_, _, _, _, _, _⟩) rfl (by rfl) (by assumption) ?_; simp only [Act.put, tA, tB, tC]
          refine tn 12 (oi := ⟨_, _, _, _, _, _⟩) rfl (by rfl) (by assumption) ?_; simp only [Act.put, tA, tB, tC]
          refine tk 13 (oi := ⟨_, _, _, _, _, _⟩) (v := ?_) rfl (by rfl) ?_ (by assumption) ?_; rotate_left; (focus (intro w hSw; (try dsimp only at hSw); go_simp; with_reducible rfl)); simp only [Act.put, tA, tB, tC]
          refine wpAnyH_done (by kernel_rfl) (NoPanic.normal ?_) _
          go_wp2_with fail
          exact ⟨⟨k + 1, by omega, by simp, (all_succ (p := fun i => decide (bt x i = bt y i) || secB p0 p1 rn sn F T F' T' kind (i : Int)) hltm ht.out).1 (by simp only [HE.out, Bool.true_or]), hbl.drew⟩, by simp [intOf]; omega⟩
        · have HE : Hid (decide (bt x k = bt y k) = false) := by show _ = _; rw [← ha, ← hb]; simpa using hab
          have hne : (a != b) = true := by simpa using hab
          clear ha hb
          cases hs : secB p0 p1 rn sn F T F' T' kind (k : Int)
          · have HS := hidI hs; clear hs
            go_upto_region 7 with fail
            refine wp_region_noPanic ?_
            refine wp_region_held_drew (S := (fun w' => w'.cell? ⟨g, 0, none⟩ = some (.bool p0) ∧ w'.cell? ⟨g, 1, none⟩ = some (.bool p1) ∧ w'.cell? ⟨g, 2, none⟩ = some (.slice ra rn rc) ∧ w'.cell? ⟨g, 3, none⟩ = some (.slice sa sn sc))) (by kernel_rfl) ⟨blk_cell Gr 0, blk_cell Gr 1, blk_cell Gr 2, blk_cell Gr 3⟩ (fun hHeld => ?_)
            refine tk 0 (oi := ⟨_, _, _, _, _, _⟩) (v := ?_) rfl (by rfl) ?_ (by assumption) ?_; rotate_left; (focus (intro w hSw; (try dsimp only at hSw); go_simp; with_reducible rfl)); simp only [Act.put, tA, tB, tC]
            refine tk 1 (oi := ⟨_, _, _, _, _, _⟩) (v := ?_) rfl (by rfl) ?_ (by assumption) ?_; rotate_left; (focus (intro w hSw; (try dsimp only at hSw); go_simp; with_reducible rfl)); simp only [Act.put, tA, tB, tC]
            refine tk 2 (oi := ⟨_, _, _, _, _, _⟩) (v := ?_) rfl (by rfl) ?_ (by assumption) ?_; rotate_left; (focus (intro w hSw; (try dsimp only at hSw); go_simp; with_reducible rfl)); simp only [Act.put, tA, tB, tC]
            refine tk 3 (oi := ⟨_, _, _, _, _, _⟩) (v := ?_) rfl (by rfl) ?_ (by assumption) ?_; rotate_left; (focus (intro w hSw; (try dsimp only at hSw); go_simp; with_reducible rfl)); simp only [Act.put, tA, tB, tC]
            refine tk 4 (oi := ⟨_, _, _, _, _, _⟩) (v := ?_) rfl (by rfl) ?_ (by assumption) ?_; rotate_left; (focus (intro w hSw; (try dsimp only at hSw); go_simp; with_reducible rfl)); simp only [Act.put, tA, tB, tC]
            refine tk 5 (oi := ⟨_, _, _, _, _, _⟩) (v := ?_) rfl (by rfl) ?_ (by assumption) ?_; rotate_left; (focus (intro w hSw; (try dsimp only at hSw); go_simp; with_reducible rfl)); simp only [Act.put, tA, tB, tC]
            refine tk 6 (oi := ⟨_, _, _, _, _, _⟩) (v := ?_) rfl (by rfl) ?_ (by assumption) ?_; rotate_left; (focus (intro w hSw; (try dsimp only at hSw); go_simp; with_reducible rfl)); simp only [Act.put, tA, tB, tC]
            refine tk 7 (oi := ⟨_, _, _, _, _, _⟩) (v := ?_) rfl (by rfl) ?_ (by assumption) ?_; rotate_left; (focus (intro w hSw; (try dsimp only at hSw); go_simp; with_reducible rfl)); simp only [Act.put, tA, tB, tC]
            refine tk 8 (oi := ⟨_, _, _, _, _, _⟩) (v := ?_) rfl (by rfl) ?_ (by assumption) ?_; rotate_left; (focus (intro w hSw; (try dsimp only at hSw); go_simp; with_reducible rfl)); simp only [Act.put, tA, tB, tC]
            refine tk 9 (oi := ⟨_, _, _, _, _, _⟩) (v := ?_) rfl (by rfl) ?_ (by assumption) ?_; rotate_left; (focus (intro w hSw; (try dsimp only at hSw); go_simp; with_reducible rfl)); simp only [Act.put, tA, tB, tC]
            refine tk 10 (oi := ⟨_, _, _, _, _, _⟩) (v := ?_) rfl (by rfl) ?_ (by assumption) ?_; rotate_left; (focus (intro w hSw; (try dsimp only at hSw); go_simp; with_reducible rfl)); simp only [Act.put, tA, tB, tC]
            refine wpAnyH_ready (rs := [11]) (by kernel_rfl) (by simp) ?_
            refine AllReadyH.cons (o := ⟨_, _, _, _, _, _⟩) rfl (fun K hK => ?_) (AllReadyH.nil)
            go_simp
            refine (sec_any p0 p1 ra rn rc sa sn sc F T F' T' kind (k : Int) _ (Pr.below (Below.refl wr.heap.size wr).drew)).mono ?_
            rw [HS.out]
            rintro e wa ⟨rfl, ba⟩
            have bx := (Below.refl wr.heap.size wr).drew.trans ba
            have Ga := Gr.below bx
            refine hK.out _ _ ⟨blk_cell Ga 0, blk_cell Ga 1, blk_cell Ga 2, blk_cell Ga 3⟩ (fun hHeld => ?_)
            clear hK K
            refine tk 12 (oi := ⟨_, _, _, _, _, _⟩) (v := ?_) rfl (by rfl) ?_ (by assumption) ?_; rotate_left; (focus (intro w hSw; (try dsimp only at hSw); go_simp; with_reducible rfl)); simp only [Act.put, tA, tB, tC]
            refine tk 13 (oi := ⟨_, _, _, _, _, _⟩) (v := ?_) rfl (by rfl) ?_ (by assumption) ?_; rotate_left; (focus (intro w hSw; (try dsimp only at hSw); go_simp; with_reducible rfl)); simp only [Act.put, tA, tB, tC]
            refine wpAnyH_done (by kernel_rfl) (NoPanic.normal ?_) _
            go_wp2_with fail
            go_ret
            exact ⟨ret_bool (by rw [HZ.out, lowB, (all_succ (p := fun i => decide (bt x i = bt y i) || secB p0 p1 rn sn F T F' T' kind (i : Int)) hltm ht.out).2 (by simp only [HE.out, Bool.false_or]; exact HS.out), Bool.false_and]), hbl.trans (bx.mono hbl.size)⟩
          · have HS := hidI hs; clear hs
            go_upto_region 7 with fail
            refine wp_region_noPanic ?_
            refine wp_region_held_drew (S := (fun w' => w'.cell? ⟨g, 0, none⟩ = some (.bool p0) ∧ w'.cell? ⟨g, 1, none⟩ = some (.bool p1) ∧ w'.cell? ⟨g, 2, none⟩ = some (.slice ra rn rc) ∧ w'.cell? ⟨g, 3, none⟩ = some (.slice sa sn sc))) (by kernel_rfl) ⟨blk_cell Gr 0, blk_cell Gr 1, blk_cell Gr 2, blk_cell Gr 3⟩ (fun hHeld => ?_)
            refine tk 0 (oi := ⟨_, _, _, _, _, _⟩) (v := ?_) rfl (by rfl) ?_ (by assumption) ?_; rotate_left; (focus (intro w hSw; (try dsimp only at hSw); go_simp; with_reducible rfl)); simp only [Act.put, tA, tB, tC]
            refine tk 1 (oi := ⟨_, _, _, _, _, _⟩) (v := ?_) rfl (by rfl) ?_ (by assumption) ?_; rotate_left; (focus (intro w hSw; (try dsimp only at hSw); go_simp; with_reducible rfl)); simp only [Act.put, tA, tB, tC]
            refine tk 2 (oi := ⟨_, _, _, _, _, _⟩) (v := ?_) rfl (by rfl) ?_ (by assumption) ?_; rotate_left; (focus (intro w hSw; (try dsimp only at hSw); go_simp; with_reducible rfl)); simp only [Act.put, tA, tB, tC]
            refine tk 3 (oi := ⟨_, _, _, _, _, _⟩) (v := ?_) rfl (by rfl) ?_ (by assumption) ?_; rotate_left; (focus (intro w hSw; (try dsimp only at hSw); go_simp; with_reducible rfl)); simp only [Act.put, tA, tB, tC]
            refine tk 4 (oi := ⟨_, _, _, _, _, _⟩) (v := ?_) rfl (by rfl) ?_ (by assumption) ?_; rotate_left; (focus (intro w hSw; (try dsimp only at hSw); go_simp; with_reducible rfl)); simp only [Act.put, tA, tB, tC]
            refine tk 5 (oi := ⟨_, _, _, _, _, _⟩) (v := ?_) rfl (by rfl) ?_ (by assumption) ?_; rotate_left; (focus (intro w hSw; (try dsimp only at hSw); go_simp; with_reducible rfl)); simp only [Act.put, tA, tB, tC]
            refine tk 6 (oi := ⟨_, _, _, _, _, _⟩) (v := ?_) rfl (by rfl) ?_ (by assumption) ?_; rotate_left; (focus (intro w hSw; (try dsimp only at hSw); go_simp; with_reducible rfl)); simp only [Act.put, tA, tB, tC]
            refine tk 7 (oi := ⟨_, _, _, _, _, _⟩) (v := ?_) rfl (by rfl) ?_ (by assumption) ?_; rotate_left; (focus (intro w hSw; (try dsimp only at hSw); go_simp; with_reducible rfl)); simp only [Act.put, tA, tB, tC]
            refine tk 8 (oi := ⟨_, _, _, _, _, _⟩) (v := ?_) rfl (by rfl) ?_ (by assumption) ?_; rotate_left; (focus (intro w hSw; (try dsimp only at hSw); go_simp; with_reducible rfl)); simp only [Act.put, tA, tB, tC]
            refine tk 9 (oi := ⟨_, _, _, _, _, _⟩) (v := ?_) rfl (by rfl) ?_ (by assumption) ?_; rotate_left; (focus (intro w hSw; (try dsimp only at hSw); go_simp; with_reducible rfl)); simp only [Act.put, tA, tB, tC]
            refine tk 10 (oi := ⟨_, _, _, _, _, _⟩) (v := ?_) rfl (by rfl) ?_ (by assumption) ?_; rotate_left; (focus (intro w hSw; (try dsimp only at hSw); go_simp; with_reducible rfl)); simp only [Act.put, tA, tB, tC]
            refine wpAnyH_ready (rs := [11]) (by kernel_rfl) (by simp) ?_
            refine AllReadyH.cons (o := ⟨_, _, _, _, _, _⟩) rfl (fun K hK => ?_) (AllReadyH.nil)
            go_simp
            refine (sec_any p0 p1 ra rn rc sa sn sc F T F' T' kind (k : Int) _ (Pr.below (Below.refl wr.heap.size wr).drew)).mono ?_
            rw [HS.out]
            rintro e wa ⟨rfl, ba⟩
            have bx := (Below.refl wr.heap.size wr).drew.trans ba
            have Ga := Gr.below bx
            refine hK.out _ _ ⟨blk_cell Ga 0, blk_cell Ga 1, blk_cell Ga 2, blk_cell Ga 3⟩ (fun hHeld => ?_)
            clear hK K
            refine tk 12 (oi := ⟨_, _, _, _, _, _⟩) (v := ?_) rfl (by rfl) ?_ (by assumption) ?_; rotate_left; (focus (intro w hSw; (try dsimp only at hSw); go_simp; with_reducible rfl)); simp only [Act.put, tA, tB, tC]
            refine tk 13 (oi := ⟨_, _, _, _, _, _⟩) (v := ?_) rfl (by rfl) ?_ (by assumption) ?_; rotate_left; (focus (intro w hSw; (try dsimp only at hSw); go_simp; with_reducible rfl)); simp only [Act.put, tA, tB, tC]
            refine wpAnyH_done (by kernel_rfl) (NoPanic.normal ?_) _
            go_wp2_with fail
            exact ⟨⟨k + 1, by omega, by simp, (all_succ (p := fun i => decide (bt x i = bt y i) || secB p0 p1 rn sn F T F' T' kind (i : Int)) hltm ht.out).1 (by simp only [HE.out, Bool.false_or]; exact HS.out), hbl.trans (bx.mono hbl.size)⟩, by simp [intOf]; omega⟩
      · have hkm : k = x.size := by omega
        go_wp2_with fail
        go_ret
        exact ⟨ret_bool (by rw [HZ.out, lowB, show min x.size y.size = k by omega, ht.out, Bool.true_and, Bool.eq_iff_iff]; simp; omega), hbl⟩
set_option maxRecDepth 100000 in
set_option maxHeartbeats 3200000 in
theorem low2 (x y : ByteArray) (g : Nat) (p0 p1 : Bool) (ra : Option Addr) (rn rc : Nat) (sa : Option Addr) (sn sc : Nat) (F T F' T' : Nat → Int) (kind : Int) (w : World) (hx : x.size ≤ 1000000) (hy : y.size ≤ 1000000) (hP : PolAt w ra rn rc sa sn sc F T F' T') (hG : PoAt w g p0 p1 ra rn rc sa sn sc) :
    Calls Try.prog 31 #[.string x, .string y, .int .i64 kind, .int .i64 2, .pointer (some ⟨g, 0, none⟩)] w fun e w' => e = .returned (.bool (lowB x y fun i => secB p0 p1 rn sn F T F' T' kind ((i : Int) % 2))) ∧ Below w.heap.size w w' := by
  obtain ⟨z, hz⟩ : ∃ z, z = lowB x y fun i => secB p0 p1 rn sn F T F' T' kind ((i : Int) % 2) := ⟨_, rfl⟩
  rw [← hz]
  have HZ := hidI hz; clear hz
  rcases Nat.lt_or_ge y.size x.size with hxy | hxy
  · have hxy' : y.size < x.size := hxy
    go_enter Try.func31, Try.ntmps31
    go_wp2_with fail
    go_loopw [17] (fun i wr => ∃ k : Nat, k ≤ y.size ∧ i = .int .i64 k ∧ ((List.range k).all fun i => decide (bt x i = bt y i) || secB p0 p1 rn sn F T F' T' kind ((i : Int) % 2)) = true ∧ Below w.heap.size w wr) (fun i _ => y.size - (intOf i).toNat)
    case atStart => exact ⟨0, Nat.zero_le _, rfl, rfl, Below.refl _ _⟩
    case round =>
      obtain ⟨k, hk, rfl, ht0, hbl⟩ := hrel
      have ht := hidI ht0; clear ht0
      have Gr := hG.below hbl
      have Pr := hP.below hbl
      have hkx : k ≤ x.size := by omega
      by_cases hlt : k < y.size
      · have hltm : k < min x.size y.size := by omega
        have h1 : k < x.size := by omega
        have h2 : k < y.size := by omega
        obtain ⟨a, ha⟩ : ∃ a, a = bt x k := ⟨_, rfl⟩
        obtain ⟨b, hb⟩ : ∃ b, b = bt y k := ⟨_, rfl⟩
        have x0 : ((x[k]'h1).toNat : Int) = a := (bt_eq x k h1).trans ha.symm
        have x1 : ((y[k]'h2).toNat : Int) = b := (bt_eq y k h2).trans hb.symm
        have k1 : (0 : Int) ≤ (k : Int) := by omega
        have k2 : (k : Int) < x.size := by omega
        have k3 : (k : Int) < y.size := by omega
        by_cases hab : a = b
        · have HE : Hid (decide (bt x k = bt y k) = true) := by show _ = _; rw [← ha, ← hb]; simpa using hab
          clear ha hb
          subst hab
          go_upto_region 7 with fail
          refine wp_region_noPanic ?_
          refine wp_region_held_drew (S := (fun w' => w'.cell? ⟨g, 0, none⟩ = some (.bool p0) ∧ w'.cell? ⟨g, 1, none⟩ = some (.bool p1) ∧ w'.cell? ⟨g, 2, none⟩ = some (.slice ra rn rc) ∧ w'.cell? ⟨g, 3, none⟩ = some (.slice sa sn sc))) (by kernel_rfl) ⟨blk_cell Gr 0, blk_cell Gr 1, blk_cell Gr 2, blk_cell Gr 3⟩ (fun hHeld => ?_)
          refine tk 0 (oi := ⟨_, _, _, _, _, _⟩) (v := ?_) rfl (by rfl) ?_ (by assumption) ?_; rotate_left; (focus (intro w hSw; (try dsimp only at hSw); go_simp; with_reducible rfl)); simp only [Act.put, tA, tB, tC]
          refine tk 1 (oi := ⟨_, _, _, _, _, _⟩) (v := ?_) rfl (by rfl) ?_ (by assumption) ?_; rotate_left; (focus (intro w hSw; (try dsimp only at hSw); go_simp; with_reducible rfl)); simp only [Act.put, tA, tB, tC]
          refine tk 2 (oi := ⟨_, _, _, _, _, _⟩) (v := ?_) rfl (by rfl) ?_ (by assumption) ?_; rotate_left; (focus (intro w hSw; (try dsimp only at hSw); go_simp; with_reducible rfl)); simp only [Act.put, tA, tB, tC]
          refine tk 3 (oi := ⟨_, _, _, _, _, _⟩) (v := ?_) rfl (by rfl) ?_ (by assumption) ?_; rotate_left; (focus (intro w hSw; (try dsimp only at hSw); go_simp; with_reducible rfl)); simp only [Act.put, tA, tB, tC]
          refine tk 4 (oi := ⟨_, _, _, _, _, _⟩) (v := ?_) rfl (by rfl) ?_ (by assumption) ?_; rotate_left; (focus (intro w hSw; (try dsimp only at hSw); go_simp; with_reducible rfl)); simp only [Act.put, tA, tB, tC]
          refine tk 5 (oi := ⟨_, _, _, _, _, _⟩) (v := ?_) rfl (by rfl) ?_ (by assumption) ?_; rotate_left; (focus (intro w hSw; (try dsimp only at hSw); go_simp; with_reducible rfl)); simp only [Act.put, tA, tB, tC]
          refine tk 6 (oi := ⟨_, _, _, _, _, _⟩) (v := ?_) rfl (by rfl) ?_ (by assumption) ?_; rotate_left; (focus (intro w hSw; (try dsimp only at hSw); go_simp; with_reducible rfl)); simp only [Act.put, tA, tB, tC]
          refine tk 7 (oi := ⟨_, _, _, _, _, _⟩) (v := ?_) rfl (by rfl) ?_ (by assumption) ?_; rotate_left; (focus (intro w hSw; (try dsimp only at hSw); go_simp; with_reducible rfl)); simp only [Act.put, tA, tB, tC]
          refine tn 8 (oi := ⟨_, _, _, _, _, _⟩) rfl (by rfl) (by assumption) ?_; simp only [Act.put, tA, tB, tC]
          refine tn 9 (oi := ⟨_, _, _, _, _, _⟩) rfl (by rfl) (by assumption) ?_; simp only [Act.put, tA, tB, tC]
          refine tn 10 (oi := ⟨_, _, _, _, _, _⟩) rfl (by rfl) (by assumption) ?_; simp only [Act.put, tA, tB, tC]
          refine tn 11 (oi := ⟨_, _, _, _, _, _⟩) rfl (by rfl) (by assumption) ?_; simp only [Act.put, tA, tB, tC]
          refine tn 12 (oi := ⟨_, _, _, _, _, _⟩) rfl (by rfl) (by assumption) ?_; simp only [Act.put, tA, tB, tC]
          refine tk 13 (oi := ⟨_, _, _, _, _, _⟩) (v := ?_) rfl (by rfl) ?_ (by assumption) ?_; rotate_left; (focus (intro w hSw; (try dsimp only at hSw); go_simp; with_reducible rfl)); simp only [Act.put, tA, tB, tC]
          refine wpAnyH_done (by kernel_rfl) (NoPanic.normal ?_) _
          go_wp2_with fail
          exact ⟨⟨k + 1, by omega, by simp, (all_succ (p := fun i => decide (bt x i = bt y i) || secB p0 p1 rn sn F T F' T' kind ((i : Int) % 2)) hltm ht.out).1 (by simp only [HE.out, Bool.true_or]), hbl.drew⟩, by simp [intOf]; omega⟩
        · have HE : Hid (decide (bt x k = bt y k) = false) := by show _ = _; rw [← ha, ← hb]; simpa using hab
          have hne : (a != b) = true := by simpa using hab
          clear ha hb
          cases hs : secB p0 p1 rn sn F T F' T' kind ((k : Int) % 2)
          · have HS := hidI hs; clear hs
            go_upto_region 7 with fail
            refine wp_region_noPanic ?_
            refine wp_region_held_drew (S := (fun w' => w'.cell? ⟨g, 0, none⟩ = some (.bool p0) ∧ w'.cell? ⟨g, 1, none⟩ = some (.bool p1) ∧ w'.cell? ⟨g, 2, none⟩ = some (.slice ra rn rc) ∧ w'.cell? ⟨g, 3, none⟩ = some (.slice sa sn sc))) (by kernel_rfl) ⟨blk_cell Gr 0, blk_cell Gr 1, blk_cell Gr 2, blk_cell Gr 3⟩ (fun hHeld => ?_)
            refine tk 0 (oi := ⟨_, _, _, _, _, _⟩) (v := ?_) rfl (by rfl) ?_ (by assumption) ?_; rotate_left; (focus (intro w hSw; (try dsimp only at hSw); go_simp; with_reducible rfl)); simp only [Act.put, tA, tB, tC]
            refine tk 1 (oi := ⟨_, _, _, _, _, _⟩) (v := ?_) rfl (by rfl) ?_ (by assumption) ?_; rotate_left; (focus (intro w hSw; (try dsimp only at hSw); go_simp; with_reducible rfl)); simp only [Act.put, tA, tB, tC]
            refine tk 2 (oi := ⟨_, _, _, _, _, _⟩) (v := ?_) rfl (by rfl) ?_ (by assumption) ?_; rotate_left; (focus (intro w hSw; (try dsimp only at hSw); go_simp; with_reducible rfl)); simp only [Act.put, tA, tB, tC]
            refine tk 3 (oi := ⟨_, _, _, _, _, _⟩) (v := ?_) rfl (by rfl) ?_ (by assumption) ?_; rotate_left; (focus (intro w hSw; (try dsimp only at hSw); go_simp; with_reducible rfl)); simp only [Act.put, tA, tB, tC]
            refine tk 4 (oi := ⟨_, _, _, _, _, _⟩) (v := ?_) rfl (by rfl) ?_ (by assumption) ?_; rotate_left; (focus (intro w hSw; (try dsimp only at hSw); go_simp; with_reducible rfl)); simp only [Act.put, tA, tB, tC]
            refine tk 5 (oi := ⟨_, _, _, _, _, _⟩) (v := ?_) rfl (by rfl) ?_ (by assumption) ?_; rotate_left; (focus (intro w hSw; (try dsimp only at hSw); go_simp; with_reducible rfl)); simp only [Act.put, tA, tB, tC]
            refine tk 6 (oi := ⟨_, _, _, _, _, _⟩) (v := ?_) rfl (by rfl) ?_ (by assumption) ?_; rotate_left; (focus (intro w hSw; (try dsimp only at hSw); go_simp; with_reducible rfl)); simp only [Act.put, tA, tB, tC]
            refine tk 7 (oi := ⟨_, _, _, _, _, _⟩) (v := ?_) rfl (by rfl) ?_ (by assumption) ?_; rotate_left; (focus (intro w hSw; (try dsimp only at hSw); go_simp; with_reducible rfl)); simp only [Act.put, tA, tB, tC]
            refine tk 8 (oi := ⟨_, _, _, _, _, _⟩) (v := ?_) rfl (by rfl) ?_ (by assumption) ?_; rotate_left; (focus (intro w hSw; (try dsimp only at hSw); go_simp; with_reducible rfl)); simp only [Act.put, tA, tB, tC]
            refine tk 9 (oi := ⟨_, _, _, _, _, _⟩) (v := ?_) rfl (by rfl) ?_ (by assumption) ?_; rotate_left; (focus (intro w hSw; (try dsimp only at hSw); go_simp; with_reducible rfl)); simp only [Act.put, tA, tB, tC]
            refine tk 10 (oi := ⟨_, _, _, _, _, _⟩) (v := ?_) rfl (by rfl) ?_ (by assumption) ?_; rotate_left; (focus (intro w hSw; (try dsimp only at hSw); go_simp; with_reducible rfl)); simp only [Act.put, tA, tB, tC]
            refine wpAnyH_ready (rs := [11]) (by kernel_rfl) (by simp) ?_
            refine AllReadyH.cons (o := ⟨_, _, _, _, _, _⟩) rfl (fun K hK => ?_) (AllReadyH.nil)
            go_simp
            refine (sec_any p0 p1 ra rn rc sa sn sc F T F' T' kind ((k : Int) % 2) _ (Pr.below (Below.refl wr.heap.size wr).drew)).mono ?_
            rw [HS.out]
            rintro e wa ⟨rfl, ba⟩
            have bx := (Below.refl wr.heap.size wr).drew.trans ba
            have Ga := Gr.below bx
            refine hK.out _ _ ⟨blk_cell Ga 0, blk_cell Ga 1, blk_cell Ga 2, blk_cell Ga 3⟩ (fun hHeld => ?_)
            clear hK K
            refine tk 12 (oi := ⟨_, _, _, _, _, _⟩) (v := ?_) rfl (by rfl) ?_ (by assumption) ?_; rotate_left; (focus (intro w hSw; (try dsimp only at hSw); go_simp; with_reducible rfl)); simp only [Act.put, tA, tB, tC]
            refine tk 13 (oi := ⟨_, _, _, _, _, _⟩) (v := ?_) rfl (by rfl) ?_ (by assumption) ?_; rotate_left; (focus (intro w hSw; (try dsimp only at hSw); go_simp; with_reducible rfl)); simp only [Act.put, tA, tB, tC]
            refine wpAnyH_done (by kernel_rfl) (NoPanic.normal ?_) _
            go_wp2_with fail
            go_ret
            exact ⟨ret_bool (by rw [HZ.out, lowB, (all_succ (p := fun i => decide (bt x i = bt y i) || secB p0 p1 rn sn F T F' T' kind ((i : Int) % 2)) hltm ht.out).2 (by simp only [HE.out, Bool.false_or]; exact HS.out), Bool.false_and]), hbl.trans (bx.mono hbl.size)⟩
          · have HS := hidI hs; clear hs
            go_upto_region 7 with fail
            refine wp_region_noPanic ?_
            refine wp_region_held_drew (S := (fun w' => w'.cell? ⟨g, 0, none⟩ = some (.bool p0) ∧ w'.cell? ⟨g, 1, none⟩ = some (.bool p1) ∧ w'.cell? ⟨g, 2, none⟩ = some (.slice ra rn rc) ∧ w'.cell? ⟨g, 3, none⟩ = some (.slice sa sn sc))) (by kernel_rfl) ⟨blk_cell Gr 0, blk_cell Gr 1, blk_cell Gr 2, blk_cell Gr 3⟩ (fun hHeld => ?_)
            refine tk 0 (oi := ⟨_, _, _, _, _, _⟩) (v := ?_) rfl (by rfl) ?_ (by assumption) ?_; rotate_left; (focus (intro w hSw; (try dsimp only at hSw); go_simp; with_reducible rfl)); simp only [Act.put, tA, tB, tC]
            refine tk 1 (oi := ⟨_, _, _, _, _, _⟩) (v := ?_) rfl (by rfl) ?_ (by assumption) ?_; rotate_left; (focus (intro w hSw; (try dsimp only at hSw); go_simp; with_reducible rfl)); simp only [Act.put, tA, tB, tC]
            refine tk 2 (oi := ⟨_, _, _, _, _, _⟩) (v := ?_) rfl (by rfl) ?_ (by assumption) ?_; rotate_left; (focus (intro w hSw; (try dsimp only at hSw); go_simp; with_reducible rfl)); simp only [Act.put, tA, tB, tC]
            refine tk 3 (oi := ⟨_, _, _, _, _, _⟩) (v := ?_) rfl (by rfl) ?_ (by assumption) ?_; rotate_left; (focus (intro w hSw; (try dsimp only at hSw); go_simp; with_reducible rfl)); simp only [Act.put, tA, tB, tC]
            refine tk 4 (oi := ⟨_, _, _, _, _, _⟩) (v := ?_) rfl (by rfl) ?_ (by assumption) ?_; rotate_left; (focus (intro w hSw; (try dsimp only at hSw); go_simp; with_reducible rfl)); simp only [Act.put, tA, tB, tC]
            refine tk 5 (oi := ⟨_, _, _, _, _, _⟩) (v := ?_) rfl (by rfl) ?_ (by assumption) ?_; rotate_left; (focus (intro w hSw; (try dsimp only at hSw); go_simp; with_reducible rfl)); simp only [Act.put, tA, tB, tC]
            refine tk 6 (oi := ⟨_, _, _, _, _, _⟩) (v := ?_) rfl (by rfl) ?_ (by assumption) ?_; rotate_left; (focus (intro w hSw; (try dsimp only at hSw); go_simp; with_reducible rfl)); simp only [Act.put, tA, tB, tC]
            refine tk 7 (oi := ⟨_, _, _, _, _, _⟩) (v := ?_) rfl (by rfl) ?_ (by assumption) ?_; rotate_left; (focus (intro w hSw; (try dsimp only at hSw); go_simp; with_reducible rfl)); simp only [Act.put, tA, tB, tC]
            refine tk 8 (oi := ⟨_, _, _, _, _, _⟩) (v := ?_) rfl (by rfl) ?_ (by assumption) ?_; rotate_left; (focus (intro w hSw; (try dsimp only at hSw); go_simp; with_reducible rfl)); simp only [Act.put, tA, tB, tC]
            refine tk 9 (oi := ⟨_, _, _, _, _, _⟩) (v := ?_) rfl (by rfl) ?_ (by assumption) ?_; rotate_left; (focus (intro w hSw; (try dsimp only at hSw); go_simp; with_reducible rfl)); simp only [Act.put, tA, tB, tC]
            refine tk 10 (oi := ⟨_, _, _, _, _, _⟩) (v := ?_) rfl (by rfl) ?_ (by assumption) ?_; rotate_left; (focus (intro w hSw; (try dsimp only at hSw); go_simp; with_reducible rfl)); simp only [Act.put, tA, tB, tC]
            refine wpAnyH_ready (rs := [11]) (by kernel_rfl) (by simp) ?_
            refine AllReadyH.cons (o := ⟨_, _, _, _, _, _⟩) rfl (fun K hK => ?_) (AllReadyH.nil)
            go_simp
            refine (sec_any p0 p1 ra rn rc sa sn sc F T F' T' kind ((k : Int) % 2) _ (Pr.below (Below.refl wr.heap.size wr).drew)).mono ?_
            rw [HS.out]
            rintro e wa ⟨rfl, ba⟩
            have bx := (Below.refl wr.heap.size wr).drew.trans ba
            have Ga := Gr.below bx
            refine hK.out _ _ ⟨blk_cell Ga 0, blk_cell Ga 1, blk_cell Ga 2, blk_cell Ga 3⟩ (fun hHeld => ?_)
            clear hK K
            refine tk 12 (oi := ⟨_, _, _, _, _, _⟩) (v := ?_) rfl (by rfl) ?_ (by assumption) ?_; rotate_left; (focus (intro w hSw; (try dsimp only at hSw); go_simp; with_reducible rfl)); simp only [Act.put, tA, tB, tC]
            refine tk 13 (oi := ⟨_, _, _, _, _, _⟩) (v := ?_) rfl (by rfl) ?_ (by assumption) ?_; rotate_left; (focus (intro w hSw; (try dsimp only at hSw); go_simp; with_reducible rfl)); simp only [Act.put, tA, tB, tC]
            refine wpAnyH_done (by kernel_rfl) (NoPanic.normal ?_) _
            go_wp2_with fail
            exact ⟨⟨k + 1, by omega, by simp, (all_succ (p := fun i => decide (bt x i = bt y i) || secB p0 p1 rn sn F T F' T' kind ((i : Int) % 2)) hltm ht.out).1 (by simp only [HE.out, Bool.false_or]; exact HS.out), hbl.trans (bx.mono hbl.size)⟩, by simp [intOf]; omega⟩
      · have hkm : k = y.size := by omega
        go_wp2_with fail
        go_ret
        exact ⟨ret_bool (by rw [HZ.out, lowB, show min x.size y.size = k by omega, ht.out, Bool.true_and, Bool.eq_iff_iff]; simp; omega), hbl⟩
  · have hxy' : ¬ y.size < x.size := by omega
    go_enter Try.func31, Try.ntmps31
    go_wp2_with fail
    go_loopw [17] (fun i wr => ∃ k : Nat, k ≤ x.size ∧ i = .int .i64 k ∧ ((List.range k).all fun i => decide (bt x i = bt y i) || secB p0 p1 rn sn F T F' T' kind ((i : Int) % 2)) = true ∧ Below w.heap.size w wr) (fun i _ => x.size - (intOf i).toNat)
    case atStart => exact ⟨0, Nat.zero_le _, rfl, rfl, Below.refl _ _⟩
    case round =>
      obtain ⟨k, hk, rfl, ht0, hbl⟩ := hrel
      have ht := hidI ht0; clear ht0
      have Gr := hG.below hbl
      have Pr := hP.below hbl
      have hkx : k ≤ x.size := by omega
      by_cases hlt : k < x.size
      · have hltm : k < min x.size y.size := by omega
        have h1 : k < x.size := by omega
        have h2 : k < y.size := by omega
        obtain ⟨a, ha⟩ : ∃ a, a = bt x k := ⟨_, rfl⟩
        obtain ⟨b, hb⟩ : ∃ b, b = bt y k := ⟨_, rfl⟩
        have x0 : ((x[k]'h1).toNat : Int) = a := (bt_eq x k h1).trans ha.symm
        have x1 : ((y[k]'h2).toNat : Int) = b := (bt_eq y k h2).trans hb.symm
        have k1 : (0 : Int) ≤ (k : Int) := by omega
        have k2 : (k : Int) < x.size := by omega
        have k3 : (k : Int) < y.size := by omega
        by_cases hab : a = b
        · have HE : Hid (decide (bt x k = bt y k) = true) := by show _ = _; rw [← ha, ← hb]; simpa using hab
          clear ha hb
          subst hab
          go_upto_region 7 with fail
          refine wp_region_noPanic ?_
          refine wp_region_held_drew (S := (fun w' => w'.cell? ⟨g, 0, none⟩ = some (.bool p0) ∧ w'.cell? ⟨g, 1, none⟩ = some (.bool p1) ∧ w'.cell? ⟨g, 2, none⟩ = some (.slice ra rn rc) ∧ w'.cell? ⟨g, 3, none⟩ = some (.slice sa sn sc))) (by kernel_rfl) ⟨blk_cell Gr 0, blk_cell Gr 1, blk_cell Gr 2, blk_cell Gr 3⟩ (fun hHeld => ?_)
          refine tk 0 (oi := ⟨_, _, _, _, _, _⟩) (v := ?_) rfl (by rfl) ?_ (by assumption) ?_; rotate_left; (focus (intro w hSw; (try dsimp only at hSw); go_simp; with_reducible rfl)); simp only [Act.put, tA, tB, tC]
          refine tk 1 (oi := ⟨_, _, _, _, _, _⟩) (v := ?_) rfl (by rfl) ?_ (by assumption) ?_; rotate_left; (focus (intro w hSw; (try dsimp only at hSw); go_simp; with_reducible rfl)); simp only [Act.put, tA, tB, tC]
          refine tk 2 (oi := ⟨_, _, _, _, _, _⟩) (v := ?_) rfl (by rfl) ?_ (by assumption) ?_; rotate_left; (focus (intro w hSw; (try dsimp only at hSw); go_simp; with_reducible rfl)); simp only [Act.put, tA, tB, tC]
          refine tk 3 (oi := ⟨_, _, _, _, _, _⟩) (v := ?_) rfl (by rfl) ?_ (by assumption) ?_; rotate_left; (focus (intro w hSw; (try dsimp only at hSw); go_simp; with_reducible rfl)); simp only [Act.put, tA, tB, tC]
          refine tk 4 (oi := ⟨_, _, _, _, _, _⟩) (v := ?_) rfl (by rfl) ?_ (by assumption) ?_; rotate_left; (focus (intro w hSw; (try dsimp only at hSw); go_simp; with_reducible rfl)); simp only [Act.put, tA, tB, tC]
          refine tk 5 (oi := ⟨_, _, _, _, _, _⟩) (v := ?_) rfl (by rfl) ?_ (by assumption) ?_; rotate_left; (focus (intro w hSw; (try dsimp only at hSw); go_simp; with_reducible rfl)); simp only [Act.put, tA, tB, tC]
          refine tk 6 (oi := ⟨_, _, _, _, _, _⟩) (v := ?_) rfl (by rfl) ?_ (by assumption) ?_; rotate_left; (focus (intro w hSw; (try dsimp only at hSw); go_simp; with_reducible rfl)); simp only [Act.put, tA, tB, tC]
          refine tk 7 (oi := ⟨_, _, _, _, _, _⟩) (v := ?_) rfl (by rfl) ?_ (by assumption) ?_; rotate_left; (focus (intro w hSw; (try dsimp only at hSw); go_simp; with_reducible rfl)); simp only [Act.put, tA, tB, tC]
          refine tn 8 (oi := ⟨_, _, _, _, _, _⟩) rfl (by rfl) (by assumption) ?_; simp only [Act.put, tA, tB, tC]
          refine tn 9 (oi := ⟨_, _, _, _, _, _⟩) rfl (by rfl) (by assumption) ?_; simp only [Act.put, tA, tB, tC]
          refine tn 10 (oi := ⟨_, _, _, _, _, _⟩) rfl (by rfl) (by assumption) ?_; simp only [Act.put, tA, tB, tC]
          refine tn 11 (oi := ⟨_, _, _, _, _, _⟩) rfl (by rfl) (by assumption) ?_; simp only [Act.put, tA, tB, tC]
          refine tn 12 (oi := ⟨_, _, _, _, _, _⟩) rfl (by rfl) (by assumption) ?_; simp only [Act.put, tA, tB, tC]
          refine tk 13 (oi := ⟨_, _, _, _, _, _⟩) (v := ?_) rfl (by rfl) ?_ (by assumption) ?_; rotate_left; (focus (intro w hSw; (try dsimp only at hSw); go_simp; with_reducible rfl)); simp only [Act.put, tA, tB, tC]
          refine wpAnyH_done (by kernel_rfl) (NoPanic.normal ?_) _
          go_wp2_with fail
          exact ⟨⟨k + 1, by omega, by simp, (all_succ (p := fun i => decide (bt x i = bt y i) || secB p0 p1 rn sn F T F' T' kind ((i : Int) % 2)) hltm ht.out).1 (by simp only [HE.out, Bool.true_or]), hbl.drew⟩, by simp [intOf]; omega⟩
        · have HE : Hid (decide (bt x k = bt y k) = false) := by show _ = _; rw [← ha, ← hb]; simpa using hab
          have hne : (a != b) = true := by simpa using hab
          clear ha hb
          cases hs : secB p0 p1 rn sn F T F' T' kind ((k : Int) % 2)
          · have HS := hidI hs; clear hs
            go_upto_region 7 with fail
            refine wp_region_noPanic ?_
            refine wp_region_held_drew (S := (fun w' => w'.cell? ⟨g, 0, none⟩ = some (.bool p0) ∧ w'.cell? ⟨g, 1, none⟩ = some (.bool p1) ∧ w'.cell? ⟨g, 2, none⟩ = some (.slice ra rn rc) ∧ w'.cell? ⟨g, 3, none⟩ = some (.slice sa sn sc))) (by kernel_rfl) ⟨blk_cell Gr 0, blk_cell Gr 1, blk_cell Gr 2, blk_cell Gr 3⟩ (fun hHeld => ?_)
            refine tk 0 (oi := ⟨_, _, _, _, _, _⟩) (v := ?_) rfl (by rfl) ?_ (by assumption) ?_; rotate_left; (focus (intro w hSw; (try dsimp only at hSw); go_simp; with_reducible rfl)); simp only [Act.put, tA, tB, tC]
            refine tk 1 (oi := ⟨_, _, _, _, _, _⟩) (v := ?_) rfl (by rfl) ?_ (by assumption) ?_; rotate_left; (focus (intro w hSw; (try dsimp only at hSw); go_simp; with_reducible rfl)); simp only [Act.put, tA, tB, tC]
            refine tk 2 (oi := ⟨_, _, _, _, _, _⟩) (v := ?_) rfl (by rfl) ?_ (by assumption) ?_; rotate_left; (focus (intro w hSw; (try dsimp only at hSw); go_simp; with_reducible rfl)); simp only [Act.put, tA, tB, tC]
            refine tk 3 (oi := ⟨_, _, _, _, _, _⟩) (v := ?_) rfl (by rfl) ?_ (by assumption) ?_; rotate_left; (focus (intro w hSw; (try dsimp only at hSw); go_simp; with_reducible rfl)); simp only [Act.put, tA, tB, tC]
            refine tk 4 (oi := ⟨_, _, _, _, _, _⟩) (v := ?_) rfl (by rfl) ?_ (by assumption) ?_; rotate_left; (focus (intro w hSw; (try dsimp only at hSw); go_simp; with_reducible rfl)); simp only [Act.put, tA, tB, tC]
            refine tk 5 (oi := ⟨_, _, _, _, _, _⟩) (v := ?_) rfl (by rfl) ?_ (by assumption) ?_; rotate_left; (focus (intro w hSw; (try dsimp only at hSw); go_simp; with_reducible rfl)); simp only [Act.put, tA, tB, tC]
            refine tk 6 (oi := ⟨_, _, _, _, _, _⟩) (v := ?_) rfl (by rfl) ?_ (by assumption) ?_; rotate_left; (focus (intro w hSw; (try dsimp only at hSw); go_simp; with_reducible rfl)); simp only [Act.put, tA, tB, tC]
            refine tk 7 (oi := ⟨_, _, _, _, _, _⟩) (v := ?_) rfl (by rfl) ?_ (by assumption) ?_; rotate_left; (focus (intro w hSw; (try dsimp only at hSw); go_simp; with_reducible rfl)); simp only [Act.put, tA, tB, tC]
            refine tk 8 (oi := ⟨_, _, _, _, _, _⟩) (v := ?_) rfl (by rfl) ?_ (by assumption) ?_; rotate_left; (focus (intro w hSw; (try dsimp only at hSw); go_simp; with_reducible rfl)); simp only [Act.put, tA, tB, tC]
            refine tk 9 (oi := ⟨_, _, _, _, _, _⟩) (v := ?_) rfl (by rfl) ?_ (by assumption) ?_; rotate_left; (focus (intro w hSw; (try dsimp only at hSw); go_simp; with_reducible rfl)); simp only [Act.put, tA, tB, tC]
            refine tk 10 (oi := ⟨_, _, _, _, _, _⟩) (v := ?_) rfl (by rfl) ?_ (by assumption) ?_; rotate_left; (focus (intro w hSw; (try dsimp only at hSw); go_simp; with_reducible rfl)); simp only [Act.put, tA, tB, tC]
            refine wpAnyH_ready (rs := [11]) (by kernel_rfl) (by simp) ?_
            refine AllReadyH.cons (o := ⟨_, _, _, _, _, _⟩) rfl (fun K hK => ?_) (AllReadyH.nil)
            go_simp
            refine (sec_any p0 p1 ra rn rc sa sn sc F T F' T' kind ((k : Int) % 2) _ (Pr.below (Below.refl wr.heap.size wr).drew)).mono ?_
            rw [HS.out]
            rintro e wa ⟨rfl, ba⟩
            have bx := (Below.refl wr.heap.size wr).drew.trans ba
            have Ga := Gr.below bx
            refine hK.out _ _ ⟨blk_cell Ga 0, blk_cell Ga 1, blk_cell Ga 2, blk_cell Ga 3⟩ (fun hHeld => ?_)
            clear hK K
            refine tk 12 (oi := ⟨_, _, _, _, _, _⟩) (v := ?_) rfl (by rfl) ?_ (by assumption) ?_; rotate_left; (focus (intro w hSw; (try dsimp only at hSw); go_simp; with_reducible rfl)); simp only [Act.put, tA, tB, tC]
            refine tk 13 (oi := ⟨_, _, _, _, _, _⟩) (v := ?_) rfl (by rfl) ?_ (by assumption) ?_; rotate_left; (focus (intro w hSw; (try dsimp only at hSw); go_simp; with_reducible rfl)); simp only [Act.put, tA, tB, tC]
            refine wpAnyH_done (by kernel_rfl) (NoPanic.normal ?_) _
            go_wp2_with fail
            go_ret
            exact ⟨ret_bool (by rw [HZ.out, lowB, (all_succ (p := fun i => decide (bt x i = bt y i) || secB p0 p1 rn sn F T F' T' kind ((i : Int) % 2)) hltm ht.out).2 (by simp only [HE.out, Bool.false_or]; exact HS.out), Bool.false_and]), hbl.trans (bx.mono hbl.size)⟩
          · have HS := hidI hs; clear hs
            go_upto_region 7 with fail
            refine wp_region_noPanic ?_
            refine wp_region_held_drew (S := (fun w' => w'.cell? ⟨g, 0, none⟩ = some (.bool p0) ∧ w'.cell? ⟨g, 1, none⟩ = some (.bool p1) ∧ w'.cell? ⟨g, 2, none⟩ = some (.slice ra rn rc) ∧ w'.cell? ⟨g, 3, none⟩ = some (.slice sa sn sc))) (by kernel_rfl) ⟨blk_cell Gr 0, blk_cell Gr 1, blk_cell Gr 2, blk_cell Gr 3⟩ (fun hHeld => ?_)
            refine tk 0 (oi := ⟨_, _, _, _, _, _⟩) (v := ?_) rfl (by rfl) ?_ (by assumption) ?_; rotate_left; (focus (intro w hSw; (try dsimp only at hSw); go_simp; with_reducible rfl)); simp only [Act.put, tA, tB, tC]
            refine tk 1 (oi := ⟨_, _, _, _, _, _⟩) (v := ?_) rfl (by rfl) ?_ (by assumption) ?_; rotate_left; (focus (intro w hSw; (try dsimp only at hSw); go_simp; with_reducible rfl)); simp only [Act.put, tA, tB, tC]
            refine tk 2 (oi := ⟨_, _, _, _, _, _⟩) (v := ?_) rfl (by rfl) ?_ (by assumption) ?_; rotate_left; (focus (intro w hSw; (try dsimp only at hSw); go_simp; with_reducible rfl)); simp only [Act.put, tA, tB, tC]
            refine tk 3 (oi := ⟨_, _, _, _, _, _⟩) (v := ?_) rfl (by rfl) ?_ (by assumption) ?_; rotate_left; (focus (intro w hSw; (try dsimp only at hSw); go_simp; with_reducible rfl)); simp only [Act.put, tA, tB, tC]
            refine tk 4 (oi := ⟨_, _, _, _, _, _⟩) (v := ?_) rfl (by rfl) ?_ (by assumption) ?_; rotate_left; (focus (intro w hSw; (try dsimp only at hSw); go_simp; with_reducible rfl)); simp only [Act.put, tA, tB, tC]
            refine tk 5 (oi := ⟨_, _, _, _, _, _⟩) (v := ?_) rfl (by rfl) ?_ (by assumption) ?_; rotate_left; (focus (intro w hSw; (try dsimp only at hSw); go_simp; with_reducible rfl)); simp only [Act.put, tA, tB, tC]
            refine tk 6 (oi := ⟨_, _, _, _, _, _⟩) (v := ?_) rfl (by rfl) ?_ (by assumption) ?_; rotate_left; (focus (intro w hSw; (try dsimp only at hSw); go_simp; with_reducible rfl)); simp only [Act.put, tA, tB, tC]
            refine tk 7 (oi := ⟨_, _, _, _, _, _⟩) (v := ?_) rfl (by rfl) ?_ (by assumption) ?_; rotate_left; (focus (intro w hSw; (try dsimp only at hSw); go_simp; with_reducible rfl)); simp only [Act.put, tA, tB, tC]
            refine tk 8 (oi := ⟨_, _, _, _, _, _⟩) (v := ?_) rfl (by rfl) ?_ (by assumption) ?_; rotate_left; (focus (intro w hSw; (try dsimp only at hSw); go_simp; with_reducible rfl)); simp only [Act.put, tA, tB, tC]
            refine tk 9 (oi := ⟨_, _, _, _, _, _⟩) (v := ?_) rfl (by rfl) ?_ (by assumption) ?_; rotate_left; (focus (intro w hSw; (try dsimp only at hSw); go_simp; with_reducible rfl)); simp only [Act.put, tA, tB, tC]
            refine tk 10 (oi := ⟨_, _, _, _, _, _⟩) (v := ?_) rfl (by rfl) ?_ (by assumption) ?_; rotate_left; (focus (intro w hSw; (try dsimp only at hSw); go_simp; with_reducible rfl)); simp only [Act.put, tA, tB, tC]
            refine wpAnyH_ready (rs := [11]) (by kernel_rfl) (by simp) ?_
            refine AllReadyH.cons (o := ⟨_, _, _, _, _, _⟩) rfl (fun K hK => ?_) (AllReadyH.nil)
            go_simp
            refine (sec_any p0 p1 ra rn rc sa sn sc F T F' T' kind ((k : Int) % 2) _ (Pr.below (Below.refl wr.heap.size wr).drew)).mono ?_
            rw [HS.out]
            rintro e wa ⟨rfl, ba⟩
            have bx := (Below.refl wr.heap.size wr).drew.trans ba
            have Ga := Gr.below bx
            refine hK.out _ _ ⟨blk_cell Ga 0, blk_cell Ga 1, blk_cell Ga 2, blk_cell Ga 3⟩ (fun hHeld => ?_)
            clear hK K
            refine tk 12 (oi := ⟨_, _, _, _, _, _⟩) (v := ?_) rfl (by rfl) ?_ (by assumption) ?_; rotate_left; (focus (intro w hSw; (try dsimp only at hSw); go_simp; with_reducible rfl)); simp only [Act.put, tA, tB, tC]
            refine tk 13 (oi := ⟨_, _, _, _, _, _⟩) (v := ?_) rfl (by rfl) ?_ (by assumption) ?_; rotate_left; (focus (intro w hSw; (try dsimp only at hSw); go_simp; with_reducible rfl)); simp only [Act.put, tA, tB, tC]
            refine wpAnyH_done (by kernel_rfl) (NoPanic.normal ?_) _
            go_wp2_with fail
            exact ⟨⟨k + 1, by omega, by simp, (all_succ (p := fun i => decide (bt x i = bt y i) || secB p0 p1 rn sn F T F' T' kind ((i : Int) % 2)) hltm ht.out).1 (by simp only [HE.out, Bool.false_or]; exact HS.out), hbl.trans (bx.mono hbl.size)⟩, by simp [intOf]; omega⟩
      · have hkm : k = x.size := by omega
        go_wp2_with fail
        go_ret
        exact ⟨ret_bool (by rw [HZ.out, lowB, show min x.size y.size = k by omega, ht.out, Bool.true_and, Bool.eq_iff_iff]; simp; omega), hbl⟩
end Go.Proofs.Ytkhjfcbloahjeaa
namespace Go.Proofs.Ytkhjfcbloahjeaa
open Go.RowKit Go.Sx
def alkB (p0 p1 : Bool) (rn sn : Nat) (F T F' T' : Nat → Int) (pa : ByteArray) (na : Nat) (va ma : ByteArray) (A : Nat → Int) (pb : ByteArray) (nb : Nat) (vb mb : ByteArray) (B : Nat → Int) : Bool :=
  mayPB rn sn F T F' T' && maySB pa na va ma A && maySB pb nb vb mb B && decide (fr pa = fr pb) && eqR A B na nb && lowB pa pb (fun i => secB p0 p1 rn sn F T F' T' 0 ((i : Int) % 2)) && lowB ma mb (fun i => secB p0 p1 rn sn F T F' T' 1 (i : Int)) && lowB va vb (fun i => secB p0 p1 rn sn F T F' T' 2 (i : Int))
/-- A policy and two scripts, in blocks of their own. -/
structure Tri (w wk : World) (p0 p1 : Bool) (ra : Option Addr) (rn rc : Nat) (sa : Option Addr) (sn sc : Nat) (pa : ByteArray) (aa : Option Addr) (na ca : Nat) (va ma : ByteArray) (pb : ByteArray) (ab : Option Addr) (nb cb : Nat) (vb mb : ByteArray) : Prop where
  P : PoAt wk w.heap.size p0 p1 ra rn rc sa sn sc
  A : ScAt wk (w.heap.size + 1) pa aa na ca va ma
  B : ScAt wk (w.heap.size + 1 + 1) pb ab nb cb vb mb
  bl : Below w.heap.size w wk
theorem Tri.below {w wk wl : World} {p0 p1 : Bool} {ra : Option Addr} {rn rc : Nat} {sa : Option Addr} {sn sc : Nat} {pa : ByteArray} {aa : Option Addr} {na ca : Nat} {va ma : ByteArray} {pb : ByteArray} {ab : Option Addr} {nb cb : Nat} {vb mb : ByteArray} (h : Tri w wk p0 p1 ra rn rc sa sn sc pa aa na ca va ma pb ab nb cb vb mb) (hb : Below wk.heap.size wk wl) : Tri w wl p0 p1 ra rn rc sa sn sc pa aa na ca va ma pb ab nb cb vb mb :=
  ⟨h.P.below hb, h.A.below hb, h.B.below hb, h.bl.trans (hb.mono h.bl.size)⟩
theorem Tri.new (w : World) (p0 p1 : Bool) (ra : Option Addr) (rn rc : Nat) (sa : Option Addr) (sn sc : Nat) (pa : ByteArray) (aa : Option Addr) (na ca : Nat) (va ma : ByteArray) (pb : ByteArray) (ab : Option Addr) (nb cb : Nat) (vb mb : ByteArray) :
    Tri w (((w.alloc (.cells #[.bool p0, .bool p1, .slice ra rn rc, .slice sa sn sc] 25)).alloc (.cells #[.string pa, .slice aa na ca, .string va, .string ma] 28)).alloc (.cells #[.string pb, .slice ab nb cb, .string vb, .string mb] 28)) p0 p1 ra rn rc sa sn sc pa aa na ca va ma pb ab nb cb vb mb :=
  ⟨blk_alloc (blk_alloc (blk_new _ _) _) _, blk_alloc (blk_new' _ (by simp)) _, blk_new' _ (by simp), (((Below.refl _ _).alloc (Nat.le_refl _) _).alloc (by simp) _).alloc (by simp; omega) _⟩
set_option maxRecDepth 100000 in
set_option maxHeartbeats 6400000 in
theorem alike_any (p0 p1 : Bool) (ra : Option Addr) (rn rc : Nat) (sa : Option Addr) (sn sc : Nat) (F T F' T' : Nat → Int) (pa : ByteArray) (aa : Option Addr) (na ca : Nat) (va ma : ByteArray) (A : Nat → Int) (pb : ByteArray) (ab : Option Addr) (nb cb : Nat) (vb mb : ByteArray) (B : Nat → Int) (w : World)
    (hP : PolAt w ra rn rc sa sn sc F T F' T') (hpa : pa.size ≤ 1000000) (hpb : pb.size ≤ 1000000) (hna : na ≤ 1000000) (hnb : nb ≤ 1000000) (hva : va.size ≤ 1000000) (hvb : vb.size ≤ 1000000) (hma : ma.size ≤ 1000000) (hmb : mb.size ≤ 1000000) (hA : IntsAt w aa na A) (hB : IntsAt w ab nb B) :
    Calls Try.prog 13 #[poV p0 p1 ra rn rc sa sn sc, scV pa aa na ca va ma, scV pb ab nb cb vb mb] w fun e w' => e = .returned (.bool (alkB p0 p1 rn sn F T F' T' pa na va ma A pb nb vb mb B)) ∧ Below w.heap.size w w' := by
  obtain ⟨z, hz⟩ : ∃ z, z = alkB p0 p1 rn sn F T F' T' pa na va ma A pb nb vb mb B := ⟨_, rfl⟩
  rw [← hz]
  have HZ := hidI hz; clear hz
  have T0' := Tri.new w p0 p1 ra rn rc sa sn sc pa aa na ca va ma pb ab nb cb vb mb
  have T0 := T0'.below (Below.refl _ _).drew
  obtain ⟨e1, he1⟩ : ∃ e1 : Int, (if mayPB rn sn F T F' T' then (if maySB pa na va ma A then 0 else 8) else 7) = e1 := ⟨_, rfl⟩
  obtain ⟨e2, he2⟩ : ∃ e2 : Int, (if maySB pb nb vb mb B then 0 else 8) = e2 := ⟨_, rfl⟩
  have E1 := hidI he1; clear he1
  have E2 := hidI he2; clear he2
  go_enter Try.func13, Try.ntmps13
  cases q1 : (mayPB rn sn F T F' T' && maySB pa na va ma A)
  · have hne : (e1 != 0) = true := by
      have := E1.out
      cases h1 : mayPB rn sn F T F' T' <;> cases h2 : maySB pa na va ma A <;> rw [h1, h2] at q1 <;> simp [h1, h2] at q1 this <;> simp [← this]
    have NO : Hid ((mayPB rn sn F T F' T' && maySB pa na va ma A && maySB pb nb vb mb B && decide (fr pa = fr pb) && eqR A B na nb && lowB pa pb (fun i => secB p0 p1 rn sn F T F' T' 0 ((i : Int) % 2)) && lowB ma mb (fun i => secB p0 p1 rn sn F T F' T' 1 (i : Int)) && lowB va vb (fun i => secB p0 p1 rn sn F T F' T' 2 (i : Int))) = false) := by show _ = _; rw [q1]; rfl
    clear q1
    go_upto_region 1 with fail
    refine wp_region_noPanic ?_
    refine wp_region_held_drew (S := (fun w' => w'.cell? ⟨w.heap.size, 0, none⟩ = some (.bool p0) ∧ w'.cell? ⟨w.heap.size, 1, none⟩ = some (.bool p1) ∧ w'.cell? ⟨w.heap.size, 2, none⟩ = some (.slice ra rn rc) ∧ w'.cell? ⟨w.heap.size, 3, none⟩ = some (.slice sa sn sc) ∧ w'.cell? ⟨w.heap.size + 1, 0, none⟩ = some (.string pa) ∧ w'.cell? ⟨w.heap.size + 1, 1, none⟩ = some (.slice aa na ca) ∧ w'.cell? ⟨w.heap.size + 1, 2, none⟩ = some (.string va) ∧ w'.cell? ⟨w.heap.size + 1, 3, none⟩ = some (.string ma) ∧ w'.cell? ⟨w.heap.size + 1 + 1, 0, none⟩ = some (.string pb) ∧ w'.cell? ⟨w.heap.size + 1 + 1, 1, none⟩ = some (.slice ab nb cb) ∧ w'.cell? ⟨w.heap.size + 1 + 1, 2, none⟩ = some (.string vb) ∧ w'.cell? ⟨w.heap.size + 1 + 1, 3, none⟩ = some (.string mb))) (by kernel_rfl) ⟨blk_cell T0.P 0, blk_cell T0.P 1, blk_cell T0.P 2, blk_cell T0.P 3, blk_cell T0.A 0, blk_cell T0.A 1, blk_cell T0.A 2, blk_cell T0.A 3, blk_cell T0.B 0, blk_cell T0.B 1, blk_cell T0.B 2, blk_cell T0.B 3⟩ (fun hHeld => ?_)
    refine tk 0 (oi := ⟨_, _, _, _, _, _⟩) (v := ?_) rfl (by rfl) ?_ (by assumption) ?_; rotate_left; (focus (intro w hSw; (try dsimp only at hSw); go_simp; with_reducible rfl)); simp only [Act.put, tA, tB, tC]
    refine tk 1 (oi := ⟨_, _, _, _, _, _⟩) (v := ?_) rfl (by rfl) ?_ (by assumption) ?_; rotate_left; (focus (intro w hSw; (try dsimp only at hSw); go_simp; with_reducible rfl)); simp only [Act.put, tA, tB, tC]
    refine wpAnyH_ready (rs := [2]) (by kernel_rfl) (by simp) ?_
    refine AllReadyH.cons (o := ⟨_, _, _, _, _, _⟩) rfl (fun K hK => ?_) (AllReadyH.nil)
    go_simp
    refine (smay_any p0 p1 ra rn rc sa sn sc F T F' T' pa aa na ca va ma A _ (hP.below T0.bl) hpa hna (hA.below T0.bl)).mono ?_
    rw [E1.out]
    rintro e w2 ⟨rfl, b2⟩
    have T2 := T0.below b2
    refine hK.out _ _ ⟨blk_cell T2.P 0, blk_cell T2.P 1, blk_cell T2.P 2, blk_cell T2.P 3, blk_cell T2.A 0, blk_cell T2.A 1, blk_cell T2.A 2, blk_cell T2.A 3, blk_cell T2.B 0, blk_cell T2.B 1, blk_cell T2.B 2, blk_cell T2.B 3⟩ (fun hHeld => ?_)
    clear hK K
    refine tk 3 (oi := ⟨_, _, _, _, _, _⟩) (v := ?_) rfl (by rfl) ?_ (by assumption) ?_; rotate_left; (focus (intro w hSw; (try dsimp only at hSw); go_simp; with_reducible rfl)); simp only [Act.put, tA, tB, tC]
    refine tk 4 (oi := ⟨_, _, _, _, _, _⟩) (v := ?_) rfl (by rfl) ?_ (by assumption) ?_; rotate_left; (focus (intro w hSw; (try dsimp only at hSw); go_simp; with_reducible rfl)); simp only [Act.put, tA, tB, tC]
    refine tn 5 (oi := ⟨_, _, _, _, _, _⟩) rfl (by rfl) (by assumption) ?_; simp only [Act.put, tA, tB, tC]
    refine tn 6 (oi := ⟨_, _, _, _, _, _⟩) rfl (by rfl) (by assumption) ?_; simp only [Act.put, tA, tB, tC]
    refine tn 7 (oi := ⟨_, _, _, _, _, _⟩) rfl (by rfl) (by assumption) ?_; simp only [Act.put, tA, tB, tC]
    refine tk 8 (oi := ⟨_, _, _, _, _, _⟩) (v := ?_) rfl (by rfl) ?_ (by assumption) ?_; rotate_left; (focus (intro w hSw; (try dsimp only at hSw); go_simp; with_reducible rfl)); simp only [Act.put, tA, tB, tC]
    refine tk 9 (oi := ⟨_, _, _, _, _, _⟩) (v := ?_) rfl (by rfl) ?_ (by assumption) ?_; rotate_left; (focus (intro w hSw; (try dsimp only at hSw); go_simp; with_reducible rfl)); simp only [Act.put, tA, tB, tC]
    refine tn 10 (oi := ⟨_, _, _, _, _, _⟩) rfl (by rfl) (by assumption) ?_; simp only [Act.put, tA, tB, tC]
    refine tn 11 (oi := ⟨_, _, _, _, _, _⟩) rfl (by rfl) (by assumption) ?_; simp only [Act.put, tA, tB, tC]
    refine tn 12 (oi := ⟨_, _, _, _, _, _⟩) rfl (by rfl) (by assumption) ?_; simp only [Act.put, tA, tB, tC]
    refine tn 13 (oi := ⟨_, _, _, _, _, _⟩) rfl (by rfl) (by assumption) ?_; simp only [Act.put, tA, tB, tC]
    refine tn 14 (oi := ⟨_, _, _, _, _, _⟩) rfl (by rfl) (by assumption) ?_; simp only [Act.put, tA, tB, tC]
    refine tk 15 (oi := ⟨_, _, _, _, _, _⟩) (v := ?_) rfl (by rfl) ?_ (by assumption) ?_; rotate_left; (focus (intro w hSw; (try dsimp only at hSw); go_simp; with_reducible rfl)); simp only [Act.put, tA, tB, tC]
    refine tk 16 (oi := ⟨_, _, _, _, _, _⟩) (v := ?_) rfl (by rfl) ?_ (by assumption) ?_; rotate_left; (focus (intro w hSw; (try dsimp only at hSw); go_simp; with_reducible rfl)); simp only [Act.put, tA, tB, tC]
    refine tn 17 (oi := ⟨_, _, _, _, _, _⟩) rfl (by rfl) (by assumption) ?_; simp only [Act.put, tA, tB, tC]
    refine tn 18 (oi := ⟨_, _, _, _, _, _⟩) rfl (by rfl) (by assumption) ?_; simp only [Act.put, tA, tB, tC]
    refine tn 19 (oi := ⟨_, _, _, _, _, _⟩) rfl (by rfl) (by assumption) ?_; simp only [Act.put, tA, tB, tC]
    refine tn 20 (oi := ⟨_, _, _, _, _, _⟩) rfl (by rfl) (by assumption) ?_; simp only [Act.put, tA, tB, tC]
    refine tn 21 (oi := ⟨_, _, _, _, _, _⟩) rfl (by rfl) (by assumption) ?_; simp only [Act.put, tA, tB, tC]
    refine tn 22 (oi := ⟨_, _, _, _, _, _⟩) rfl (by rfl) (by assumption) ?_; simp only [Act.put, tA, tB, tC]
    refine tk 23 (oi := ⟨_, _, _, _, _, _⟩) (v := ?_) rfl (by rfl) ?_ (by assumption) ?_; rotate_left; (focus (intro w hSw; (try dsimp only at hSw); go_simp; with_reducible rfl)); simp only [Act.put, tA, tB, tC]
    refine wpAnyH_done (by kernel_rfl) (NoPanic.normal ?_) _
    go_wp2_with fail
    go_ret
    exact ⟨ret_bool (by rw [HZ.out, alkB, NO.out]), T2.bl⟩
  · have hq := Bool.and_eq_true_iff.1 q1
    obtain rfl : e1 = 0 := by rw [← E1.out, hq.1, hq.2]; rfl
    have Q1 := hidI q1; clear q1 hq
    cases q2 : maySB pb nb vb mb B
    · have hne : (e2 != 0) = true := by rw [← E2.out, q2]; rfl
      have NO : Hid ((mayPB rn sn F T F' T' && maySB pa na va ma A && maySB pb nb vb mb B && decide (fr pa = fr pb) && eqR A B na nb && lowB pa pb (fun i => secB p0 p1 rn sn F T F' T' 0 ((i : Int) % 2)) && lowB ma mb (fun i => secB p0 p1 rn sn F T F' T' 1 (i : Int)) && lowB va vb (fun i => secB p0 p1 rn sn F T F' T' 2 (i : Int))) = false) := by show _ = _; rw [Q1.out, q2]; rfl
      clear q2
      go_upto_region 1 with fail
      refine wp_region_noPanic ?_
      refine wp_region_held_drew (S := (fun w' => w'.cell? ⟨w.heap.size, 0, none⟩ = some (.bool p0) ∧ w'.cell? ⟨w.heap.size, 1, none⟩ = some (.bool p1) ∧ w'.cell? ⟨w.heap.size, 2, none⟩ = some (.slice ra rn rc) ∧ w'.cell? ⟨w.heap.size, 3, none⟩ = some (.slice sa sn sc) ∧ w'.cell? ⟨w.heap.size + 1, 0, none⟩ = some (.string pa) ∧ w'.cell? ⟨w.heap.size + 1, 1, none⟩ = some (.slice aa na ca) ∧ w'.cell? ⟨w.heap.size + 1, 2, none⟩ = some (.string va) ∧ w'.cell? ⟨w.heap.size + 1, 3, none⟩ = some (.string ma) ∧ w'.cell? ⟨w.heap.size + 1 + 1, 0, none⟩ = some (.string pb) ∧ w'.cell? ⟨w.heap.size + 1 + 1, 1, none⟩ = some (.slice ab nb cb) ∧ w'.cell? ⟨w.heap.size + 1 + 1, 2, none⟩ = some (.string vb) ∧ w'.cell? ⟨w.heap.size + 1 + 1, 3, none⟩ = some (.string mb))) (by kernel_rfl) ⟨blk_cell T0.P 0, blk_cell T0.P 1, blk_cell T0.P 2, blk_cell T0.P 3, blk_cell T0.A 0, blk_cell T0.A 1, blk_cell T0.A 2, blk_cell T0.A 3, blk_cell T0.B 0, blk_cell T0.B 1, blk_cell T0.B 2, blk_cell T0.B 3⟩ (fun hHeld => ?_)
      refine tk 0 (oi := ⟨_, _, _, _, _, _⟩) (v := ?_) rfl (by rfl) ?_ (by assumption) ?_; rotate_left; (focus (intro w hSw; (try dsimp only at hSw); go_simp; with_reducible rfl)); simp only [Act.put, tA, tB, tC]
      refine tk 1 (oi := ⟨_, _, _, _, _, _⟩) (v := ?_) rfl (by rfl) ?_ (by assumption) ?_; rotate_left; (focus (intro w hSw; (try dsimp only at hSw); go_simp; with_reducible rfl)); simp only [Act.put, tA, tB, tC]
      refine wpAnyH_ready (rs := [2]) (by kernel_rfl) (by simp) ?_
      refine AllReadyH.cons (o := ⟨_, _, _, _, _, _⟩) rfl (fun K hK => ?_) (AllReadyH.nil)
      go_simp
      refine (smay_any p0 p1 ra rn rc sa sn sc F T F' T' pa aa na ca va ma A _ (hP.below T0.bl) hpa hna (hA.below T0.bl)).mono ?_
      rw [E1.out]
      rintro e w2 ⟨rfl, b2⟩
      have T2 := T0.below b2
      refine hK.out _ _ ⟨blk_cell T2.P 0, blk_cell T2.P 1, blk_cell T2.P 2, blk_cell T2.P 3, blk_cell T2.A 0, blk_cell T2.A 1, blk_cell T2.A 2, blk_cell T2.A 3, blk_cell T2.B 0, blk_cell T2.B 1, blk_cell T2.B 2, blk_cell T2.B 3⟩ (fun hHeld => ?_)
      clear hK K
      refine tk 3 (oi := ⟨_, _, _, _, _, _⟩) (v := ?_) rfl (by rfl) ?_ (by assumption) ?_; rotate_left; (focus (intro w hSw; (try dsimp only at hSw); go_simp; with_reducible rfl)); simp only [Act.put, tA, tB, tC]
      refine tk 4 (oi := ⟨_, _, _, _, _, _⟩) (v := ?_) rfl (by rfl) ?_ (by assumption) ?_; rotate_left; (focus (intro w hSw; (try dsimp only at hSw); go_simp; with_reducible rfl)); simp only [Act.put, tA, tB, tC]
      refine tk 5 (oi := ⟨_, _, _, _, _, _⟩) (v := ?_) rfl (by rfl) ?_ (by assumption) ?_; rotate_left; (focus (intro w hSw; (try dsimp only at hSw); go_simp; with_reducible rfl)); simp only [Act.put, tA, tB, tC]
      refine wpAnyH_ready (rs := [6]) (by kernel_rfl) (by simp) ?_
      refine AllReadyH.cons (o := ⟨_, _, _, _, _, _⟩) rfl (fun K hK => ?_) (AllReadyH.nil)
      go_simp
      refine (check_any pb ab nb cb vb mb B _ hpb hnb (hB.below T2.bl)).mono ?_
      rw [E2.out]
      rintro e w6 ⟨rfl, b6⟩
      have T6 := T2.below b6
      refine hK.out _ _ ⟨blk_cell T6.P 0, blk_cell T6.P 1, blk_cell T6.P 2, blk_cell T6.P 3, blk_cell T6.A 0, blk_cell T6.A 1, blk_cell T6.A 2, blk_cell T6.A 3, blk_cell T6.B 0, blk_cell T6.B 1, blk_cell T6.B 2, blk_cell T6.B 3⟩ (fun hHeld => ?_)
      clear hK K
      refine tk 7 (oi := ⟨_, _, _, _, _, _⟩) (v := ?_) rfl (by rfl) ?_ (by assumption) ?_; rotate_left; (focus (intro w hSw; (try dsimp only at hSw); go_simp; with_reducible rfl)); simp only [Act.put, tA, tB, tC]
      refine tk 8 (oi := ⟨_, _, _, _, _, _⟩) (v := ?_) rfl (by rfl) ?_ (by assumption) ?_; rotate_left; (focus (intro w hSw; (try dsimp only at hSw); go_simp; with_reducible rfl)); simp only [Act.put, tA, tB, tC]
      refine tk 9 (oi := ⟨_, _, _, _, _, _⟩) (v := ?_) rfl (by rfl) ?_ (by assumption) ?_; rotate_left; (focus (intro w hSw; (try dsimp only at hSw); go_simp; with_reducible rfl)); simp only [Act.put, tA, tB, tC]
      refine tn 10 (oi := ⟨_, _, _, _, _, _⟩) rfl (by rfl) (by assumption) ?_; simp only [Act.put, tA, tB, tC]
      refine tn 11 (oi := ⟨_, _, _, _, _, _⟩) rfl (by rfl) (by assumption) ?_; simp only [Act.put, tA, tB, tC]
      refine tn 12 (oi := ⟨_, _, _, _, _, _⟩) rfl (by rfl) (by assumption) ?_; simp only [Act.put, tA, tB, tC]
      refine tn 13 (oi := ⟨_, _, _, _, _, _⟩) rfl (by rfl) (by assumption) ?_; simp only [Act.put, tA, tB, tC]
      refine tn 14 (oi := ⟨_, _, _, _, _, _⟩) rfl (by rfl) (by assumption) ?_; simp only [Act.put, tA, tB, tC]
      refine tk 15 (oi := ⟨_, _, _, _, _, _⟩) (v := ?_) rfl (by rfl) ?_ (by assumption) ?_; rotate_left; (focus (intro w hSw; (try dsimp only at hSw); go_simp; with_reducible rfl)); simp only [Act.put, tA, tB, tC]
      refine tk 16 (oi := ⟨_, _, _, _, _, _⟩) (v := ?_) rfl (by rfl) ?_ (by assumption) ?_; rotate_left; (focus (intro w hSw; (try dsimp only at hSw); go_simp; with_reducible rfl)); simp only [Act.put, tA, tB, tC]
      refine tn 17 (oi := ⟨_, _, _, _, _, _⟩) rfl (by rfl) (by assumption) ?_; simp only [Act.put, tA, tB, tC]
      refine tn 18 (oi := ⟨_, _, _, _, _, _⟩) rfl (by rfl) (by assumption) ?_; simp only [Act.put, tA, tB, tC]
      refine tn 19 (oi := ⟨_, _, _, _, _, _⟩) rfl (by rfl) (by assumption) ?_; simp only [Act.put, tA, tB, tC]
      refine tn 20 (oi := ⟨_, _, _, _, _, _⟩) rfl (by rfl) (by assumption) ?_; simp only [Act.put, tA, tB, tC]
      refine tn 21 (oi := ⟨_, _, _, _, _, _⟩) rfl (by rfl) (by assumption) ?_; simp only [Act.put, tA, tB, tC]
      refine tn 22 (oi := ⟨_, _, _, _, _, _⟩) rfl (by rfl) (by assumption) ?_; simp only [Act.put, tA, tB, tC]
      refine tk 23 (oi := ⟨_, _, _, _, _, _⟩) (v := ?_) rfl (by rfl) ?_ (by assumption) ?_; rotate_left; (focus (intro w hSw; (try dsimp only at hSw); go_simp; with_reducible rfl)); simp only [Act.put, tA, tB, tC]
      refine wpAnyH_done (by kernel_rfl) (NoPanic.normal ?_) _
      go_wp2_with fail
      go_ret
      exact ⟨ret_bool (by rw [HZ.out, alkB, NO.out]), T6.bl⟩
    · obtain rfl : e2 = 0 := by rw [← E2.out, q2]; rfl
      have Q2 := hidI q2; clear q2
      obtain ⟨f1, hf1⟩ : ∃ f1, fr pa = f1 := ⟨_, rfl⟩
      obtain ⟨f2, hf2⟩ : ∃ f2, fr pb = f2 := ⟨_, rfl⟩
      have E3 := hidI hf1; have E4 := hidI hf2
      clear hf1 hf2
      by_cases q3 : f1 = f2
      · subst q3
        have Q3 : Hid (decide (fr pa = fr pb) = true) := by show _ = _; rw [E3.out, E4.out]; simp
        obtain ⟨e5, he5⟩ : ∃ e5, eqR A B na nb = e5 := ⟨_, rfl⟩
        have E5 := hidI he5; clear he5
        cases e5
        · have NO : Hid ((mayPB rn sn F T F' T' && maySB pa na va ma A && maySB pb nb vb mb B && decide (fr pa = fr pb) && eqR A B na nb && lowB pa pb (fun i => secB p0 p1 rn sn F T F' T' 0 ((i : Int) % 2)) && lowB ma mb (fun i => secB p0 p1 rn sn F T F' T' 1 (i : Int)) && lowB va vb (fun i => secB p0 p1 rn sn F T F' T' 2 (i : Int))) = false) := by show _ = _; rw [Q1.out, Q2.out, Q3.out, E5.out]; rfl
          go_upto_region 1 with fail
          refine wp_region_noPanic ?_
          refine wp_region_held_drew (S := (fun w' => w'.cell? ⟨w.heap.size, 0, none⟩ = some (.bool p0) ∧ w'.cell? ⟨w.heap.size, 1, none⟩ = some (.bool p1) ∧ w'.cell? ⟨w.heap.size, 2, none⟩ = some (.slice ra rn rc) ∧ w'.cell? ⟨w.heap.size, 3, none⟩ = some (.slice sa sn sc) ∧ w'.cell? ⟨w.heap.size + 1, 0, none⟩ = some (.string pa) ∧ w'.cell? ⟨w.heap.size + 1, 1, none⟩ = some (.slice aa na ca) ∧ w'.cell? ⟨w.heap.size + 1, 2, none⟩ = some (.string va) ∧ w'.cell? ⟨w.heap.size + 1, 3, none⟩ = some (.string ma) ∧ w'.cell? ⟨w.heap.size + 1 + 1, 0, none⟩ = some (.string pb) ∧ w'.cell? ⟨w.heap.size + 1 + 1, 1, none⟩ = some (.slice ab nb cb) ∧ w'.cell? ⟨w.heap.size + 1 + 1, 2, none⟩ = some (.string vb) ∧ w'.cell? ⟨w.heap.size + 1 + 1, 3, none⟩ = some (.string mb))) (by kernel_rfl) ⟨blk_cell T0.P 0, blk_cell T0.P 1, blk_cell T0.P 2, blk_cell T0.P 3, blk_cell T0.A 0, blk_cell T0.A 1, blk_cell T0.A 2, blk_cell T0.A 3, blk_cell T0.B 0, blk_cell T0.B 1, blk_cell T0.B 2, blk_cell T0.B 3⟩ (fun hHeld => ?_)
          refine tk 0 (oi := ⟨_, _, _, _, _, _⟩) (v := ?_) rfl (by rfl) ?_ (by assumption) ?_; rotate_left; (focus (intro w hSw; (try dsimp only at hSw); go_simp; with_reducible rfl)); simp only [Act.put, tA, tB, tC]
          refine tk 1 (oi := ⟨_, _, _, _, _, _⟩) (v := ?_) rfl (by rfl) ?_ (by assumption) ?_; rotate_left; (focus (intro w hSw; (try dsimp only at hSw); go_simp; with_reducible rfl)); simp only [Act.put, tA, tB, tC]
          refine wpAnyH_ready (rs := [2]) (by kernel_rfl) (by simp) ?_
          refine AllReadyH.cons (o := ⟨_, _, _, _, _, _⟩) rfl (fun K hK => ?_) (AllReadyH.nil)
          go_simp
          refine (smay_any p0 p1 ra rn rc sa sn sc F T F' T' pa aa na ca va ma A _ (hP.below T0.bl) hpa hna (hA.below T0.bl)).mono ?_
          rw [E1.out]
          rintro e w2 ⟨rfl, b2⟩
          have T2 := T0.below b2
          refine hK.out _ _ ⟨blk_cell T2.P 0, blk_cell T2.P 1, blk_cell T2.P 2, blk_cell T2.P 3, blk_cell T2.A 0, blk_cell T2.A 1, blk_cell T2.A 2, blk_cell T2.A 3, blk_cell T2.B 0, blk_cell T2.B 1, blk_cell T2.B 2, blk_cell T2.B 3⟩ (fun hHeld => ?_)
          clear hK K
          refine tk 3 (oi := ⟨_, _, _, _, _, _⟩) (v := ?_) rfl (by rfl) ?_ (by assumption) ?_; rotate_left; (focus (intro w hSw; (try dsimp only at hSw); go_simp; with_reducible rfl)); simp only [Act.put, tA, tB, tC]
          refine tk 4 (oi := ⟨_, _, _, _, _, _⟩) (v := ?_) rfl (by rfl) ?_ (by assumption) ?_; rotate_left; (focus (intro w hSw; (try dsimp only at hSw); go_simp; with_reducible rfl)); simp only [Act.put, tA, tB, tC]
          refine tk 5 (oi := ⟨_, _, _, _, _, _⟩) (v := ?_) rfl (by rfl) ?_ (by assumption) ?_; rotate_left; (focus (intro w hSw; (try dsimp only at hSw); go_simp; with_reducible rfl)); simp only [Act.put, tA, tB, tC]
          refine wpAnyH_ready (rs := [6]) (by kernel_rfl) (by simp) ?_
          refine AllReadyH.cons (o := ⟨_, _, _, _, _, _⟩) rfl (fun K hK => ?_) (AllReadyH.nil)
          go_simp
          refine (check_any pb ab nb cb vb mb B _ hpb hnb (hB.below T2.bl)).mono ?_
          rw [E2.out]
          rintro e w6 ⟨rfl, b6⟩
          have T6 := T2.below b6
          refine hK.out _ _ ⟨blk_cell T6.P 0, blk_cell T6.P 1, blk_cell T6.P 2, blk_cell T6.P 3, blk_cell T6.A 0, blk_cell T6.A 1, blk_cell T6.A 2, blk_cell T6.A 3, blk_cell T6.B 0, blk_cell T6.B 1, blk_cell T6.B 2, blk_cell T6.B 3⟩ (fun hHeld => ?_)
          clear hK K
          refine tk 7 (oi := ⟨_, _, _, _, _, _⟩) (v := ?_) rfl (by rfl) ?_ (by assumption) ?_; rotate_left; (focus (intro w hSw; (try dsimp only at hSw); go_simp; with_reducible rfl)); simp only [Act.put, tA, tB, tC]
          refine tk 8 (oi := ⟨_, _, _, _, _, _⟩) (v := ?_) rfl (by rfl) ?_ (by assumption) ?_; rotate_left; (focus (intro w hSw; (try dsimp only at hSw); go_simp; with_reducible rfl)); simp only [Act.put, tA, tB, tC]
          refine tk 9 (oi := ⟨_, _, _, _, _, _⟩) (v := ?_) rfl (by rfl) ?_ (by assumption) ?_; rotate_left; (focus (intro w hSw; (try dsimp only at hSw); go_simp; with_reducible rfl)); simp only [Act.put, tA, tB, tC]
          refine tk 10 (oi := ⟨_, _, _, _, _, _⟩) (v := ?_) rfl (by rfl) ?_ (by assumption) ?_; rotate_left; (focus (intro w hSw; (try dsimp only at hSw); go_simp; with_reducible rfl)); simp only [Act.put, tA, tB, tC]
          refine tk 12 (oi := ⟨_, _, _, _, _, _⟩) (v := ?_) rfl (by rfl) ?_ (by assumption) ?_; rotate_left; (focus (intro w hSw; (try dsimp only at hSw); go_simp; with_reducible rfl)); simp only [Act.put, tA, tB, tC]
          refine wpAnyH_ready (rs := [11]) (by kernel_rfl) (by simp) ?_
          refine AllReadyH.cons (o := ⟨_, _, _, _, _, _⟩) rfl (fun K hK => ?_) (AllReadyH.nil)
          go_simp
          refine (frames_any pa aa na ca va ma _ hpa).mono ?_
          rw [E3.out]
          rintro e w11 ⟨rfl, b11⟩
          have T11 := T6.below b11
          refine hK.out _ _ ⟨blk_cell T11.P 0, blk_cell T11.P 1, blk_cell T11.P 2, blk_cell T11.P 3, blk_cell T11.A 0, blk_cell T11.A 1, blk_cell T11.A 2, blk_cell T11.A 3, blk_cell T11.B 0, blk_cell T11.B 1, blk_cell T11.B 2, blk_cell T11.B 3⟩ (fun hHeld => ?_)
          clear hK K
          refine wpAnyH_ready (rs := [13]) (by kernel_rfl) (by simp) ?_
          refine AllReadyH.cons (o := ⟨_, _, _, _, _, _⟩) rfl (fun K hK => ?_) (AllReadyH.nil)
          go_simp
          refine (frames_any pb ab nb cb vb mb _ hpb).mono ?_
          rw [E4.out]
          rintro e w13 ⟨rfl, b13⟩
          have T13 := T11.below b13
          refine hK.out _ _ ⟨blk_cell T13.P 0, blk_cell T13.P 1, blk_cell T13.P 2, blk_cell T13.P 3, blk_cell T13.A 0, blk_cell T13.A 1, blk_cell T13.A 2, blk_cell T13.A 3, blk_cell T13.B 0, blk_cell T13.B 1, blk_cell T13.B 2, blk_cell T13.B 3⟩ (fun hHeld => ?_)
          clear hK K
          refine tk 14 (oi := ⟨_, _, _, _, _, _⟩) (v := ?_) rfl (by rfl) ?_ (by assumption) ?_; rotate_left; (focus (intro w hSw; (try dsimp only at hSw); go_simp; with_reducible rfl)); simp only [Act.put, tA, tB, tC]
          refine tk 15 (oi := ⟨_, _, _, _, _, _⟩) (v := ?_) rfl (by rfl) ?_ (by assumption) ?_; rotate_left; (focus (intro w hSw; (try dsimp only at hSw); go_simp; with_reducible rfl)); simp only [Act.put, tA, tB, tC]
          refine tk 16 (oi := ⟨_, _, _, _, _, _⟩) (v := ?_) rfl (by rfl) ?_ (by assumption) ?_; rotate_left; (focus (intro w hSw; (try dsimp only at hSw); go_simp; with_reducible rfl)); simp only [Act.put, tA, tB, tC]
          refine tk 17 (oi := ⟨_, _, _, _, _, _⟩) (v := ?_) rfl (by rfl) ?_ (by assumption) ?_; rotate_left; (focus (intro w hSw; (try dsimp only at hSw); go_simp; with_reducible rfl)); simp only [Act.put, tA, tB, tC]
          refine tk 18 (oi := ⟨_, _, _, _, _, _⟩) (v := ?_) rfl (by rfl) ?_ (by assumption) ?_; rotate_left; (focus (intro w hSw; (try dsimp only at hSw); go_simp; with_reducible rfl)); simp only [Act.put, tA, tB, tC]
          refine tk 19 (oi := ⟨_, _, _, _, _, _⟩) (v := ?_) rfl (by rfl) ?_ (by assumption) ?_; rotate_left; (focus (intro w hSw; (try dsimp only at hSw); go_simp; with_reducible rfl)); simp only [Act.put, tA, tB, tC]
          refine tk 20 (oi := ⟨_, _, _, _, _, _⟩) (v := ?_) rfl (by rfl) ?_ (by assumption) ?_; rotate_left; (focus (intro w hSw; (try dsimp only at hSw); go_simp; with_reducible rfl)); simp only [Act.put, tA, tB, tC]
          refine wpAnyH_ready (rs := [21]) (by kernel_rfl) (by simp) ?_
          refine AllReadyH.cons (o := ⟨_, _, _, _, _, _⟩) rfl (fun K hK => ?_) (AllReadyH.nil)
          go_simp
          refine (equal_any aa ab na nb ca cb A B _ hna (hA.below T13.bl) (hB.below T13.bl)).mono ?_
          rw [E5.out]
          rintro e w21 ⟨rfl, b21⟩
          have T21 := T13.below b21
          refine hK.out _ _ ⟨blk_cell T21.P 0, blk_cell T21.P 1, blk_cell T21.P 2, blk_cell T21.P 3, blk_cell T21.A 0, blk_cell T21.A 1, blk_cell T21.A 2, blk_cell T21.A 3, blk_cell T21.B 0, blk_cell T21.B 1, blk_cell T21.B 2, blk_cell T21.B 3⟩ (fun hHeld => ?_)
          clear hK K
          refine tk 22 (oi := ⟨_, _, _, _, _, _⟩) (v := ?_) rfl (by rfl) ?_ (by assumption) ?_; rotate_left; (focus (intro w hSw; (try dsimp only at hSw); go_simp; with_reducible rfl)); simp only [Act.put, tA, tB, tC]
          refine tk 23 (oi := ⟨_, _, _, _, _, _⟩) (v := ?_) rfl (by rfl) ?_ (by assumption) ?_; rotate_left; (focus (intro w hSw; (try dsimp only at hSw); go_simp; with_reducible rfl)); simp only [Act.put, tA, tB, tC]
          refine wpAnyH_done (by kernel_rfl) (NoPanic.normal ?_) _
          go_wp2_with fail
          go_ret
          exact ⟨ret_bool (by rw [HZ.out, alkB, NO.out]), T21.bl⟩
        · have HQ : Hid ((mayPB rn sn F T F' T' && maySB pa na va ma A && maySB pb nb vb mb B && decide (fr pa = fr pb) && eqR A B na nb) = true) := by show _ = _; rw [Q1.out, Q2.out, Q3.out, E5.out]; rfl
          obtain ⟨l1, hl1⟩ : ∃ l1, (lowB pa pb fun i => secB p0 p1 rn sn F T F' T' 0 ((i : Int) % 2)) = l1 := ⟨_, rfl⟩
          obtain ⟨l2, hl2⟩ : ∃ l2, (lowB ma mb fun i => secB p0 p1 rn sn F T F' T' 1 (i : Int)) = l2 := ⟨_, rfl⟩
          obtain ⟨l3, hl3⟩ : ∃ l3, (lowB va vb fun i => secB p0 p1 rn sn F T F' T' 2 (i : Int)) = l3 := ⟨_, rfl⟩
          have HZ2 : Hid (z = (l1 && l2 && l3)) := by show _ = _; rw [HZ.out, alkB, HQ.out, hl1, hl2, hl3, Bool.true_and]
          have L1 := hidI hl1; have L2 := hidI hl2; have L3 := hidI hl3
          clear hl1 hl2 hl3
          go_upto_region 1 with fail
          refine wp_region_noPanic ?_
          refine wp_region_held_drew (S := (fun w' => w'.cell? ⟨w.heap.size, 0, none⟩ = some (.bool p0) ∧ w'.cell? ⟨w.heap.size, 1, none⟩ = some (.bool p1) ∧ w'.cell? ⟨w.heap.size, 2, none⟩ = some (.slice ra rn rc) ∧ w'.cell? ⟨w.heap.size, 3, none⟩ = some (.slice sa sn sc) ∧ w'.cell? ⟨w.heap.size + 1, 0, none⟩ = some (.string pa) ∧ w'.cell? ⟨w.heap.size + 1, 1, none⟩ = some (.slice aa na ca) ∧ w'.cell? ⟨w.heap.size + 1, 2, none⟩ = some (.string va) ∧ w'.cell? ⟨w.heap.size + 1, 3, none⟩ = some (.string ma) ∧ w'.cell? ⟨w.heap.size + 1 + 1, 0, none⟩ = some (.string pb) ∧ w'.cell? ⟨w.heap.size + 1 + 1, 1, none⟩ = some (.slice ab nb cb) ∧ w'.cell? ⟨w.heap.size + 1 + 1, 2, none⟩ = some (.string vb) ∧ w'.cell? ⟨w.heap.size + 1 + 1, 3, none⟩ = some (.string mb))) (by kernel_rfl) ⟨blk_cell T0.P 0, blk_cell T0.P 1, blk_cell T0.P 2, blk_cell T0.P 3, blk_cell T0.A 0, blk_cell T0.A 1, blk_cell T0.A 2, blk_cell T0.A 3, blk_cell T0.B 0, blk_cell T0.B 1, blk_cell T0.B 2, blk_cell T0.B 3⟩ (fun hHeld => ?_)
          refine tk 0 (oi := ⟨_, _, _, _, _, _⟩) (v := ?_) rfl (by rfl) ?_ (by assumption) ?_; rotate_left; (focus (intro w hSw; (try dsimp only at hSw); go_simp; with_reducible rfl)); simp only [Act.put, tA, tB, tC]
          refine tk 1 (oi := ⟨_, _, _, _, _, _⟩) (v := ?_) rfl (by rfl) ?_ (by assumption) ?_; rotate_left; (focus (intro w hSw; (try dsimp only at hSw); go_simp; with_reducible rfl)); simp only [Act.put, tA, tB, tC]
          refine wpAnyH_ready (rs := [2]) (by kernel_rfl) (by simp) ?_
          refine AllReadyH.cons (o := ⟨_, _, _, _, _, _⟩) rfl (fun K hK => ?_) (AllReadyH.nil)
          go_simp
          refine (smay_any p0 p1 ra rn rc sa sn sc F T F' T' pa aa na ca va ma A _ (hP.below T0.bl) hpa hna (hA.below T0.bl)).mono ?_
          rw [E1.out]
          rintro e w2 ⟨rfl, b2⟩
          have T2 := T0.below b2
          refine hK.out _ _ ⟨blk_cell T2.P 0, blk_cell T2.P 1, blk_cell T2.P 2, blk_cell T2.P 3, blk_cell T2.A 0, blk_cell T2.A 1, blk_cell T2.A 2, blk_cell T2.A 3, blk_cell T2.B 0, blk_cell T2.B 1, blk_cell T2.B 2, blk_cell T2.B 3⟩ (fun hHeld => ?_)
          clear hK K
          refine tk 3 (oi := ⟨_, _, _, _, _, _⟩) (v := ?_) rfl (by rfl) ?_ (by assumption) ?_; rotate_left; (focus (intro w hSw; (try dsimp only at hSw); go_simp; with_reducible rfl)); simp only [Act.put, tA, tB, tC]
          refine tk 4 (oi := ⟨_, _, _, _, _, _⟩) (v := ?_) rfl (by rfl) ?_ (by assumption) ?_; rotate_left; (focus (intro w hSw; (try dsimp only at hSw); go_simp; with_reducible rfl)); simp only [Act.put, tA, tB, tC]
          refine tk 5 (oi := ⟨_, _, _, _, _, _⟩) (v := ?_) rfl (by rfl) ?_ (by assumption) ?_; rotate_left; (focus (intro w hSw; (try dsimp only at hSw); go_simp; with_reducible rfl)); simp only [Act.put, tA, tB, tC]
          refine wpAnyH_ready (rs := [6]) (by kernel_rfl) (by simp) ?_
          refine AllReadyH.cons (o := ⟨_, _, _, _, _, _⟩) rfl (fun K hK => ?_) (AllReadyH.nil)
          go_simp
          refine (check_any pb ab nb cb vb mb B _ hpb hnb (hB.below T2.bl)).mono ?_
          rw [E2.out]
          rintro e w6 ⟨rfl, b6⟩
          have T6 := T2.below b6
          refine hK.out _ _ ⟨blk_cell T6.P 0, blk_cell T6.P 1, blk_cell T6.P 2, blk_cell T6.P 3, blk_cell T6.A 0, blk_cell T6.A 1, blk_cell T6.A 2, blk_cell T6.A 3, blk_cell T6.B 0, blk_cell T6.B 1, blk_cell T6.B 2, blk_cell T6.B 3⟩ (fun hHeld => ?_)
          clear hK K
          refine tk 7 (oi := ⟨_, _, _, _, _, _⟩) (v := ?_) rfl (by rfl) ?_ (by assumption) ?_; rotate_left; (focus (intro w hSw; (try dsimp only at hSw); go_simp; with_reducible rfl)); simp only [Act.put, tA, tB, tC]
          refine tk 8 (oi := ⟨_, _, _, _, _, _⟩) (v := ?_) rfl (by rfl) ?_ (by assumption) ?_; rotate_left; (focus (intro w hSw; (try dsimp only at hSw); go_simp; with_reducible rfl)); simp only [Act.put, tA, tB, tC]
          refine tk 9 (oi := ⟨_, _, _, _, _, _⟩) (v := ?_) rfl (by rfl) ?_ (by assumption) ?_; rotate_left; (focus (intro w hSw; (try dsimp only at hSw); go_simp; with_reducible rfl)); simp only [Act.put, tA, tB, tC]
          refine tk 10 (oi := ⟨_, _, _, _, _, _⟩) (v := ?_) rfl (by rfl) ?_ (by assumption) ?_; rotate_left; (focus (intro w hSw; (try dsimp only at hSw); go_simp; with_reducible rfl)); simp only [Act.put, tA, tB, tC]
          refine tk 12 (oi := ⟨_, _, _, _, _, _⟩) (v := ?_) rfl (by rfl) ?_ (by assumption) ?_; rotate_left; (focus (intro w hSw; (try dsimp only at hSw); go_simp; with_reducible rfl)); simp only [Act.put, tA, tB, tC]
          refine wpAnyH_ready (rs := [11]) (by kernel_rfl) (by simp) ?_
          refine AllReadyH.cons (o := ⟨_, _, _, _, _, _⟩) rfl (fun K hK => ?_) (AllReadyH.nil)
          go_simp
          refine (frames_any pa aa na ca va ma _ hpa).mono ?_
          rw [E3.out]
          rintro e w11 ⟨rfl, b11⟩
          have T11 := T6.below b11
          refine hK.out _ _ ⟨blk_cell T11.P 0, blk_cell T11.P 1, blk_cell T11.P 2, blk_cell T11.P 3, blk_cell T11.A 0, blk_cell T11.A 1, blk_cell T11.A 2, blk_cell T11.A 3, blk_cell T11.B 0, blk_cell T11.B 1, blk_cell T11.B 2, blk_cell T11.B 3⟩ (fun hHeld => ?_)
          clear hK K
          refine wpAnyH_ready (rs := [13]) (by kernel_rfl) (by simp) ?_
          refine AllReadyH.cons (o := ⟨_, _, _, _, _, _⟩) rfl (fun K hK => ?_) (AllReadyH.nil)
          go_simp
          refine (frames_any pb ab nb cb vb mb _ hpb).mono ?_
          rw [E4.out]
          rintro e w13 ⟨rfl, b13⟩
          have T13 := T11.below b13
          refine hK.out _ _ ⟨blk_cell T13.P 0, blk_cell T13.P 1, blk_cell T13.P 2, blk_cell T13.P 3, blk_cell T13.A 0, blk_cell T13.A 1, blk_cell T13.A 2, blk_cell T13.A 3, blk_cell T13.B 0, blk_cell T13.B 1, blk_cell T13.B 2, blk_cell T13.B 3⟩ (fun hHeld => ?_)
          clear hK K
          refine tk 14 (oi := ⟨_, _, _, _, _, _⟩) (v := ?_) rfl (by rfl) ?_ (by assumption) ?_; rotate_left; (focus (intro w hSw; (try dsimp only at hSw); go_simp; with_reducible rfl)); simp only [Act.put, tA, tB, tC]
          refine tk 15 (oi := ⟨_, _, _, _, _, _⟩) (v := ?_) rfl (by rfl) ?_ (by assumption) ?_; rotate_left; (focus (intro w hSw; (try dsimp only at hSw); go_simp; with_reducible rfl)); simp only [Act.put, tA, tB, tC]
          refine tk 16 (oi := ⟨_, _, _, _, _, _⟩) (v := ?_) rfl (by rfl) ?_ (by assumption) ?_; rotate_left; (focus (intro w hSw; (try dsimp only at hSw); go_simp; with_reducible rfl)); simp only [Act.put, tA, tB, tC]
          refine tk 17 (oi := ⟨_, _, _, _, _, _⟩) (v := ?_) rfl (by rfl) ?_ (by assumption) ?_; rotate_left; (focus (intro w hSw; (try dsimp only at hSw); go_simp; with_reducible rfl)); simp only [Act.put, tA, tB, tC]
          refine tk 18 (oi := ⟨_, _, _, _, _, _⟩) (v := ?_) rfl (by rfl) ?_ (by assumption) ?_; rotate_left; (focus (intro w hSw; (try dsimp only at hSw); go_simp; with_reducible rfl)); simp only [Act.put, tA, tB, tC]
          refine tk 19 (oi := ⟨_, _, _, _, _, _⟩) (v := ?_) rfl (by rfl) ?_ (by assumption) ?_; rotate_left; (focus (intro w hSw; (try dsimp only at hSw); go_simp; with_reducible rfl)); simp only [Act.put, tA, tB, tC]
          refine tk 20 (oi := ⟨_, _, _, _, _, _⟩) (v := ?_) rfl (by rfl) ?_ (by assumption) ?_; rotate_left; (focus (intro w hSw; (try dsimp only at hSw); go_simp; with_reducible rfl)); simp only [Act.put, tA, tB, tC]
          refine wpAnyH_ready (rs := [21]) (by kernel_rfl) (by simp) ?_
          refine AllReadyH.cons (o := ⟨_, _, _, _, _, _⟩) rfl (fun K hK => ?_) (AllReadyH.nil)
          go_simp
          refine (equal_any aa ab na nb ca cb A B _ hna (hA.below T13.bl) (hB.below T13.bl)).mono ?_
          rw [E5.out]
          rintro e w21 ⟨rfl, b21⟩
          have T21 := T13.below b21
          refine hK.out _ _ ⟨blk_cell T21.P 0, blk_cell T21.P 1, blk_cell T21.P 2, blk_cell T21.P 3, blk_cell T21.A 0, blk_cell T21.A 1, blk_cell T21.A 2, blk_cell T21.A 3, blk_cell T21.B 0, blk_cell T21.B 1, blk_cell T21.B 2, blk_cell T21.B 3⟩ (fun hHeld => ?_)
          clear hK K
          refine tk 22 (oi := ⟨_, _, _, _, _, _⟩) (v := ?_) rfl (by rfl) ?_ (by assumption) ?_; rotate_left; (focus (intro w hSw; (try dsimp only at hSw); go_simp; with_reducible rfl)); simp only [Act.put, tA, tB, tC]
          refine tk 23 (oi := ⟨_, _, _, _, _, _⟩) (v := ?_) rfl (by rfl) ?_ (by assumption) ?_; rotate_left; (focus (intro w hSw; (try dsimp only at hSw); go_simp; with_reducible rfl)); simp only [Act.put, tA, tB, tC]
          refine wpAnyH_done (by kernel_rfl) (NoPanic.normal ?_) _
          go_wp2_with fail
          refine (low2 pa pb _ p0 p1 ra rn rc sa sn sc F T F' T' 0 _ hpa hpb (hP.below T21.bl) T21.P).mono ?_
          rw [L1.out]
          rintro e w22 ⟨rfl, b22⟩
          have T22 := T21.below b22
          have c2 : w22.cell? ⟨w.heap.size + 1, 2, none⟩ = some (.string va) := blk_cell T22.A 2
          have c3 : w22.cell? ⟨w.heap.size + 1, 3, none⟩ = some (.string ma) := blk_cell T22.A 3
          have d2 : w22.cell? ⟨w.heap.size + 1 + 1, 2, none⟩ = some (.string vb) := blk_cell T22.B 2
          have d3 : w22.cell? ⟨w.heap.size + 1 + 1, 3, none⟩ = some (.string mb) := blk_cell T22.B 3
          cases l1
          · go_wp2_with fail
            go_ret
            exact ⟨ret_bool (by rw [HZ2.out]; rfl), T22.bl⟩
          · go_wp2_with fail
            refine (low0 ma mb _ p0 p1 ra rn rc sa sn sc F T F' T' 1 _ hma hmb (hP.below T22.bl) T22.P).mono ?_
            rw [L2.out]
            rintro e w23 ⟨rfl, b23⟩
            have T23 := T22.below b23
            clear c2 c3 d2 d3
            have c2 : w23.cell? ⟨w.heap.size + 1, 2, none⟩ = some (.string va) := blk_cell T23.A 2
            have d2 : w23.cell? ⟨w.heap.size + 1 + 1, 2, none⟩ = some (.string vb) := blk_cell T23.B 2
            cases l2
            · go_wp2_with fail
              go_ret
              exact ⟨ret_bool (by rw [HZ2.out]; rfl), T23.bl⟩
            · go_wp2_with fail
              refine (low0 va vb _ p0 p1 ra rn rc sa sn sc F T F' T' 2 _ hva hvb (hP.below T23.bl) T23.P).mono ?_
              rw [L3.out]
              rintro e w24 ⟨rfl, b24⟩
              have T24 := T23.below b24
              go_wp2_with fail
              go_ret
              exact ⟨ret_bool (by rw [HZ2.out]; rfl), T24.bl⟩
      · have Q3 : Hid (decide (fr pa = fr pb) = false) := by show _ = _; rw [E3.out, E4.out]; simpa using q3
        have hne : ((f1 : Int) != f2) = true := by simp; omega
        have NO : Hid ((mayPB rn sn F T F' T' && maySB pa na va ma A && maySB pb nb vb mb B && decide (fr pa = fr pb) && eqR A B na nb && lowB pa pb (fun i => secB p0 p1 rn sn F T F' T' 0 ((i : Int) % 2)) && lowB ma mb (fun i => secB p0 p1 rn sn F T F' T' 1 (i : Int)) && lowB va vb (fun i => secB p0 p1 rn sn F T F' T' 2 (i : Int))) = false) := by show _ = _; rw [Q1.out, Q2.out, Q3.out]; rfl
        clear q3
        go_upto_region 1 with fail
        refine wp_region_noPanic ?_
        refine wp_region_held_drew (S := (fun w' => w'.cell? ⟨w.heap.size, 0, none⟩ = some (.bool p0) ∧ w'.cell? ⟨w.heap.size, 1, none⟩ = some (.bool p1) ∧ w'.cell? ⟨w.heap.size, 2, none⟩ = some (.slice ra rn rc) ∧ w'.cell? ⟨w.heap.size, 3, none⟩ = some (.slice sa sn sc) ∧ w'.cell? ⟨w.heap.size + 1, 0, none⟩ = some (.string pa) ∧ w'.cell? ⟨w.heap.size + 1, 1, none⟩ = some (.slice aa na ca) ∧ w'.cell? ⟨w.heap.size + 1, 2, none⟩ = some (.string va) ∧ w'.cell? ⟨w.heap.size + 1, 3, none⟩ = some (.string ma) ∧ w'.cell? ⟨w.heap.size + 1 + 1, 0, none⟩ = some (.string pb) ∧ w'.cell? ⟨w.heap.size + 1 + 1, 1, none⟩ = some (.slice ab nb cb) ∧ w'.cell? ⟨w.heap.size + 1 + 1, 2, none⟩ = some (.string vb) ∧ w'.cell? ⟨w.heap.size + 1 + 1, 3, none⟩ = some (.string mb))) (by kernel_rfl) ⟨blk_cell T0.P 0, blk_cell T0.P 1, blk_cell T0.P 2, blk_cell T0.P 3, blk_cell T0.A 0, blk_cell T0.A 1, blk_cell T0.A 2, blk_cell T0.A 3, blk_cell T0.B 0, blk_cell T0.B 1, blk_cell T0.B 2, blk_cell T0.B 3⟩ (fun hHeld => ?_)
        refine tk 0 (oi := ⟨_, _, _, _, _, _⟩) (v := ?_) rfl (by rfl) ?_ (by assumption) ?_; rotate_left; (focus (intro w hSw; (try dsimp only at hSw); go_simp; with_reducible rfl)); simp only [Act.put, tA, tB, tC]
        refine tk 1 (oi := ⟨_, _, _, _, _, _⟩) (v := ?_) rfl (by rfl) ?_ (by assumption) ?_; rotate_left; (focus (intro w hSw; (try dsimp only at hSw); go_simp; with_reducible rfl)); simp only [Act.put, tA, tB, tC]
        refine wpAnyH_ready (rs := [2]) (by kernel_rfl) (by simp) ?_
        refine AllReadyH.cons (o := ⟨_, _, _, _, _, _⟩) rfl (fun K hK => ?_) (AllReadyH.nil)
        go_simp
        refine (smay_any p0 p1 ra rn rc sa sn sc F T F' T' pa aa na ca va ma A _ (hP.below T0.bl) hpa hna (hA.below T0.bl)).mono ?_
        rw [E1.out]
        rintro e w2 ⟨rfl, b2⟩
        have T2 := T0.below b2
        refine hK.out _ _ ⟨blk_cell T2.P 0, blk_cell T2.P 1, blk_cell T2.P 2, blk_cell T2.P 3, blk_cell T2.A 0, blk_cell T2.A 1, blk_cell T2.A 2, blk_cell T2.A 3, blk_cell T2.B 0, blk_cell T2.B 1, blk_cell T2.B 2, blk_cell T2.B 3⟩ (fun hHeld => ?_)
        clear hK K
        refine tk 3 (oi := ⟨_, _, _, _, _, _⟩) (v := ?_) rfl (by rfl) ?_ (by assumption) ?_; rotate_left; (focus (intro w hSw; (try dsimp only at hSw); go_simp; with_reducible rfl)); simp only [Act.put, tA, tB, tC]
        refine tk 4 (oi := ⟨_, _, _, _, _, _⟩) (v := ?_) rfl (by rfl) ?_ (by assumption) ?_; rotate_left; (focus (intro w hSw; (try dsimp only at hSw); go_simp; with_reducible rfl)); simp only [Act.put, tA, tB, tC]
        refine tk 5 (oi := ⟨_, _, _, _, _, _⟩) (v := ?_) rfl (by rfl) ?_ (by assumption) ?_; rotate_left; (focus (intro w hSw; (try dsimp only at hSw); go_simp; with_reducible rfl)); simp only [Act.put, tA, tB, tC]
        refine wpAnyH_ready (rs := [6]) (by kernel_rfl) (by simp) ?_
        refine AllReadyH.cons (o := ⟨_, _, _, _, _, _⟩) rfl (fun K hK => ?_) (AllReadyH.nil)
        go_simp
        refine (check_any pb ab nb cb vb mb B _ hpb hnb (hB.below T2.bl)).mono ?_
        rw [E2.out]
        rintro e w6 ⟨rfl, b6⟩
        have T6 := T2.below b6
        refine hK.out _ _ ⟨blk_cell T6.P 0, blk_cell T6.P 1, blk_cell T6.P 2, blk_cell T6.P 3, blk_cell T6.A 0, blk_cell T6.A 1, blk_cell T6.A 2, blk_cell T6.A 3, blk_cell T6.B 0, blk_cell T6.B 1, blk_cell T6.B 2, blk_cell T6.B 3⟩ (fun hHeld => ?_)
        clear hK K
        refine tk 7 (oi := ⟨_, _, _, _, _, _⟩) (v := ?_) rfl (by rfl) ?_ (by assumption) ?_; rotate_left; (focus (intro w hSw; (try dsimp only at hSw); go_simp; with_reducible rfl)); simp only [Act.put, tA, tB, tC]
        refine tk 8 (oi := ⟨_, _, _, _, _, _⟩) (v := ?_) rfl (by rfl) ?_ (by assumption) ?_; rotate_left; (focus (intro w hSw; (try dsimp only at hSw); go_simp; with_reducible rfl)); simp only [Act.put, tA, tB, tC]
        refine tk 9 (oi := ⟨_, _, _, _, _, _⟩) (v := ?_) rfl (by rfl) ?_ (by assumption) ?_; rotate_left; (focus (intro w hSw; (try dsimp only at hSw); go_simp; with_reducible rfl)); simp only [Act.put, tA, tB, tC]
        refine tk 10 (oi := ⟨_, _, _, _, _, _⟩) (v := ?_) rfl (by rfl) ?_ (by assumption) ?_; rotate_left; (focus (intro w hSw; (try dsimp only at hSw); go_simp; with_reducible rfl)); simp only [Act.put, tA, tB, tC]
        refine tk 12 (oi := ⟨_, _, _, _, _, _⟩) (v := ?_) rfl (by rfl) ?_ (by assumption) ?_; rotate_left; (focus (intro w hSw; (try dsimp only at hSw); go_simp; with_reducible rfl)); simp only [Act.put, tA, tB, tC]
        refine wpAnyH_ready (rs := [11]) (by kernel_rfl) (by simp) ?_
        refine AllReadyH.cons (o := ⟨_, _, _, _, _, _⟩) rfl (fun K hK => ?_) (AllReadyH.nil)
        go_simp
        refine (frames_any pa aa na ca va ma _ hpa).mono ?_
        rw [E3.out]
        rintro e w11 ⟨rfl, b11⟩
        have T11 := T6.below b11
        refine hK.out _ _ ⟨blk_cell T11.P 0, blk_cell T11.P 1, blk_cell T11.P 2, blk_cell T11.P 3, blk_cell T11.A 0, blk_cell T11.A 1, blk_cell T11.A 2, blk_cell T11.A 3, blk_cell T11.B 0, blk_cell T11.B 1, blk_cell T11.B 2, blk_cell T11.B 3⟩ (fun hHeld => ?_)
        clear hK K
        refine wpAnyH_ready (rs := [13]) (by kernel_rfl) (by simp) ?_
        refine AllReadyH.cons (o := ⟨_, _, _, _, _, _⟩) rfl (fun K hK => ?_) (AllReadyH.nil)
        go_simp
        refine (frames_any pb ab nb cb vb mb _ hpb).mono ?_
        rw [E4.out]
        rintro e w13 ⟨rfl, b13⟩
        have T13 := T11.below b13
        refine hK.out _ _ ⟨blk_cell T13.P 0, blk_cell T13.P 1, blk_cell T13.P 2, blk_cell T13.P 3, blk_cell T13.A 0, blk_cell T13.A 1, blk_cell T13.A 2, blk_cell T13.A 3, blk_cell T13.B 0, blk_cell T13.B 1, blk_cell T13.B 2, blk_cell T13.B 3⟩ (fun hHeld => ?_)
        clear hK K
        refine tk 14 (oi := ⟨_, _, _, _, _, _⟩) (v := ?_) rfl (by rfl) ?_ (by assumption) ?_; rotate_left; (focus (intro w hSw; (try dsimp only at hSw); go_simp; with_reducible rfl)); simp only [Act.put, tA, tB, tC]
        refine tk 15 (oi := ⟨_, _, _, _, _, _⟩) (v := ?_) rfl (by rfl) ?_ (by assumption) ?_; rotate_left; (focus (intro w hSw; (try dsimp only at hSw); go_simp; with_reducible rfl)); simp only [Act.put, tA, tB, tC]
        refine tk 16 (oi := ⟨_, _, _, _, _, _⟩) (v := ?_) rfl (by rfl) ?_ (by assumption) ?_; rotate_left; (focus (intro w hSw; (try dsimp only at hSw); go_simp; with_reducible rfl)); simp only [Act.put, tA, tB, tC]
        refine tn 17 (oi := ⟨_, _, _, _, _, _⟩) rfl (by rfl) (by assumption) ?_; simp only [Act.put, tA, tB, tC]
        refine tn 18 (oi := ⟨_, _, _, _, _, _⟩) rfl (by rfl) (by assumption) ?_; simp only [Act.put, tA, tB, tC]
        refine tn 19 (oi := ⟨_, _, _, _, _, _⟩) rfl (by rfl) (by assumption) ?_; simp only [Act.put, tA, tB, tC]
        refine tn 20 (oi := ⟨_, _, _, _, _, _⟩) rfl (by rfl) (by assumption) ?_; simp only [Act.put, tA, tB, tC]
        refine tn 21 (oi := ⟨_, _, _, _, _, _⟩) rfl (by rfl) (by assumption) ?_; simp only [Act.put, tA, tB, tC]
        refine tn 22 (oi := ⟨_, _, _, _, _, _⟩) rfl (by rfl) (by assumption) ?_; simp only [Act.put, tA, tB, tC]
        refine tk 23 (oi := ⟨_, _, _, _, _, _⟩) (v := ?_) rfl (by rfl) ?_ (by assumption) ?_; rotate_left; (focus (intro w hSw; (try dsimp only at hSw); go_simp; with_reducible rfl)); simp only [Act.put, tA, tB, tC]
        refine wpAnyH_done (by kernel_rfl) (NoPanic.normal ?_) _
        go_wp2_with fail
        go_ret
        exact ⟨ret_bool (by rw [HZ.out, alkB, NO.out]), T13.bl⟩
end Go.Proofs.Ytkhjfcbloahjeaa
