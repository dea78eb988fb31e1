import Derived.Test.YtkhjfcbloahjeaaQm1
namespace Go.Proofs.Ytkhjfcbloahjeaa
open Go.RowKit Go.Sx
/-- A policy's value. -/
abbrev poV (p0 p1 : Bool) (ra : Option Addr) (rn rc : Nat) (sa : Option Addr) (sn sc : Nat) : Value := .agg #[.bool p0, .bool p1, .slice ra rn rc, .slice sa sn sc]
theorem ret_sl {a : Option Addr} {n m c : Nat} (h : n = m) : Ending.returned (.slice a n c) = Ending.returned (.slice a m c) := by rw [h]
theorem ranges_any (ao : Option Addr) (n c : Nat) (w : World) (hc : n ≤ c) : Calls Try.prog 27 #[.slice ao n c] w fun e w' => e = .returned (.slice ao (min n 20) c) ∧ w = w' := by
  go_enter Try.func27, Try.ntmps27
  go_wp2
  · go_ret
    exact ⟨ret_sl (by omega), rfl⟩
  · go_ret
    exact ⟨ret_sl (by omega), rfl⟩
set_option maxRecDepth 100000 in
set_option maxHeartbeats 1600000 in
theorem few3_any (p0 p1 : Bool) (ra : Option Addr) (rn rc : Nat) (sa : Option Addr) (sn sc : Nat) (w : World) (hr : rn ≤ rc) (hs : sn ≤ sc) : Calls Try.prog 8 #[poV p0 p1 ra rn rc sa sn sc] w fun e w' => e = .returned (poV p0 p1 ra (min rn 20) rc sa (min sn 20) sc) ∧ Below w.heap.size w w' := by
  obtain ⟨m, hm⟩ : ∃ m, m = min rn 20 := ⟨_, rfl⟩
  obtain ⟨l, hl⟩ : ∃ l, l = min sn 20 := ⟨_, rfl⟩
  rw [← hm, ← hl]
  have HM := hidI hm; clear hm
  have HL := hidI hl; clear hl
  go_enter Try.func8, Try.ntmps8
  go_upto_region 1 with fail
  refine wp_region_noPanic ?_
  refine wp_region_held_drew (S := (fun _ => True)) (by kernel_rfl) trivial (fun hHeld => ?_)
  refine tk 0 (oi := ⟨_, _, _, _, _, _⟩) (v := ?_) rfl (by rfl) ?_ (by assumption) ?_; rotate_left; (focus (intro w hSw; (try dsimp only at hSw); go_simp; with_reducible rfl)); simp only [Act.put, tA, tB, tC]
  refine tk 3 (oi := ⟨_, _, _, _, _, _⟩) (v := ?_) rfl (by rfl) ?_ (by assumption) ?_; rotate_left; (focus (intro w hSw; (try dsimp only at hSw); go_simp; with_reducible rfl)); simp only [Act.put, tA, tB, tC]
  refine wpAnyH_ready (rs := [1, 4]) (by kernel_rfl) (by simp) ?_
  refine AllReadyH.cons (o := ⟨_, _, _, _, _, _⟩) rfl (fun K hK => ?_) (AllReadyH.cons (o := ⟨_, _, _, _, _, _⟩) rfl (fun K hK => ?_) (AllReadyH.nil))
  · go_simp
    refine hK.out _ _ trivial (fun hHeld => ?_)
    clear hK K
    refine wpAnyH_ready (rs := [2, 4]) (by kernel_rfl) (by simp) ?_
    refine AllReadyH.cons (o := ⟨_, _, _, _, _, _⟩) rfl (fun K hK => ?_) (AllReadyH.cons (o := ⟨_, _, _, _, _, _⟩) rfl (fun K hK => ?_) (AllReadyH.nil))
    · go_simp
      refine (ranges_any ra rn rc _ hr).mono ?_
      rw [← HM.out]
      rintro e w1 ⟨rfl, rfl⟩
      refine hK.out _ _ trivial (fun hHeld => ?_)
      clear hK K
      refine wpAnyH_ready (rs := [4]) (by kernel_rfl) (by simp) ?_
      refine AllReadyH.cons (o := ⟨_, _, _, _, _, _⟩) rfl (fun K hK => ?_) (AllReadyH.nil)
      go_simp
      refine hK.out _ _ trivial (fun hHeld => ?_)
      clear hK K
      refine tk 6 (oi := ⟨_, _, _, _, _, _⟩) (v := ?_) rfl (by rfl) ?_ (by assumption) ?_; rotate_left; (focus (intro w hSw; (try dsimp only at hSw); go_simp; with_reducible rfl)); simp only [Act.put, tA, tB, tC]
      refine wpAnyH_ready (rs := [5]) (by kernel_rfl) (by simp) ?_
      refine AllReadyH.cons (o := ⟨_, _, _, _, _, _⟩) rfl (fun K hK => ?_) (AllReadyH.nil)
      go_simp
      refine (ranges_any sa sn sc _ hs).mono ?_
      rw [← HL.out]
      rintro e w1 ⟨rfl, rfl⟩
      refine hK.out _ _ trivial (fun hHeld => ?_)
      clear hK K
      refine wpAnyH_ready (rs := [7]) (by kernel_rfl) (by simp) ?_
      refine AllReadyH.cons (o := ⟨_, _, _, _, _, _⟩) rfl (fun K hK => ?_) (AllReadyH.nil)
      go_simp
      refine hK.out _ _ trivial (fun hHeld => ?_)
      clear hK K
      refine tk 8 (oi := ⟨_, _, _, _, _, _⟩) (v := ?_) rfl (by rfl) ?_ (by assumption) ?_; rotate_left; (focus (intro w hSw; (try dsimp only at hSw); go_simp; with_reducible rfl)); simp only [Act.put, tA, tB, tC]
      refine wpAnyH_ready (rs := [9]) (by kernel_rfl) (by simp) ?_
      refine AllReadyH.cons (o := ⟨_, _, _, _, _, _⟩) rfl (fun K hK => ?_) (AllReadyH.nil)
      go_simp
      refine hK.out _ _ trivial (fun hHeld => ?_)
      clear hK K
      refine wpAnyH_done (by kernel_rfl) (NoPanic.normal ?_) _
      go_wp2_with fail
      refine bodyPost_ret (v := poV p0 p1 ra m rc sa l sc) (by simp [results, Try.results8, go_sem]) rfl ⟨rfl, ?_⟩
      exact (((Below.refl _ _).alloc (Nat.le_refl _) _).alloc (by simp) _).drew
    · go_simp
      refine hK.out _ _ trivial (fun hHeld => ?_)
      clear hK K
      refine wpAnyH_ready (rs := [2]) (by kernel_rfl) (by simp) ?_
      refine AllReadyH.cons (o := ⟨_, _, _, _, _, _⟩) rfl (fun K hK => ?_) (AllReadyH.nil)
      go_simp
      refine (ranges_any ra rn rc _ hr).mono ?_
      rw [← HM.out]
      rintro e w1 ⟨rfl, rfl⟩
      refine hK.out _ _ trivial (fun hHeld => ?_)
      clear hK K
      refine tk 6 (oi := ⟨_, _, _, _, _, _⟩) (v := ?_) rfl (by rfl) ?_ (by assumption) ?_; rotate_left; (focus (intro w hSw; (try dsimp only at hSw); go_simp; with_reducible rfl)); simp only [Act.put, tA, tB, tC]
      refine wpAnyH_ready (rs := [5]) (by kernel_rfl) (by simp) ?_
      refine AllReadyH.cons (o := ⟨_, _, _, _, _, _⟩) rfl (fun K hK => ?_) (AllReadyH.nil)
      go_simp
      refine (ranges_any sa sn sc _ hs).mono ?_
      rw [← HL.out]
      rintro e w1 ⟨rfl, rfl⟩
      refine hK.out _ _ trivial (fun hHeld => ?_)
      clear hK K
      refine wpAnyH_ready (rs := [7]) (by kernel_rfl) (by simp) ?_
      refine AllReadyH.cons (o := ⟨_, _, _, _, _, _⟩) rfl (fun K hK => ?_) (AllReadyH.nil)
      go_simp
      refine hK.out _ _ trivial (fun hHeld => ?_)
      clear hK K
      refine tk 8 (oi := ⟨_, _, _, _, _, _⟩) (v := ?_) rfl (by rfl) ?_ (by assumption) ?_; rotate_left; (focus (intro w hSw; (try dsimp only at hSw); go_simp; with_reducible rfl)); simp only [Act.put, tA, tB, tC]
      refine wpAnyH_ready (rs := [9]) (by kernel_rfl) (by simp) ?_
      refine AllReadyH.cons (o := ⟨_, _, _, _, _, _⟩) rfl (fun K hK => ?_) (AllReadyH.nil)
      go_simp
      refine hK.out _ _ trivial (fun hHeld => ?_)
      clear hK K
      refine wpAnyH_done (by kernel_rfl) (NoPanic.normal ?_) _
      go_wp2_with fail
      refine bodyPost_ret (v := poV p0 p1 ra m rc sa l sc) (by simp [results, Try.results8, go_sem]) rfl ⟨rfl, ?_⟩
      exact (((Below.refl _ _).alloc (Nat.le_refl _) _).alloc (by simp) _).drew
  · go_simp
    refine hK.out _ _ trivial (fun hHeld => ?_)
    clear hK K
    refine wpAnyH_ready (rs := [1]) (by kernel_rfl) (by simp) ?_
    refine AllReadyH.cons (o := ⟨_, _, _, _, _, _⟩) rfl (fun K hK => ?_) (AllReadyH.nil)
    go_simp
    refine hK.out _ _ trivial (fun hHeld => ?_)
    clear hK K
    refine wpAnyH_ready (rs := [2]) (by kernel_rfl) (by simp) ?_
    refine AllReadyH.cons (o := ⟨_, _, _, _, _, _⟩) rfl (fun K hK => ?_) (AllReadyH.nil)
    go_simp
    refine (ranges_any ra rn rc _ hr).mono ?_
    rw [← HM.out]
    rintro e w1 ⟨rfl, rfl⟩
    refine hK.out _ _ trivial (fun hHeld => ?_)
    clear hK K
    refine tk 6 (oi := ⟨_, _, _, _, _, _⟩) (v := ?_) rfl (by rfl) ?_ (by assumption) ?_; rotate_left; (focus (intro w hSw; (try dsimp only at hSw); go_simp; with_reducible rfl)); simp only [Act.put, tA, tB, tC]
    refine wpAnyH_ready (rs := [5]) (by kernel_rfl) (by simp) ?_
    refine AllReadyH.cons (o := ⟨_, _, _, _, _, _⟩) rfl (fun K hK => ?_) (AllReadyH.nil)
    go_simp
    refine (ranges_any sa sn sc _ hs).mono ?_
    rw [← HL.out]
    rintro e w1 ⟨rfl, rfl⟩
    refine hK.out _ _ trivial (fun hHeld => ?_)
    clear hK K
    refine wpAnyH_ready (rs := [7]) (by kernel_rfl) (by simp) ?_
    refine AllReadyH.cons (o := ⟨_, _, _, _, _, _⟩) rfl (fun K hK => ?_) (AllReadyH.nil)
    go_simp
    refine hK.out _ _ trivial (fun hHeld => ?_)
    clear hK K
    refine tk 8 (oi := ⟨_, _, _, _, _, _⟩) (v := ?_) rfl (by rfl) ?_ (by assumption) ?_; rotate_left; (focus (intro w hSw; (try dsimp only at hSw); go_simp; with_reducible rfl)); simp only [Act.put, tA, tB, tC]
    refine wpAnyH_ready (rs := [9]) (by kernel_rfl) (by simp) ?_
    refine AllReadyH.cons (o := ⟨_, _, _, _, _, _⟩) rfl (fun K hK => ?_) (AllReadyH.nil)
    go_simp
    refine hK.out _ _ trivial (fun hHeld => ?_)
    clear hK K
    refine wpAnyH_done (by kernel_rfl) (NoPanic.normal ?_) _
    go_wp2_with fail
    refine bodyPost_ret (v := poV p0 p1 ra m rc sa l sc) (by simp [results, Try.results8, go_sem]) rfl ⟨rfl, ?_⟩
    exact (((Below.refl _ _).alloc (Nat.le_refl _) _).alloc (by simp) _).drew
end Go.Proofs.Ytkhjfcbloahjeaa
namespace Go.Proofs.Ytkhjfcbloahjeaa
open Go.RowKit Go.Sx
def wholeB (F T : Int) : Bool := decide (0 ≤ F ∧ F ≤ T ∧ T ≤ 65535)
theorem whole_any (F T : Int) (w : World) : Calls Try.prog 46 #[.agg #[.int .i64 F, .int .i64 T]] w fun e w' => e = .returned (.bool (wholeB F T)) ∧ Below w.heap.size w w' := by
  go_enter Try.func46, Try.ntmps46
  go_wp2
  all_goals
    go_ret
    exact ⟨ret_bool (by unfold wholeB; first | (rw [decide_eq_decide]; omega) | (symm; rw [decide_eq_true_iff]; omega) | (symm; rw [decide_eq_false_iff_not]; omega)), (Below.refl _ _).alloc (Nat.le_refl _) _⟩
theorem rmay_any (F T : Int) (w : World) : Calls Try.prog 50 #[.agg #[.int .i64 F, .int .i64 T]] w fun e w' => e = .returned (.bool (wholeB F T)) ∧ Below w.heap.size w w' := by
  go_enter Try.func50, Try.ntmps50
  go_wp2
  all_goals
    go_ret
    exact ⟨ret_bool (by unfold wholeB; first | (rw [decide_eq_decide]; omega) | (symm; rw [decide_eq_true_iff]; omega) | (symm; rw [decide_eq_false_iff_not]; omega)), (Below.refl _ _).alloc (Nat.le_refl _) _⟩
/-- Ranges that may be: the first k. -/
def rgB (F T : Nat → Int) (n : Nat) : Bool := (List.range n).all fun i => wholeB (F i) (T i) && (decide (i = 0) || decide (T (i - 1) + 2 ≤ F i))
theorem rgB_succ {F T : Nat → Int} {k n : Nat} (hk : k < n) (h : rgB F T k = true) : ((wholeB (F k) (T k) && (decide (k = 0) || decide (T (k - 1) + 2 ≤ F k))) = true → rgB F T (k + 1) = true) ∧ ((wholeB (F k) (T k) && (decide (k = 0) || decide (T (k - 1) + 2 ≤ F k))) = false → rgB F T n = false) := by
  refine ⟨fun e => ?_, fun e => ?_⟩
  · unfold rgB at *; rw [List.range_succ, List.all_append, h]; simpa using e
  · unfold rgB; rw [List.all_eq_false]; exact ⟨k, by simpa using hk, by rw [e]; simp⟩
theorem rgB_get {F T : Nat → Int} {n : Nat} (h : rgB F T n = true) : ∀ i, i < n → 0 ≤ F i ∧ F i ≤ T i ∧ T i ≤ 65535 ∧ (i ≠ 0 → T (i - 1) + 2 ≤ F i) := by
  intro i hi
  unfold rgB at h
  rw [List.all_eq_true] at h
  have := h i (by simpa using hi)
  simp only [Bool.and_eq_true, Bool.or_eq_true, wholeB, decide_eq_true_eq] at this
  exact ⟨this.1.1, this.1.2.1, this.1.2.2, fun h0 => this.2.resolve_left h0⟩
def RgC (F T : Nat → Int) (i j : Nat) : Value := if j = 0 then .int .i64 (F i) else .int .i64 (T i)
/-- Ranges in memory. -/
abbrev RgAt (w : World) (ao : Option Addr) (n : Nat) (F T : Nat → Int) : Prop := RowAt w ao n 2 (RgC F T)
theorem cut_eq (a b : Bool) {x : Ending} (h : a = b) (e : x = .returned (.bool a)) : x = .returned (.bool b) := by rw [e, h]
theorem may2_zero (ao : Option Addr) (c : Nat) (F T : Nat → Int) (w : World) : Calls Try.prog 40 #[.slice ao 0 c] w fun e w' => e = .returned (.bool (rgB F T 0)) ∧ Below w.heap.size w w' := by
  go_enter Try.func40, Try.ntmps40
  go_wp2
  refine wp_loop_rounds 1 ?_
  rw [rounds_succ]
  go_wp2
  go_ret
  exact ⟨rfl, Below.refl _ _⟩
set_option maxRecDepth 100000 in
set_option maxHeartbeats 3200000 in
theorem may2_some (b off n c : Nat) (F T : Nat → Int) (w : World) (hl : n ≤ 1000000) (hb : b < w.heap.size) (h : ∀ i, i < n → w.cell? ⟨b, off + i * 2, none⟩ = some (.int .i64 (F i)) ∧ w.cell? ⟨b, off + i * 2 + 1, none⟩ = some (.int .i64 (T i))) :
    Calls Try.prog 40 #[.slice (some ⟨b, off, none⟩) n c] w fun e w' => e = .returned (.bool (rgB F T n)) ∧ Below w.heap.size w w' := by
  obtain ⟨z, hz⟩ : ∃ z, z = rgB F T n := ⟨_, rfl⟩
  rw [← hz]
  have HZ := hidI hz; clear hz
  have H := hidI h; clear h
  go_enter Try.func40, Try.ntmps40
  go_wp2_with fail
  go_loopw [3] (fun i wr => ∃ k : Nat, k ≤ n ∧ i = .int .i64 k ∧ rgB F T k = true ∧ Below w.heap.size w wr) (fun i _ => n - (intOf i).toNat)
  case atStart => exact ⟨0, Nat.zero_le _, rfl, rfl, Below.refl _ _⟩
  case round =>
    obtain ⟨k, hk, rfl, ht0, hbl⟩ := hrel
    have ht := hidI ht0; clear ht0
    have bl2 : Below w.heap.size w wr.drew := hbl.drew
    by_cases hlt : k < n
    · have c0 := (hbl.cell (p := ⟨b, off + k * 2, none⟩) (by exact hb)).trans (H.out k hlt).1
      have c1 := (hbl.cell (p := ⟨b, off + k * 2 + 1, none⟩) (by exact hb)).trans (H.out k hlt).2
      cases hw : wholeB (F k) (T k)
      · have HW := hidI hw; clear hw
        go_upto_region 4 with fail
        refine wp_region_noPanic ?_
        refine wp_region_held_drew (S := (fun w' => w'.cell? ⟨b, off + k * 2, none⟩ = some (.int .i64 (F k)) ∧ w'.cell? ⟨b, off + k * 2 + 1, none⟩ = some (.int .i64 (T k)))) (by kernel_rfl) ⟨c0, c1⟩ (fun hHeld => ?_)
        refine tk 0 (oi := ⟨_, _, _, _, _, _⟩) (v := ?_) rfl (by rfl) ?_ (by assumption) ?_; rotate_left; (focus (intro w hSw; (try dsimp only at hSw); go_simp; with_reducible rfl)); simp only [Act.put, tA, tB, tC]
        refine tk 1 (oi := ⟨_, _, _, _, _, _⟩) (v := ?_) rfl (by rfl) ?_ (by assumption) ?_; rotate_left; (focus (intro w hSw; (try dsimp only at hSw); go_simp; with_reducible rfl)); simp only [Act.put, tA, tB, tC]
        refine tk 2 (oi := ⟨_, _, _, _, _, _⟩) (v := ?_) rfl (by rfl) ?_ (by assumption) ?_; rotate_left; (focus (intro w hSw; (try dsimp only at hSw); go_simp; with_reducible rfl)); simp only [Act.put, tA, tB, tC]
        refine tk 3 (oi := ⟨_, _, _, _, _, _⟩) (v := ?_) rfl (by rfl) ?_ (by assumption) ?_; rotate_left; (focus (intro w hSw; (try dsimp only at hSw); go_simp; with_reducible rfl)); simp only [Act.put, tA, tB, tC]
        refine wpAnyH_ready (rs := [4]) (by kernel_rfl) (by simp) ?_
        refine AllReadyH.cons (o := ⟨_, _, _, _, _, _⟩) rfl (fun K hK => ?_) (AllReadyH.nil)
        go_simp
        refine (whole_any (F k) (T k) _).mono ?_
        rw [HW.out]
        rintro e wa ⟨rfl, ba⟩
        have bx := bl2.trans (ba.mono (by simpa using bl2.size))
        refine hK.out _ _ ⟨(bx.cell (by exact hb)).trans (H.out k (by omega)).1, (bx.cell (by exact hb)).trans (H.out k (by omega)).2⟩ (fun hHeld => ?_)
        clear hK K
        refine tk 5 (oi := ⟨_, _, _, _, _, _⟩) (v := ?_) rfl (by rfl) ?_ (by assumption) ?_; rotate_left; (focus (intro w hSw; (try dsimp only at hSw); go_simp; with_reducible rfl)); simp only [Act.put, tA, tB, tC]
        refine tk 6 (oi := ⟨_, _, _, _, _, _⟩) (v := ?_) rfl (by rfl) ?_ (by assumption) ?_; rotate_left; (focus (intro w hSw; (try dsimp only at hSw); go_simp; with_reducible rfl)); simp only [Act.put, tA, tB, tC]
        refine tn 7 (oi := ⟨_, _, _, _, _, _⟩) rfl (by rfl) (by assumption) ?_; simp only [Act.put, tA, tB, tC]
        refine tn 8 (oi := ⟨_, _, _, _, _, _⟩) rfl (by rfl) (by assumption) ?_; simp only [Act.put, tA, tB, tC]
        refine tn 9 (oi := ⟨_, _, _, _, _, _⟩) rfl (by rfl) (by assumption) ?_; simp only [Act.put, tA, tB, tC]
        refine tn 10 (oi := ⟨_, _, _, _, _, _⟩) rfl (by rfl) (by assumption) ?_; simp only [Act.put, tA, tB, tC]
        refine tn 11 (oi := ⟨_, _, _, _, _, _⟩) rfl (by rfl) (by assumption) ?_; simp only [Act.put, tA, tB, tC]
        refine tn 12 (oi := ⟨_, _, _, _, _, _⟩) rfl (by rfl) (by assumption) ?_; simp only [Act.put, tA, tB, tC]
        refine tn 13 (oi := ⟨_, _, _, _, _, _⟩) rfl (by rfl) (by assumption) ?_; simp only [Act.put, tA, tB, tC]
        refine tn 14 (oi := ⟨_, _, _, _, _, _⟩) rfl (by rfl) (by assumption) ?_; simp only [Act.put, tA, tB, tC]
        refine tn 15 (oi := ⟨_, _, _, _, _, _⟩) rfl (by rfl) (by assumption) ?_; simp only [Act.put, tA, tB, tC]
        refine tn 16 (oi := ⟨_, _, _, _, _, _⟩) rfl (by rfl) (by assumption) ?_; simp only [Act.put, tA, tB, tC]
        refine tn 17 (oi := ⟨_, _, _, _, _, _⟩) rfl (by rfl) (by assumption) ?_; simp only [Act.put, tA, tB, tC]
        refine tn 18 (oi := ⟨_, _, _, _, _, _⟩) rfl (by rfl) (by assumption) ?_; simp only [Act.put, tA, tB, tC]
        refine tn 19 (oi := ⟨_, _, _, _, _, _⟩) rfl (by rfl) (by assumption) ?_; simp only [Act.put, tA, tB, tC]
        refine tn 20 (oi := ⟨_, _, _, _, _, _⟩) rfl (by rfl) (by assumption) ?_; simp only [Act.put, tA, tB, tC]
        refine tn 21 (oi := ⟨_, _, _, _, _, _⟩) rfl (by rfl) (by assumption) ?_; simp only [Act.put, tA, tB, tC]
        refine tn 22 (oi := ⟨_, _, _, _, _, _⟩) rfl (by rfl) (by assumption) ?_; simp only [Act.put, tA, tB, tC]
        refine tn 23 (oi := ⟨_, _, _, _, _, _⟩) rfl (by rfl) (by assumption) ?_; simp only [Act.put, tA, tB, tC]
        refine tk 24 (oi := ⟨_, _, _, _, _, _⟩) (v := ?_) rfl (by rfl) ?_ (by assumption) ?_; rotate_left; (focus (intro w hSw; (try dsimp only at hSw); go_simp; with_reducible rfl)); simp only [Act.put, tA, tB, tC]
        refine wpAnyH_done (by kernel_rfl) (NoPanic.normal ?_) _
        go_wp2_with fail
        go_ret
        exact ⟨ret_bool (by rw [HZ.out, (rgB_succ hlt ht.out).2 (by simp [HW.out])]), bx⟩
      · have HW := hidI hw; clear hw
        rcases k with _ | m
        · simp only [Nat.zero_mul, Nat.add_zero] at c0 c1
          go_upto_region 4 with fail
          refine wp_region_noPanic ?_
          refine wp_region_held_drew (S := (fun w' => w'.cell? ⟨b, off, none⟩ = some (.int .i64 (F 0)) ∧ w'.cell? ⟨b, off + 1, none⟩ = some (.int .i64 (T 0)))) (by kernel_rfl) ⟨c0, c1⟩ (fun hHeld => ?_)
          refine tk 0 (oi := ⟨_, _, _, _, _, _⟩) (v := ?_) rfl (by rfl) ?_ (by assumption) ?_; rotate_left; (focus (intro w hSw; (try dsimp only at hSw); go_simp; with_reducible rfl)); simp only [Act.put, tA, tB, tC]
          refine tk 1 (oi := ⟨_, _, _, _, _, _⟩) (v := ?_) rfl (by rfl) ?_ (by assumption) ?_; rotate_left; (focus (intro w hSw; (try dsimp only at hSw); go_simp; with_reducible rfl)); simp only [Act.put, tA, tB, tC]
          refine tk 2 (oi := ⟨_, _, _, _, _, _⟩) (v := ?_) rfl (by rfl) ?_ (by assumption) ?_; rotate_left; (focus (intro w hSw; (try dsimp only at hSw); go_simp; with_reducible rfl)); simp only [Act.put, tA, tB, tC]
          refine tk 3 (oi := ⟨_, _, _, _, _, _⟩) (v := ?_) rfl (by rfl) ?_ (by assumption) ?_; rotate_left; (focus (intro w hSw; (try dsimp only at hSw); go_simp; with_reducible rfl)); simp only [Act.put, tA, tB, tC]
          refine wpAnyH_ready (rs := [4]) (by kernel_rfl) (by simp) ?_
          refine AllReadyH.cons (o := ⟨_, _, _, _, _, _⟩) rfl (fun K hK => ?_) (AllReadyH.nil)
          go_simp
          refine (whole_any (F 0) (T 0) _).mono ?_
          rw [HW.out]
          rintro e wa ⟨rfl, ba⟩
          have bx := bl2.trans (ba.mono (by simpa using bl2.size))
          refine hK.out _ _ ⟨(ba.cell (by exact Nat.lt_of_lt_of_le hb bl2.size)).trans c0, (ba.cell (by exact Nat.lt_of_lt_of_le hb bl2.size)).trans c1⟩ (fun hHeld => ?_)
          clear hK K
          refine tk 5 (oi := ⟨_, _, _, _, _, _⟩) (v := ?_) rfl (by rfl) ?_ (by assumption) ?_; rotate_left; (focus (intro w hSw; (try dsimp only at hSw); go_simp; with_reducible rfl)); simp only [Act.put, tA, tB, tC]
          refine tk 6 (oi := ⟨_, _, _, _, _, _⟩) (v := ?_) rfl (by rfl) ?_ (by assumption) ?_; rotate_left; (focus (intro w hSw; (try dsimp only at hSw); go_simp; with_reducible rfl)); simp only [Act.put, tA, tB, tC]
          refine tk 7 (oi := ⟨_, _, _, _, _, _⟩) (v := ?_) rfl (by rfl) ?_ (by assumption) ?_; rotate_left; (focus (intro w hSw; (try dsimp only at hSw); go_simp; with_reducible rfl)); simp only [Act.put, tA, tB, tC]
          refine tk 8 (oi := ⟨_, _, _, _, _, _⟩) (v := ?_) rfl (by rfl) ?_ (by assumption) ?_; rotate_left; (focus (intro w hSw; (try dsimp only at hSw); go_simp; with_reducible rfl)); simp only [Act.put, tA, tB, tC]
          refine tk 9 (oi := ⟨_, _, _, _, _, _⟩) (v := ?_) rfl (by rfl) ?_ (by assumption) ?_; rotate_left; (focus (intro w hSw; (try dsimp only at hSw); go_simp; with_reducible rfl)); simp only [Act.put, tA, tB, tC]
          refine tn 10 (oi := ⟨_, _, _, _, _, _⟩) rfl (by rfl) (by assumption) ?_; simp only [Act.put, tA, tB, tC]
          refine tn 11 (oi := ⟨_, _, _, _, _, _⟩) rfl (by rfl) (by assumption) ?_; simp only [Act.put, tA, tB, tC]
          refine tn 12 (oi := ⟨_, _, _, _, _, _⟩) rfl (by rfl) (by assumption) ?_; simp only [Act.put, tA, tB, tC]
          refine tn 13 (oi := ⟨_, _, _, _, _, _⟩) rfl (by rfl) (by assumption) ?_; simp only [Act.put, tA, tB, tC]
          refine tn 14 (oi := ⟨_, _, _, _, _, _⟩) rfl (by rfl) (by assumption) ?_; simp only [Act.put, tA, tB, tC]
          refine tn 15 (oi := ⟨_, _, _, _, _, _⟩) rfl (by rfl) (by assumption) ?_; simp only [Act.put, tA, tB, tC]
          refine tn 16 (oi := ⟨_, _, _, _, _, _⟩) rfl (by rfl) (by assumption) ?_; simp only [Act.put, tA, tB, tC]
          refine tn 17 (oi := ⟨_, _, _, _, _, _⟩) rfl (by rfl) (by assumption) ?_; simp only [Act.put, tA, tB, tC]
          refine tn 18 (oi := ⟨_, _, _, _, _, _⟩) rfl (by rfl) (by assumption) ?_; simp only [Act.put, tA, tB, tC]
          refine tn 19 (oi := ⟨_, _, _, _, _, _⟩) rfl (by rfl) (by assumption) ?_; simp only [Act.put, tA, tB, tC]
          refine tn 20 (oi := ⟨_, _, _, _, _, _⟩) rfl (by rfl) (by assumption) ?_; simp only [Act.put, tA, tB, tC]
          refine tn 21 (oi := ⟨_, _, _, _, _, _⟩) rfl (by rfl) (by assumption) ?_; simp only [Act.put, tA, tB, tC]
          refine tn 22 (oi := ⟨_, _, _, _, _, _⟩) rfl (by rfl) (by assumption) ?_; simp only [Act.put, tA, tB, tC]
          refine tk 23 (oi := ⟨_, _, _, _, _, _⟩) (v := ?_) rfl (by rfl) ?_ (by assumption) ?_; rotate_left; (focus (intro w hSw; (try dsimp only at hSw); go_simp; with_reducible rfl)); simp only [Act.put, tA, tB, tC]
          refine tk 24 (oi := ⟨_, _, _, _, _, _⟩) (v := ?_) rfl (by rfl) ?_ (by assumption) ?_; rotate_left; (focus (intro w hSw; (try dsimp only at hSw); go_simp; with_reducible rfl)); simp only [Act.put, tA, tB, tC]
          refine wpAnyH_done (by kernel_rfl) (NoPanic.normal ?_) _
          go_wp2_with fail
          exact ⟨⟨1, by omega, by simp, (rgB_succ hlt ht.out).1 (by simp [HW.out]), bx⟩, by simp [intOf]; omega⟩
        · have c2 := (hbl.cell (p := ⟨b, off + m * 2 + 1, none⟩) (by exact hb)).trans (H.out m (by omega)).2
          have q1 : (0 : Int) ≤ F (m + 1) ∧ F (m + 1) ≤ T (m + 1) ∧ T (m + 1) ≤ 65535 := by have := HW.out; simpa [wholeB] using this
          have q2 := rgB_get ht.out m (by omega)
          have z0 : (0 : Int) ≤ (m : Int) := by omega
          have z1 : IntKind.i64.wrap (m : Int) = m := by unfold IntKind.wrap; simp [IntKind.signed, IntKind.bits]; omega
          have z2 : IntKind.i64.wrap (F (m + 1) - T m) = F (m + 1) - T m := by unfold IntKind.wrap; simp [IntKind.signed, IntKind.bits]; omega
          have z3 : (0 : Int) ≤ (m : Int) + 1 := by omega
          have z4 : (m : Int) + 1 < n := by omega
          have z5 : (m : Int) < n := by omega
          have z6 : (0 : Int) < (m : Int) + 1 := by omega
          go_upto_region 4 with fail
          refine wp_region_noPanic ?_
          refine wp_region_held_drew (S := (fun w' => w'.cell? ⟨b, off + (m + 1) * 2, none⟩ = some (.int .i64 (F (m + 1))) ∧ w'.cell? ⟨b, off + (m + 1) * 2 + 1, none⟩ = some (.int .i64 (T (m + 1))) ∧ w'.cell? ⟨b, off + m * 2 + 1, none⟩ = some (.int .i64 (T m)))) (by kernel_rfl) ⟨c0, c1, c2⟩ (fun hHeld => ?_)
          refine tk 0 (oi := ⟨_, _, _, _, _, _⟩) (v := ?_) rfl (by rfl) ?_ (by assumption) ?_; rotate_left; (focus (intro w hSw; (try dsimp only at hSw); go_simp; with_reducible rfl)); simp only [Act.put, tA, tB, tC]
          refine tk 1 (oi := ⟨_, _, _, _, _, _⟩) (v := ?_) rfl (by rfl) ?_ (by assumption) ?_; rotate_left; (focus (intro w hSw; (try dsimp only at hSw); go_simp; with_reducible rfl)); simp only [Act.put, tA, tB, tC]
          refine tk 2 (oi := ⟨_, _, _, _, _, _⟩) (v := ?_) rfl (by rfl) ?_ (by assumption) ?_; rotate_left; (focus (intro w hSw; (try dsimp only at hSw); go_simp; with_reducible rfl)); simp only [Act.put, tA, tB, tC]
          refine tk 3 (oi := ⟨_, _, _, _, _, _⟩) (v := ?_) rfl (by rfl) ?_ (by assumption) ?_; rotate_left; (focus (intro w hSw; (try dsimp only at hSw); go_simp; with_reducible rfl)); simp only [Act.put, tA, tB, tC]
          refine wpAnyH_ready (rs := [4]) (by kernel_rfl) (by simp) ?_
          refine AllReadyH.cons (o := ⟨_, _, _, _, _, _⟩) rfl (fun K hK => ?_) (AllReadyH.nil)
          go_simp
          refine (whole_any (F (m + 1)) (T (m + 1)) _).mono ?_
          rw [HW.out]
          rintro e wa ⟨rfl, ba⟩
          have bx := bl2.trans (ba.mono (by simpa using bl2.size))
          refine hK.out _ _ ⟨(bx.cell (by exact hb)).trans (H.out (m + 1) (by omega)).1, (bx.cell (by exact hb)).trans (H.out (m + 1) (by omega)).2, (bx.cell (by exact hb)).trans (H.out m (by omega)).2⟩ (fun hHeld => ?_)
          clear hK K
          refine tk 5 (oi := ⟨_, _, _, _, _, _⟩) (v := ?_) rfl (by rfl) ?_ (by assumption) ?_; rotate_left; (focus (intro w hSw; (try dsimp only at hSw); go_simp; with_reducible rfl)); simp only [Act.put, tA, tB, tC]
          refine tk 6 (oi := ⟨_, _, _, _, _, _⟩) (v := ?_) rfl (by rfl) ?_ (by assumption) ?_; rotate_left; (focus (intro w hSw; (try dsimp only at hSw); go_simp; with_reducible rfl)); simp only [Act.put, tA, tB, tC]
          refine tk 7 (oi := ⟨_, _, _, _, _, _⟩) (v := ?_) rfl (by rfl) ?_ (by assumption) ?_; rotate_left; (focus (intro w hSw; (try dsimp only at hSw); go_simp; with_reducible rfl)); simp only [Act.put, tA, tB, tC]
          refine tk 8 (oi := ⟨_, _, _, _, _, _⟩) (v := ?_) rfl (by rfl) ?_ (by assumption) ?_; rotate_left; (focus (intro w hSw; (try dsimp only at hSw); go_simp; with_reducible rfl)); simp only [Act.put, tA, tB, tC]
          refine tk 9 (oi := ⟨_, _, _, _, _, _⟩) (v := ?_) rfl (by rfl) ?_ (by assumption) ?_; rotate_left; (focus (intro w hSw; (try dsimp only at hSw); go_simp; with_reducible rfl)); simp only [Act.put, tA, tB, tC]
          refine tk 10 (oi := ⟨_, _, _, _, _, _⟩) (v := ?_) rfl (by rfl) ?_ (by assumption) ?_; rotate_left; (focus (intro w hSw; (try dsimp only at hSw); go_simp; with_reducible rfl)); simp only [Act.put, tA, tB, tC]
          refine tk 11 (oi := ⟨_, _, _, _, _, _⟩) (v := ?_) rfl (by rfl) ?_ (by assumption) ?_; rotate_left; (focus (intro w hSw; (try dsimp only at hSw); go_simp; with_reducible rfl)); simp only [Act.put, tA, tB, tC]
          refine tk 12 (oi := ⟨_, _, _, _, _, _⟩) (v := ?_) rfl (by rfl) ?_ (by assumption) ?_; rotate_left; (focus (intro w hSw; (try dsimp only at hSw); go_simp; with_reducible rfl)); simp only [Act.put, tA, tB, tC]
          refine tk 13 (oi := ⟨_, _, _, _, _, _⟩) (v := ?_) rfl (by rfl) ?_ (by assumption) ?_; rotate_left; (focus (intro w hSw; (try dsimp only at hSw); go_simp; with_reducible rfl)); simp only [Act.put, tA, tB, tC]
          refine tk 14 (oi := ⟨_, _, _, _, _, _⟩) (v := ?_) rfl (by rfl) ?_ (by assumption) ?_; rotate_left; (focus (intro w hSw; (try dsimp only at hSw); go_simp; with_reducible rfl)); simp only [Act.put, tA, tB, tC]
          refine tk 15 (oi := ⟨_, _, _, _, _, _⟩) (v := ?_) rfl (by rfl) ?_ (by assumption) ?_; rotate_left; (focus (intro w hSw; (try dsimp only at hSw); go_simp; with_reducible rfl)); simp only [Act.put, tA, tB, tC]
          refine tk 16 (oi := ⟨_, _, _, _, _, _⟩) (v := ?_) rfl (by rfl) ?_ (by assumption) ?_; rotate_left; (focus (intro w hSw; (try dsimp only at hSw); go_simp; with_reducible rfl)); simp only [Act.put, tA, tB, tC]
          refine tk 17 (oi := ⟨_, _, _, _, _, _⟩) (v := ?_) rfl (by rfl) ?_ (by assumption) ?_; rotate_left; (focus (intro w hSw; (try dsimp only at hSw); go_simp; with_reducible rfl)); simp only [Act.put, tA, tB, tC]
          refine tk 18 (oi := ⟨_, _, _, _, _, _⟩) (v := ?_) rfl (by rfl) ?_ (by assumption) ?_; rotate_left; (focus (intro w hSw; (try dsimp only at hSw); go_simp; with_reducible rfl)); simp only [Act.put, tA, tB, tC]
          refine tk 19 (oi := ⟨_, _, _, _, _, _⟩) (v := ?_) rfl (by rfl) ?_ (by assumption) ?_; rotate_left; (focus (intro w hSw; (try dsimp only at hSw); go_simp; with_reducible rfl)); simp only [Act.put, tA, tB, tC]
          refine tk 20 (oi := ⟨_, _, _, _, _, _⟩) (v := ?_) rfl (by rfl) ?_ (by assumption) ?_; rotate_left; (focus (intro w hSw; (try dsimp only at hSw); go_simp; with_reducible rfl)); simp only [Act.put, tA, tB, tC]
          refine tk 21 (oi := ⟨_, _, _, _, _, _⟩) (v := ?_) rfl (by rfl) ?_ (by assumption) ?_; rotate_left; (focus (intro w hSw; (try dsimp only at hSw); go_simp; with_reducible rfl)); simp only [Act.put, tA, tB, tC]
          refine tk 22 (oi := ⟨_, _, _, _, _, _⟩) (v := ?_) rfl (by rfl) ?_ (by assumption) ?_; rotate_left; (focus (intro w hSw; (try dsimp only at hSw); go_simp; with_reducible rfl)); simp only [Act.put, tA, tB, tC]
          refine tk 23 (oi := ⟨_, _, _, _, _, _⟩) (v := ?_) rfl (by rfl) ?_ (by assumption) ?_; rotate_left; (focus (intro w hSw; (try dsimp only at hSw); go_simp; with_reducible rfl)); simp only [Act.put, tA, tB, tC]
          refine tk 24 (oi := ⟨_, _, _, _, _, _⟩) (v := ?_) rfl (by rfl) ?_ (by assumption) ?_; rotate_left; (focus (intro w hSw; (try dsimp only at hSw); go_simp; with_reducible rfl)); simp only [Act.put, tA, tB, tC]
          refine wpAnyH_done (by kernel_rfl) (NoPanic.normal ?_) _
          go_wp2_with fail
          all_goals first
            | (go_ret; exact ⟨ret_bool (by rw [HZ.out, (rgB_succ hlt ht.out).2 (by simp [HW.out]; omega)]), bx⟩)
            | exact ⟨⟨m + 2, by omega, by rw [show ((m + 2 : Nat) : Int) = (m : Int) + 1 + 1 by omega], (rgB_succ hlt ht.out).1 (by simp [HW.out]; omega), bx⟩, by simp [intOf]; omega⟩
    · obtain rfl : k = n := by omega
      go_wp2
      go_ret
      exact ⟨ret_bool (by rw [HZ.out, ht.out]), hbl⟩
theorem rcheck_zero (ao : Option Addr) (c : Nat) (F T : Nat → Int) (w : World) : Calls Try.prog 45 #[.slice ao 0 c] w fun e w' => e = .returned (.int .i64 (if rgB F T 0 then 0 else 1)) ∧ Below w.heap.size w w' := by
  have e : rgB F T 0 = true := rfl
  rw [e]
  go_enter Try.func45, Try.ntmps45
  go_wp2
  refine wp_loop_rounds 1 ?_
  rw [rounds_succ]
  go_wp2
  go_ret
  exact ⟨rfl, Below.refl _ _⟩
set_option maxRecDepth 100000 in
set_option maxHeartbeats 3200000 in
theorem rcheck_some (b off n c : Nat) (F T : Nat → Int) (w : World) (hl : n ≤ 1000000) (hb : b < w.heap.size) (h : ∀ i, i < n → w.cell? ⟨b, off + i * 2, none⟩ = some (.int .i64 (F i)) ∧ w.cell? ⟨b, off + i * 2 + 1, none⟩ = some (.int .i64 (T i))) :
    Calls Try.prog 45 #[.slice (some ⟨b, off, none⟩) n c] w fun e w' => e = .returned (.int .i64 (if rgB F T n then 0 else 1)) ∧ Below w.heap.size w w' := by
  obtain ⟨z, hz⟩ : ∃ z : Int, z = (if rgB F T n then 0 else 1) := ⟨_, rfl⟩
  rw [← hz]
  have HZ := hidI hz; clear hz
  have H := hidI h; clear h
  go_enter Try.func45, Try.ntmps45
  go_wp2_with fail
  go_loopw [7] (fun i wr => ∃ k : Nat, k ≤ n ∧ i = .int .i64 k ∧ rgB F T k = true ∧ Below w.heap.size w wr) (fun i _ => n - (intOf i).toNat)
  case atStart => exact ⟨0, Nat.zero_le _, rfl, rfl, Below.refl _ _⟩
  case round =>
    obtain ⟨k, hk, rfl, ht0, hbl⟩ := hrel
    have ht := hidI ht0; clear ht0
    have n1 : b < wr.heap.size := Nat.lt_of_lt_of_le hb hbl.size
    have n2 : wr.heap.size ≠ b := by omega
    have n3 : b ≠ wr.heap.size := by omega
    by_cases hlt : k < n
    · have c0 := (hbl.cell (p := ⟨b, off + k * 2, none⟩) (by exact hb)).trans (H.out k hlt).1
      have c1 := (hbl.cell (p := ⟨b, off + k * 2 + 1, none⟩) (by exact hb)).trans (H.out k hlt).2
      cases hw : wholeB (F k) (T k)
      · have HW := hidI hw; clear hw
        go_upto_region 4 with fail
        have bl2 : Below w.heap.size w (wr.alloc (.cells #[.int .i64 (F k), .int .i64 (T k)] 63)).drew := (hbl.alloc hbl.size _).drew
        refine wp_region_noPanic ?_
        refine wp_region_held_drew (S := (fun w' => w'.cell? ⟨wr.heap.size, 0, none⟩ = some (.int .i64 (F k)) ∧ w'.cell? ⟨wr.heap.size, 1, none⟩ = some (.int .i64 (T k)))) (by kernel_rfl) ⟨by simp [go_sem], by simp [go_sem]⟩ (fun hHeld => ?_)
        refine tk 0 (oi := ⟨_, _, _, _, _, _⟩) (v := ?_) rfl (by rfl) ?_ (by assumption) ?_; rotate_left; (focus (intro w hSw; (try dsimp only at hSw); go_simp; with_reducible rfl)); simp only [Act.put, tA, tB, tC]
        refine wpAnyH_ready (rs := [1]) (by kernel_rfl) (by simp) ?_
        refine AllReadyH.cons (o := ⟨_, _, _, _, _, _⟩) rfl (fun K hK => ?_) (AllReadyH.nil)
        go_simp
        refine (rmay_any (F k) (T k) _).mono ?_
        rw [HW.out]
        rintro e wa ⟨rfl, ba⟩
        have bx := bl2.trans (ba.mono (by simpa using bl2.size))
        have by' := (Below.refl (wr.alloc (.cells #[.int .i64 (F k), .int .i64 (T k)] 63)).heap.size (wr.alloc (.cells #[.int .i64 (F k), .int .i64 (T k)] 63))).drew.trans ba
        refine hK.out _ _ ⟨blk_cell ((by'.block _ (by simp)).trans (blk_new wr _)) 0, blk_cell ((by'.block _ (by simp)).trans (blk_new wr _)) 1⟩ (fun hHeld => ?_)
        clear hK K
        refine tk 2 (oi := ⟨_, _, _, _, _, _⟩) (v := ?_) rfl (by rfl) ?_ (by assumption) ?_; rotate_left; (focus (intro w hSw; (try dsimp only at hSw); go_simp; with_reducible rfl)); simp only [Act.put, tA, tB, tC]
        refine tk 3 (oi := ⟨_, _, _, _, _, _⟩) (v := ?_) rfl (by rfl) ?_ (by assumption) ?_; rotate_left; (focus (intro w hSw; (try dsimp only at hSw); go_simp; with_reducible rfl)); simp only [Act.put, tA, tB, tC]
        refine tn 4 (oi := ⟨_, _, _, _, _, _⟩) rfl (by rfl) (by assumption) ?_; simp only [Act.put, tA, tB, tC]
        refine tn 5 (oi := ⟨_, _, _, _, _, _⟩) rfl (by rfl) (by assumption) ?_; simp only [Act.put, tA, tB, tC]
        refine tn 6 (oi := ⟨_, _, _, _, _, _⟩) rfl (by rfl) (by assumption) ?_; simp only [Act.put, tA, tB, tC]
        refine tn 7 (oi := ⟨_, _, _, _, _, _⟩) rfl (by rfl) (by assumption) ?_; simp only [Act.put, tA, tB, tC]
        refine tn 8 (oi := ⟨_, _, _, _, _, _⟩) rfl (by rfl) (by assumption) ?_; simp only [Act.put, tA, tB, tC]
        refine tn 9 (oi := ⟨_, _, _, _, _, _⟩) rfl (by rfl) (by assumption) ?_; simp only [Act.put, tA, tB, tC]
        refine tn 10 (oi := ⟨_, _, _, _, _, _⟩) rfl (by rfl) (by assumption) ?_; simp only [Act.put, tA, tB, tC]
        refine tn 11 (oi := ⟨_, _, _, _, _, _⟩) rfl (by rfl) (by assumption) ?_; simp only [Act.put, tA, tB, tC]
        refine tn 12 (oi := ⟨_, _, _, _, _, _⟩) rfl (by rfl) (by assumption) ?_; simp only [Act.put, tA, tB, tC]
        refine tn 13 (oi := ⟨_, _, _, _, _, _⟩) rfl (by rfl) (by assumption) ?_; simp only [Act.put, tA, tB, tC]
        refine tn 14 (oi := ⟨_, _, _, _, _, _⟩) rfl (by rfl) (by assumption) ?_; simp only [Act.put, tA, tB, tC]
        refine tn 15 (oi := ⟨_, _, _, _, _, _⟩) rfl (by rfl) (by assumption) ?_; simp only [Act.put, tA, tB, tC]
        refine tn 16 (oi := ⟨_, _, _, _, _, _⟩) rfl (by rfl) (by assumption) ?_; simp only [Act.put, tA, tB, tC]
        refine tn 17 (oi := ⟨_, _, _, _, _, _⟩) rfl (by rfl) (by assumption) ?_; simp only [Act.put, tA, tB, tC]
        refine tk 18 (oi := ⟨_, _, _, _, _, _⟩) (v := ?_) rfl (by rfl) ?_ (by assumption) ?_; rotate_left; (focus (intro w hSw; (try dsimp only at hSw); go_simp; with_reducible rfl)); simp only [Act.put, tA, tB, tC]
        refine wpAnyH_done (by kernel_rfl) (NoPanic.normal ?_) _
        go_wp2_with fail
        go_ret
        exact ⟨ret_int (by rw [HZ.out, (rgB_succ hlt ht.out).2 (by simp [HW.out])]; rfl), bx⟩
      · have HW := hidI hw; clear hw
        rcases k with _ | m
        · simp only [Nat.zero_mul, Nat.add_zero] at c0 c1
          go_upto_region 4 with fail
          have bl2 : Below w.heap.size w (wr.alloc (.cells #[.int .i64 (F 0), .int .i64 (T 0)] 63)).drew := (hbl.alloc hbl.size _).drew
          refine wp_region_noPanic ?_
          refine wp_region_held_drew (S := (fun w' => w'.cell? ⟨wr.heap.size, 0, none⟩ = some (.int .i64 (F 0)) ∧ w'.cell? ⟨wr.heap.size, 1, none⟩ = some (.int .i64 (T 0)))) (by kernel_rfl) ⟨by simp [go_sem], by simp [go_sem]⟩ (fun hHeld => ?_)
          refine tk 0 (oi := ⟨_, _, _, _, _, _⟩) (v := ?_) rfl (by rfl) ?_ (by assumption) ?_; rotate_left; (focus (intro w hSw; (try dsimp only at hSw); go_simp; with_reducible rfl)); simp only [Act.put, tA, tB, tC]
          refine wpAnyH_ready (rs := [1]) (by kernel_rfl) (by simp) ?_
          refine AllReadyH.cons (o := ⟨_, _, _, _, _, _⟩) rfl (fun K hK => ?_) (AllReadyH.nil)
          go_simp
          refine (rmay_any (F 0) (T 0) _).mono ?_
          rw [HW.out]
          rintro e wa ⟨rfl, ba⟩
          have bx := bl2.trans (ba.mono (by simpa using bl2.size))
          have by' := (Below.refl (wr.alloc (.cells #[.int .i64 (F 0), .int .i64 (T 0)] 63)).heap.size (wr.alloc (.cells #[.int .i64 (F 0), .int .i64 (T 0)] 63))).drew.trans ba
          refine hK.out _ _ ⟨blk_cell ((by'.block _ (by simp)).trans (blk_new wr _)) 0, blk_cell ((by'.block _ (by simp)).trans (blk_new wr _)) 1⟩ (fun hHeld => ?_)
          clear hK K
          refine tk 2 (oi := ⟨_, _, _, _, _, _⟩) (v := ?_) rfl (by rfl) ?_ (by assumption) ?_; rotate_left; (focus (intro w hSw; (try dsimp only at hSw); go_simp; with_reducible rfl)); simp only [Act.put, tA, tB, tC]
          refine tk 3 (oi := ⟨_, _, _, _, _, _⟩) (v := ?_) rfl (by rfl) ?_ (by assumption) ?_; rotate_left; (focus (intro w hSw; (try dsimp only at hSw); go_simp; with_reducible rfl)); simp only [Act.put, tA, tB, tC]
          refine tk 4 (oi := ⟨_, _, _, _, _, _⟩) (v := ?_) rfl (by rfl) ?_ (by assumption) ?_; rotate_left; (focus (intro w hSw; (try dsimp only at hSw); go_simp; with_reducible rfl)); simp only [Act.put, tA, tB, tC]
          refine tk 5 (oi := ⟨_, _, _, _, _, _⟩) (v := ?_) rfl (by rfl) ?_ (by assumption) ?_; rotate_left; (focus (intro w hSw; (try dsimp only at hSw); go_simp; with_reducible rfl)); simp only [Act.put, tA, tB, tC]
          refine tk 6 (oi := ⟨_, _, _, _, _, _⟩) (v := ?_) rfl (by rfl) ?_ (by assumption) ?_; rotate_left; (focus (intro w hSw; (try dsimp only at hSw); go_simp; with_reducible rfl)); simp only [Act.put, tA, tB, tC]
          refine tn 7 (oi := ⟨_, _, _, _, _, _⟩) rfl (by rfl) (by assumption) ?_; simp only [Act.put, tA, tB, tC]
          refine tn 8 (oi := ⟨_, _, _, _, _, _⟩) rfl (by rfl) (by assumption) ?_; simp only [Act.put, tA, tB, tC]
          refine tn 9 (oi := ⟨_, _, _, _, _, _⟩) rfl (by rfl) (by assumption) ?_; simp only [Act.put, tA, tB, tC]
          refine tn 10 (oi := ⟨_, _, _, _, _, _⟩) rfl (by rfl) (by assumption) ?_; simp only [Act.put, tA, tB, tC]
          refine tn 11 (oi := ⟨_, _, _, _, _, _⟩) rfl (by rfl) (by assumption) ?_; simp only [Act.put, tA, tB, tC]
          refine tn 12 (oi := ⟨_, _, _, _, _, _⟩) rfl (by rfl) (by assumption) ?_; simp only [Act.put, tA, tB, tC]
          refine tn 13 (oi := ⟨_, _, _, _, _, _⟩) rfl (by rfl) (by assumption) ?_; simp only [Act.put, tA, tB, tC]
          refine tn 14 (oi := ⟨_, _, _, _, _, _⟩) rfl (by rfl) (by assumption) ?_; simp only [Act.put, tA, tB, tC]
          refine tn 15 (oi := ⟨_, _, _, _, _, _⟩) rfl (by rfl) (by assumption) ?_; simp only [Act.put, tA, tB, tC]
          refine tn 16 (oi := ⟨_, _, _, _, _, _⟩) rfl (by rfl) (by assumption) ?_; simp only [Act.put, tA, tB, tC]
          refine tk 17 (oi := ⟨_, _, _, _, _, _⟩) (v := ?_) rfl (by rfl) ?_ (by assumption) ?_; rotate_left; (focus (intro w hSw; (try dsimp only at hSw); go_simp; with_reducible rfl)); simp only [Act.put, tA, tB, tC]
          refine tk 18 (oi := ⟨_, _, _, _, _, _⟩) (v := ?_) rfl (by rfl) ?_ (by assumption) ?_; rotate_left; (focus (intro w hSw; (try dsimp only at hSw); go_simp; with_reducible rfl)); simp only [Act.put, tA, tB, tC]
          refine wpAnyH_done (by kernel_rfl) (NoPanic.normal ?_) _
          go_wp2_with fail
          exact ⟨⟨1, by omega, by simp, (rgB_succ hlt ht.out).1 (by simp [HW.out]), bx⟩, by simp [intOf]; omega⟩
        · have q1 : (0 : Int) ≤ F (m + 1) ∧ F (m + 1) ≤ T (m + 1) ∧ T (m + 1) ≤ 65535 := by have := HW.out; simpa [wholeB] using this
          have q2 := rgB_get ht.out m (by omega)
          have z0 : (0 : Int) ≤ (m : Int) := by omega
          have z1 : IntKind.i64.wrap (m : Int) = m := by unfold IntKind.wrap; simp [IntKind.signed, IntKind.bits]; omega
          have z2 : IntKind.i64.wrap (T m + 2) = T m + 2 := by unfold IntKind.wrap; simp [IntKind.signed, IntKind.bits]; omega
          have z3 : (0 : Int) ≤ (m : Int) + 1 := by omega
          have z4 : (m : Int) + 1 < n := by omega
          have z5 : (m : Int) < n := by omega
          have z6 : (0 : Int) < (m : Int) + 1 := by omega
          go_upto_region 4 with fail
          have bl2 : Below w.heap.size w (wr.alloc (.cells #[.int .i64 (F (m + 1)), .int .i64 (T (m + 1))] 63)).drew := (hbl.alloc hbl.size _).drew
          refine wp_region_noPanic ?_
          refine wp_region_held_drew (S := (fun w' => w'.cell? ⟨wr.heap.size, 0, none⟩ = some (.int .i64 (F (m + 1))) ∧ w'.cell? ⟨wr.heap.size, 1, none⟩ = some (.int .i64 (T (m + 1))) ∧ w'.cell? ⟨b, off + m * 2 + 1, none⟩ = some (.int .i64 (T m)))) (by kernel_rfl) ⟨by simp [go_sem], by simp [go_sem], ((hbl.alloc hbl.size _).drew.cell (p := ⟨b, off + m * 2 + 1, none⟩) (by exact hb)).trans (H.out m (by omega)).2⟩ (fun hHeld => ?_)
          refine tk 0 (oi := ⟨_, _, _, _, _, _⟩) (v := ?_) rfl (by rfl) ?_ (by assumption) ?_; rotate_left; (focus (intro w hSw; (try dsimp only at hSw); go_simp; with_reducible rfl)); simp only [Act.put, tA, tB, tC]
          refine wpAnyH_ready (rs := [1]) (by kernel_rfl) (by simp) ?_
          refine AllReadyH.cons (o := ⟨_, _, _, _, _, _⟩) rfl (fun K hK => ?_) (AllReadyH.nil)
          go_simp
          refine (rmay_any (F (m + 1)) (T (m + 1)) _).mono ?_
          rw [HW.out]
          rintro e wa ⟨rfl, ba⟩
          have bx := bl2.trans (ba.mono (by simpa using bl2.size))
          have by' := (Below.refl (wr.alloc (.cells #[.int .i64 (F (m + 1)), .int .i64 (T (m + 1))] 63)).heap.size (wr.alloc (.cells #[.int .i64 (F (m + 1)), .int .i64 (T (m + 1))] 63))).drew.trans ba
          refine hK.out _ _ ⟨blk_cell ((by'.block _ (by simp)).trans (blk_new wr _)) 0, blk_cell ((by'.block _ (by simp)).trans (blk_new wr _)) 1, (bx.cell (by exact hb)).trans (H.out m (by omega)).2⟩ (fun hHeld => ?_)
          clear hK K
          refine tk 2 (oi := ⟨_, _, _, _, _, _⟩) (v := ?_) rfl (by rfl) ?_ (by assumption) ?_; rotate_left; (focus (intro w hSw; (try dsimp only at hSw); go_simp; with_reducible rfl)); simp only [Act.put, tA, tB, tC]
          refine tk 3 (oi := ⟨_, _, _, _, _, _⟩) (v := ?_) rfl (by rfl) ?_ (by assumption) ?_; rotate_left; (focus (intro w hSw; (try dsimp only at hSw); go_simp; with_reducible rfl)); simp only [Act.put, tA, tB, tC]
          refine tk 4 (oi := ⟨_, _, _, _, _, _⟩) (v := ?_) rfl (by rfl) ?_ (by assumption) ?_; rotate_left; (focus (intro w hSw; (try dsimp only at hSw); go_simp; with_reducible rfl)); simp only [Act.put, tA, tB, tC]
          refine tk 5 (oi := ⟨_, _, _, _, _, _⟩) (v := ?_) rfl (by rfl) ?_ (by assumption) ?_; rotate_left; (focus (intro w hSw; (try dsimp only at hSw); go_simp; with_reducible rfl)); simp only [Act.put, tA, tB, tC]
          refine tk 6 (oi := ⟨_, _, _, _, _, _⟩) (v := ?_) rfl (by rfl) ?_ (by assumption) ?_; rotate_left; (focus (intro w hSw; (try dsimp only at hSw); go_simp; with_reducible rfl)); simp only [Act.put, tA, tB, tC]
          refine tk 7 (oi := ⟨_, _, _, _, _, _⟩) (v := ?_) rfl (by rfl) ?_ (by assumption) ?_; rotate_left; (focus (intro w hSw; (try dsimp only at hSw); go_simp; with_reducible rfl)); simp only [Act.put, tA, tB, tC]
          refine tk 8 (oi := ⟨_, _, _, _, _, _⟩) (v := ?_) rfl (by rfl) ?_ (by assumption) ?_; rotate_left; (focus (intro w hSw; (try dsimp only at hSw); go_simp; with_reducible rfl)); simp only [Act.put, tA, tB, tC]
          refine tk 9 (oi := ⟨_, _, _, _, _, _⟩) (v := ?_) rfl (by rfl) ?_ (by assumption) ?_; rotate_left; (focus (intro w hSw; (try dsimp only at hSw); go_simp; with_reducible rfl)); simp only [Act.put, tA, tB, tC]
          refine tk 10 (oi := ⟨_, _, _, _, _, _⟩) (v := ?_) rfl (by rfl) ?_ (by assumption) ?_; rotate_left; (focus (intro w hSw; (try dsimp only at hSw); go_simp; with_reducible rfl)); simp only [Act.put, tA, tB, tC]
          refine tk 11 (oi := ⟨_, _, _, _, _, _⟩) (v := ?_) rfl (by rfl) ?_ (by assumption) ?_; rotate_left; (focus (intro w hSw; (try dsimp only at hSw); go_simp; with_reducible rfl)); simp only [Act.put, tA, tB, tC]
          refine tk 12 (oi := ⟨_, _, _, _, _, _⟩) (v := ?_) rfl (by rfl) ?_ (by assumption) ?_; rotate_left; (focus (intro w hSw; (try dsimp only at hSw); go_simp; with_reducible rfl)); simp only [Act.put, tA, tB, tC]
          refine tk 13 (oi := ⟨_, _, _, _, _, _⟩) (v := ?_) rfl (by rfl) ?_ (by assumption) ?_; rotate_left; (focus (intro w hSw; (try dsimp only at hSw); go_simp; with_reducible rfl)); simp only [Act.put, tA, tB, tC]
          refine tk 14 (oi := ⟨_, _, _, _, _, _⟩) (v := ?_) rfl (by rfl) ?_ (by assumption) ?_; rotate_left; (focus (intro w hSw; (try dsimp only at hSw); go_simp; with_reducible rfl)); simp only [Act.put, tA, tB, tC]
          refine tk 15 (oi := ⟨_, _, _, _, _, _⟩) (v := ?_) rfl (by rfl) ?_ (by assumption) ?_; rotate_left; (focus (intro w hSw; (try dsimp only at hSw); go_simp; with_reducible rfl)); simp only [Act.put, tA, tB, tC]
          refine tk 16 (oi := ⟨_, _, _, _, _, _⟩) (v := ?_) rfl (by rfl) ?_ (by assumption) ?_; rotate_left; (focus (intro w hSw; (try dsimp only at hSw); go_simp; with_reducible rfl)); simp only [Act.put, tA, tB, tC]
          refine tk 17 (oi := ⟨_, _, _, _, _, _⟩) (v := ?_) rfl (by rfl) ?_ (by assumption) ?_; rotate_left; (focus (intro w hSw; (try dsimp only at hSw); go_simp; with_reducible rfl)); simp only [Act.put, tA, tB, tC]
          refine tk 18 (oi := ⟨_, _, _, _, _, _⟩) (v := ?_) rfl (by rfl) ?_ (by assumption) ?_; rotate_left; (focus (intro w hSw; (try dsimp only at hSw); go_simp; with_reducible rfl)); simp only [Act.put, tA, tB, tC]
          refine wpAnyH_done (by kernel_rfl) (NoPanic.normal ?_) _
          go_wp2_with fail
          all_goals first
            | (go_ret; exact ⟨ret_int (by rw [HZ.out, (rgB_succ hlt ht.out).2 (by simp [HW.out]; omega)]; rfl), bx⟩)
            | exact ⟨⟨m + 2, by omega, by rw [show ((m + 2 : Nat) : Int) = (m : Int) + 1 + 1 by omega], (rgB_succ hlt ht.out).1 (by simp [HW.out]; omega), bx⟩, by simp [intOf]; omega⟩
    · obtain rfl : k = n := by omega
      go_wp2
      go_ret
      exact ⟨ret_int (by rw [HZ.out, ht.out]; rfl), hbl⟩
theorem RgAt.get {w : World} {ao : Option Addr} {n : Nat} {F T : Nat → Int} (h : RgAt w ao n F T) (hn : 0 < n) : ∃ b off, ao = some ⟨b, off, none⟩ ∧ b < w.heap.size ∧ ∀ i, i < n → w.cell? ⟨b, off + i * 2, none⟩ = some (.int .i64 (F i)) ∧ w.cell? ⟨b, off + i * 2 + 1, none⟩ = some (.int .i64 (T i)) := by
  obtain ⟨b, off, e, hb, hc⟩ := h.some hn
  refine ⟨b, off, e, hb, fun i hi => ⟨?_, hc i hi 1 (by omega)⟩⟩
  have := hc i hi 0 (by omega)
  rw [Nat.add_zero] at this
  exact this
theorem may2_any (ao : Option Addr) (n c : Nat) (F T : Nat → Int) (w : World) (hl : n ≤ 1000000) (h : RgAt w ao n F T) : Calls Try.prog 40 #[.slice ao n c] w fun e w' => e = .returned (.bool (rgB F T n)) ∧ Below w.heap.size w w' := by
  by_cases hn : 0 < n
  · obtain ⟨b, off, rfl, hb, hc⟩ := h.get hn
    exact may2_some b off n c F T w hl hb hc
  · obtain rfl : n = 0 := by omega
    exact may2_zero ao c F T w
theorem rcheck_any (ao : Option Addr) (n c : Nat) (F T : Nat → Int) (w : World) (hl : n ≤ 1000000) (h : RgAt w ao n F T) : Calls Try.prog 45 #[.slice ao n c] w fun e w' => e = .returned (.int .i64 (if rgB F T n then 0 else 1)) ∧ Below w.heap.size w w' := by
  by_cases hn : 0 < n
  · obtain ⟨b, off, rfl, hb, hc⟩ := h.get hn
    exact rcheck_some b off n c F T w hl hb hc
  · obtain rfl : n = 0 := by omega
    exact rcheck_zero ao c F T w
end Go.Proofs.Ytkhjfcbloahjeaa
namespace Go.Proofs.Ytkhjfcbloahjeaa
open Go.RowKit Go.Sx
def wiB (F T : Nat → Int) (n : Nat) (s : Int) : Bool := ((List.range n).all fun i => decide (T i < s)) && rgB F T n
theorem all_succ {p : Nat → Bool} {k n : Nat} (hk : k < n) (h : (List.range k).all p = true) : (p k = true → (List.range (k + 1)).all p = true) ∧ (p k = false → (List.range n).all p = false) := by
  refine ⟨fun e => ?_, fun e => ?_⟩
  · rw [List.range_succ, List.all_append, h]; simp [e]
  · rw [List.all_eq_false]; exact ⟨k, by simpa using hk, by simp [e]⟩
theorem within_zero (ao : Option Addr) (c : Nat) (F T : Nat → Int) (s : Int) (w : World) : Calls Try.prog 28 #[.slice ao 0 c, .int .i64 s] w fun e w' => e = .returned (.bool (wiB F T 0 s)) ∧ Below w.heap.size w w' := by
  go_enter Try.func28, Try.ntmps28
  go_wp2
  refine wp_loop_rounds 1 ?_
  rw [rounds_succ]
  go_wp2_with fail
  refine (may2_zero ao c F T _).mono ?_
  rintro e w' ⟨rfl, hb⟩
  go_wp2
  go_ret
  exact ⟨rfl, hb⟩
theorem within_some (b off n c : Nat) (F T : Nat → Int) (s : Int) (w : World) (hl : n ≤ 1000000) (hb : b < w.heap.size) (h : ∀ i, i < n → w.cell? ⟨b, off + i * 2, none⟩ = some (.int .i64 (F i)) ∧ w.cell? ⟨b, off + i * 2 + 1, none⟩ = some (.int .i64 (T i))) :
    Calls Try.prog 28 #[.slice (some ⟨b, off, none⟩) n c, .int .i64 s] w fun e w' => e = .returned (.bool (wiB F T n s)) ∧ Below w.heap.size w w' := by
  obtain ⟨z, hz⟩ : ∃ z, z = wiB F T n s := ⟨_, rfl⟩
  rw [← hz]
  have HZ := hidI hz; clear hz
  have H := hidI h; clear h
  go_enter Try.func28, Try.ntmps28
  go_wp2_with fail
  go_loop [5] (fun i => ∃ k : Nat, k ≤ n ∧ i = .int .i64 k ∧ ((List.range k).all fun i => decide (T i < s)) = true) (fun i => n - (intOf i).toNat)
  case atStart => exact ⟨0, Nat.zero_le _, rfl, rfl⟩
  case round =>
    obtain ⟨k, hk, rfl, ht0⟩ := hrel
    have ht := hidI ht0; clear ht0
    by_cases hlt : k < n
    · have c1 := (H.out k hlt).2
      go_wp2
      · go_ret
        exact ⟨ret_bool (by rw [HZ.out, wiB, (all_succ (p := fun i => decide (T i < s)) hlt ht.out).2 (by simp; omega)]; rfl), Below.refl _ _⟩
      · exact ⟨⟨k + 1, by omega, by simp, (all_succ (p := fun i => decide (T i < s)) hlt ht.out).1 (by simp; omega)⟩, by simp [intOf]; omega⟩
    · obtain rfl : k = n := by omega
      go_wp2_with fail
      refine (may2_some b off k c F T w hl hb H.out).mono ?_
      rintro e w' ⟨rfl, hbw⟩
      go_wp2
      go_ret
      exact ⟨ret_bool (by rw [HZ.out, wiB, ht.out, Bool.true_and]), hbw⟩
theorem within_any (ao : Option Addr) (n c : Nat) (F T : Nat → Int) (s : Int) (w : World) (hl : n ≤ 1000000) (h : RgAt w ao n F T) : Calls Try.prog 28 #[.slice ao n c, .int .i64 s] w fun e w' => e = .returned (.bool (wiB F T n s)) ∧ Below w.heap.size w w' := by
  by_cases hn : 0 < n
  · obtain ⟨b, off, rfl, hb, hc⟩ := h.get hn
    exact within_some b off n c F T s w hl hb hc
  · obtain rfl : n = 0 := by omega
    exact within_zero ao c F T s w
theorem wi_last {F T : Nat → Int} {n : Nat} {s : Int} (h : rgB F T n = true) : (wiB F T n s = true ↔ n = 0 ∨ T (n - 1) < s) := by
  have hg := rgB_get h
  have hm : ∀ j, j < n → ∀ i, i ≤ j → T i ≤ T j := by
    intro j
    induction j with
    | zero => intro _ i hi; obtain rfl : i = 0 := by omega
              omega
    | succ j ih =>
      intro hj i hi
      by_cases e : i = j + 1
      · subst e; omega
      · have := ih (by omega) i (by omega)
        have q := hg (j + 1) hj
        have := q.2.2.2 (by omega)
        simp at this
        omega
  unfold wiB
  rw [h, Bool.and_true, List.all_eq_true]
  constructor
  · intro ha
    by_cases h0 : n = 0
    · exact .inl h0
    · exact .inr (by simpa using ha (n - 1) (by simp; omega))
  · intro ha i hi
    have hi' : i < n := by simpa using hi
    have := hm (n - 1) (by omega) i (by omega)
    simp
    omega
set_option maxHeartbeats 800000 in
theorem below_any (ao : Option Addr) (n c : Nat) (F T : Nat → Int) (s : Int) (w : World) (hl : n ≤ 1000000) (h : RgAt w ao n F T) : Calls Try.prog 47 #[.slice ao n c, .int .i64 s] w fun e w' => e = .returned (.bool (wiB F T n s)) ∧ Below w.heap.size w w' := by
  obtain ⟨z, hz⟩ : ∃ z, z = wiB F T n s := ⟨_, rfl⟩
  rw [← hz]
  have HZ := hidI hz; clear hz
  go_enter Try.func47, Try.ntmps47
  cases hr : rgB F T n
  · have HR := hidI hr; clear hr
    go_wp2_with (go_at_call 45; refine (rcheck_any ao n c F T _ hl h).mono ?_; rw [HR.out]; rintro e w' ⟨rfl, hb⟩)
    go_ret
    exact ⟨ret_bool (by rw [HZ.out, wiB, HR.out, Bool.and_false]), hb⟩
  · have HR := hidI hr; clear hr
    rcases Nat.eq_zero_or_pos n with rfl | hn
    · go_wp2_with (go_at_call 45; refine (rcheck_any ao 0 c F T _ hl h).mono ?_; rw [HR.out]; rintro e w' ⟨rfl, hb⟩)
      go_ret
      exact ⟨ret_bool (by rw [HZ.out, (wi_last HR.out).2 (.inl rfl)]), hb⟩
    · obtain ⟨b, off, rfl, hb, hc⟩ := h.get hn
      obtain ⟨m, rfl⟩ : ∃ m, n = m + 1 := ⟨n - 1, by omega⟩
      have c1 := (hc m (by omega)).2
      go_wp2_with (go_at_call 45; refine (rcheck_some b off (m + 1) c F T _ hl hb hc).mono ?_; rw [HR.out]; rintro e w' ⟨rfl, hbw⟩; have c2 := (hbw.cell (p := ⟨b, off + m * 2 + 1, none⟩) (by exact hb)).trans c1)
      all_goals
        go_ret
        exact ⟨ret_bool (by rw [HZ.out]; have q := wi_last (s := s) HR.out; simp at q; cases hw : wiB F T (m + 1) s <;> simp [hw] at q <;> simp [q] <;> omega), hbw⟩
end Go.Proofs.Ytkhjfcbloahjeaa
namespace Go.Proofs.Ytkhjfcbloahjeaa
open Go.RowKit Go.Sx
/-- What a policy holds. -/
structure PolAt (w : World) (ra : Option Addr) (rn rc : Nat) (sa : Option Addr) (sn sc : Nat) (F T F' T' : Nat → Int) : Prop where
  r : RgAt w ra rn F T
  s : RgAt w sa sn F' T'
  rl : rn ≤ 65536
  sl : sn ≤ 65536
theorem PolAt.below {w w' : World} {ra : Option Addr} {rn rc : Nat} {sa : Option Addr} {sn sc : Nat} {F T F' T' : Nat → Int} (h : PolAt w ra rn rc sa sn sc F T F' T') (hb : Below w.heap.size w w') : PolAt w' ra rn rc sa sn sc F T F' T' := ⟨h.r.below hb, h.s.below hb, h.rl, h.sl⟩
def mayPB (rn sn : Nat) (F T F' T' : Nat → Int) : Bool := wiB F T rn 2048 && wiB F' T' sn 8192
theorem po_blk (w : World) (p0 p1 : Bool) (ra : Option Addr) (rn rc : Nat) (sa : Option Addr) (sn sc : Nat) {w' : World} (hb : Below (w.heap.size + 1) (w.alloc (.cells #[.bool p0, .bool p1, .slice ra rn rc, .slice sa sn sc] 25)) w') : w'.heap[w.heap.size]? = some (.cells #[.bool p0, .bool p1, .slice ra rn rc, .slice sa sn sc] 25 (0, 0)) := (hb.block _ (by omega)).trans (blk_new w _)
set_option maxHeartbeats 800000 in
theorem may3_any (p0 p1 : Bool) (ra : Option Addr) (rn rc : Nat) (sa : Option Addr) (sn sc : Nat) (F T F' T' : Nat → Int) (w : World) (h : PolAt w ra rn rc sa sn sc F T F' T') :
    Calls Try.prog 10 #[poV p0 p1 ra rn rc sa sn sc] w fun e w' => e = .returned (.bool (mayPB rn sn F T F' T')) ∧ Below w.heap.size w w' := by
  have b0 : Below w.heap.size w (w.alloc (.cells #[.bool p0, .bool p1, .slice ra rn rc, .slice sa sn sc] 25)) := (Below.refl _ _).alloc (Nat.le_refl _) _
  go_enter Try.func10, Try.ntmps10
  go_wp2_with fail
  refine (within_any ra rn rc F T 2048 _ (by have := h.rl; omega) (h.r.below b0)).mono ?_
  rintro e w1 ⟨rfl, b1⟩
  have B1 := b0.trans (b1.mono b0.size)
  have c3 : w1.cell? ⟨w.heap.size, 3, none⟩ = some (.slice sa sn sc) := blk_cell (po_blk w p0 p1 ra rn rc sa sn sc (b1.mono (by simp))) 3
  cases hw : wiB F T rn 2048
  · go_wp2_with fail
    go_ret
    exact ⟨ret_bool (by unfold mayPB; rw [hw]; rfl), B1⟩
  · have HW := hidI hw; clear hw
    go_wp2_with fail
    refine (within_any sa sn sc F' T' 8192 _ (by have := h.sl; omega) (h.s.below B1)).mono ?_
    rintro e w2 ⟨rfl, b2⟩
    go_wp2_with fail
    go_ret
    exact ⟨ret_bool (by unfold mayPB; rw [HW.out]; rfl), B1.trans (b2.mono B1.size)⟩
set_option maxHeartbeats 800000 in
theorem pcheck_any (p0 p1 : Bool) (ra : Option Addr) (rn rc : Nat) (sa : Option Addr) (sn sc : Nat) (F T F' T' : Nat → Int) (w : World) (h : PolAt w ra rn rc sa sn sc F T F' T') :
    Calls Try.prog 41 #[poV p0 p1 ra rn rc sa sn sc] w fun e w' => e = .returned (.int .i64 (if mayPB rn sn F T F' T' then 0 else 1)) ∧ Below w.heap.size w w' := by
  have b0 : Below w.heap.size w (w.alloc (.cells #[.bool p0, .bool p1, .slice ra rn rc, .slice sa sn sc] 25)) := (Below.refl _ _).alloc (Nat.le_refl _) _
  obtain ⟨z, hz⟩ : ∃ z : Int, z = (if mayPB rn sn F T F' T' then 0 else 1) := ⟨_, rfl⟩
  rw [← hz]
  have HZ := hidI hz; clear hz
  go_enter Try.func41, Try.ntmps41
  go_wp2_with fail
  refine (below_any ra rn rc F T 2048 _ (by have := h.rl; omega) (h.r.below b0)).mono ?_
  rintro e w1 ⟨rfl, b1⟩
  have B1 := b0.trans (b1.mono b0.size)
  have c3 : w1.cell? ⟨w.heap.size, 3, none⟩ = some (.slice sa sn sc) := blk_cell (po_blk w p0 p1 ra rn rc sa sn sc (b1.mono (by simp))) 3
  cases hw : wiB F T rn 2048
  · have HW := hidI hw; clear hw
    go_wp2_with fail
    go_ret
    exact ⟨ret_int (by rw [HZ.out, mayPB, HW.out]; rfl), B1⟩
  · have HW := hidI hw; clear hw
    go_wp2_with fail
    refine (below_any sa sn sc F' T' 8192 _ (by have := h.sl; omega) (h.s.below B1)).mono ?_
    rintro e w2 ⟨rfl, b2⟩
    have B2 := B1.trans (b2.mono B1.size)
    cases hw2 : wiB F' T' sn 8192
    · have HW2 := hidI hw2; clear hw2
      go_wp2_with fail
      go_ret
      exact ⟨ret_int (by rw [HZ.out, mayPB, HW.out, HW2.out]; rfl), B2⟩
    · have HW2 := hidI hw2; clear hw2
      go_wp2_with fail
      go_ret
      exact ⟨ret_int (by rw [HZ.out, mayPB, HW.out, HW2.out]; rfl), B2⟩
set_option maxHeartbeats 1600000 in
theorem smay_any (p0 p1 : Bool) (ra : Option Addr) (rn rc : Nat) (sa : Option Addr) (sn sc : Nat) (F T F' T' : Nat → Int) (p : ByteArray) (ao : Option Addr) (n c : Nat) (sv rm : ByteArray) (R : Nat → Int) (w : World) (h : PolAt w ra rn rc sa sn sc F T F' T') (hp : p.size ≤ 1000000) (hl : n ≤ 1000000) (hR : IntsAt w ao n R) :
    Calls Try.prog 29 #[poV p0 p1 ra rn rc sa sn sc, scV p ao n c sv rm] w fun e w' => e = .returned (.int .i64 (if mayPB rn sn F T F' T' then (if maySB p n sv rm R then 0 else 8) else 7)) ∧ Below w.heap.size w w' := by
  have b0 : Below w.heap.size w ((w.alloc (.cells #[.bool p0, .bool p1, .slice ra rn rc, .slice sa sn sc] 25)).alloc (.cells #[.string p, .slice ao n c, .string sv, .string rm] 28)) := ((Below.refl _ _).alloc (Nat.le_refl _) _).alloc (by simp) _
  have s0 : ScAt ((w.alloc (.cells #[.bool p0, .bool p1, .slice ra rn rc, .slice sa sn sc] 25)).alloc (.cells #[.string p, .slice ao n c, .string sv, .string rm] 28)) (w.heap.size + 1) p ao n c sv rm := blk_new' _ (by simp)
  obtain ⟨z, hz⟩ : ∃ z : Int, z = (if mayPB rn sn F T F' T' then (if maySB p n sv rm R then 0 else 8) else 7) := ⟨_, rfl⟩
  rw [← hz]
  have HZ := hidI hz; clear hz
  go_enter Try.func29, Try.ntmps29
  go_wp2_with fail
  refine (pcheck_any p0 p1 ra rn rc sa sn sc F T F' T' _ (h.below b0)).mono ?_
  rintro e w1 ⟨rfl, b1⟩
  have B1 := b0.trans (b1.mono b0.size)
  have S1 := s0.below b1
  clear s0 b0 b1
  have c0 : w1.cell? ⟨w.heap.size + 1, 0, none⟩ = some (.string p) := blk_cell S1 0
  have c1 : w1.cell? ⟨w.heap.size + 1, 1, none⟩ = some (.slice ao n c) := blk_cell S1 1
  have c2 : w1.cell? ⟨w.heap.size + 1, 2, none⟩ = some (.string sv) := blk_cell S1 2
  have c3 : w1.cell? ⟨w.heap.size + 1, 3, none⟩ = some (.string rm) := blk_cell S1 3
  cases hw : mayPB rn sn F T F' T'
  · have HW := hidI hw; clear hw
    go_wp2_with fail
    go_ret
    exact ⟨ret_int (by rw [HZ.out, HW.out]; rfl), B1⟩
  · have HW := hidI hw; clear hw
    go_wp2_with fail
    refine (check_any p ao n c sv rm R _ hp hl (hR.below B1)).mono ?_
    rintro e w2 ⟨rfl, b2⟩
    go_wp2_with fail
    all_goals
      go_ret
      exact ⟨ret_int (by rw [HZ.out, HW.out]; simp [*]), B1.trans (b2.mono B1.size)⟩
def rckB (R : Nat → Int) (n : Nat) (s : Int) : Bool := (List.range n).all fun i => decide (0 ≤ R i ∧ 2 * R i < s ∧ R i ≤ 600 ∧ (i = 0 ∨ R (i - 1) < R i))
theorem rck_is (p : ByteArray) (n : Nat) (sv rm : ByteArray) (R : Nat → Int) : (rckB R n p.size && decide (p.size % 2 = 0 ∧ p.size ≤ 1200 ∧ sv.size ≤ 8192 ∧ rm.size ≤ 2048)) = maySB p n sv rm R := by
  unfold maySB
  by_cases hs : p.size % 2 = 0 ∧ fr p ≤ 600 ∧ sv.size ≤ 8192 ∧ rm.size ≤ 2048
  · have h2 : p.size % 2 = 0 ∧ p.size ≤ 1200 ∧ sv.size ≤ 8192 ∧ rm.size ≤ 2048 := by unfold fr at hs; omega
    rw [decide_eq_true hs, decide_eq_true h2, Bool.and_true, Bool.true_and]
    have hf : (p.size : Int) = 2 * fr p := by unfold fr; omega
    have hfr := hs.2.1
    unfold rckB
    rw [Bool.eq_iff_iff]
    constructor
    · intro h
      rw [List.all_eq_true] at h
      unfold ckB
      rw [List.all_eq_true]
      intro i hi
      have := h i hi
      simp only [decide_eq_true_eq] at this ⊢
      refine ⟨?_, by omega⟩
      unfold prev
      split
      · omega
      · omega
    · intro h
      have hm := ckB_mono h
      have ha := ckB_all h
      rw [List.all_eq_true]
      intro i hi
      have hi' : i < n := by simpa using hi
      have q := ha i hi'
      have q0 := (hm i hi').1
      simp only [decide_eq_true_eq]
      refine ⟨q0, by omega, by omega, ?_⟩
      by_cases h0 : i = 0
      · exact .inl h0
      · exact .inr ((hm i hi').2 (i - 1) (by omega))
  · have h2 : ¬ (p.size % 2 = 0 ∧ p.size ≤ 1200 ∧ sv.size ≤ 8192 ∧ rm.size ≤ 2048) := by unfold fr at hs; omega
    rw [decide_eq_false hs, decide_eq_false h2, Bool.and_false, Bool.false_and]
set_option maxHeartbeats 3200000 in
theorem smayr_some (p : ByteArray) (b off n c : Nat) (sv rm : ByteArray) (R : Nat → Int) (w : World) (hp : p.size ≤ 1000000) (hl : n ≤ 1000000) (hb : b < w.heap.size) (h : ∀ i, i < n → w.cell? ⟨b, off + i, none⟩ = some (.int .i64 (R i))) (hr : ∀ i, i < n → -9223372036854775808 ≤ R i ∧ R i ≤ 9223372036854775807) :
    Calls Try.prog 11 #[scV p (some ⟨b, off, none⟩) n c sv rm] w fun e w' => e = .returned (.bool (rckB R n p.size && decide (p.size % 2 = 0 ∧ p.size ≤ 1200 ∧ sv.size ≤ 8192 ∧ rm.size ≤ 2048))) ∧ Below w.heap.size w w' := by
  obtain ⟨z, hz⟩ : ∃ z, z = (rckB R n p.size && decide (p.size % 2 = 0 ∧ p.size ≤ 1200 ∧ sv.size ≤ 8192 ∧ rm.size ≤ 2048)) := ⟨_, rfl⟩
  rw [← hz]
  have HZ := hidI hz; clear hz
  have H := hidI h; clear h
  have HR := hidI hr; clear hr
  have s0 : ScAt (w.alloc (.cells #[.string p, .slice (some ⟨b, off, none⟩) n c, .string sv, .string rm] 28)) w.heap.size p (some ⟨b, off, none⟩) n c sv rm := blk_new _ _
  have B0 : Below w.heap.size w (w.alloc (.cells #[.string p, .slice (some ⟨b, off, none⟩) n c, .string sv, .string rm] 28)) := (Below.refl _ _).alloc (Nat.le_refl _) _
  go_enter Try.func11, Try.ntmps11
  go_wp2_with fail
  go_loopw [3] (fun i wr => ∃ k q : Nat, k ≤ n ∧ i = .int .i64 k ∧ rckB R k p.size = true ∧ wr = (w.alloc (.cells #[.string p, .slice (some ⟨b, off, none⟩) n c, .string sv, .string rm] 28)).drewN q) (fun i _ => n - (intOf i).toNat)
  case atStart => exact ⟨0, 0, Nat.zero_le _, rfl, rfl, rfl⟩
  case round =>
    obtain ⟨k, q, hk, rfl, ht0, hwr⟩ := hrel
    have ht := hidI ht0; clear ht0
    have Sr : ScAt wr w.heap.size p (some ⟨b, off, none⟩) n c sv rm := by rw [hwr]; exact s0
    have Br : Below w.heap.size w wr := by rw [hwr]; exact below_drewN B0 q
    have HWR := hidI hwr; clear hwr
    have c0 : wr.cell? ⟨w.heap.size, 0, none⟩ = some (.string p) := blk_cell Sr 0
    have c1 : wr.cell? ⟨w.heap.size, 1, none⟩ = some (.slice (some ⟨b, off, none⟩) n c) := blk_cell Sr 1
    have c2 : wr.cell? ⟨w.heap.size, 2, none⟩ = some (.string sv) := blk_cell Sr 2
    have c3 : wr.cell? ⟨w.heap.size, 3, none⟩ = some (.string rm) := blk_cell Sr 3
    by_cases hlt : k < n
    · have d0 := (Br.cell (p := ⟨b, off + k, none⟩) (by exact hb)).trans (H.out k hlt)
      have hrk := HR.out k hlt
      have hlt' : (k : Int) < n := by omega
      have no : ¬ (0 ≤ R k ∧ 2 * R k < p.size ∧ R k ≤ 600 ∧ (k = 0 ∨ R (k - 1) < R k)) → z = false := fun hh => by
        rw [HZ.out, rckB, (all_succ (p := fun i => decide (0 ≤ R i ∧ 2 * R i < p.size ∧ R i ≤ 600 ∧ (i = 0 ∨ R (i - 1) < R i))) hlt ht.out).2 (by simpa using hh), Bool.false_and]
      have NO := hidI no; clear no
      have yes : (0 ≤ R k ∧ 2 * R k < p.size ∧ R k ≤ 600 ∧ (k = 0 ∨ R (k - 1) < R k)) → rckB R (k + 1) p.size = true := fun hh => (all_succ (p := fun i => decide (0 ≤ R i ∧ 2 * R i < p.size ∧ R i ≤ 600 ∧ (i = 0 ∨ R (i - 1) < R i))) hlt ht.out).1 (by simpa using hh)
      have YES := hidI yes; clear yes
      by_cases g1 : R k < 0
      · skip
        go_upto_region 4 with fail
        refine wp_region_noPanic ?_
        refine wp_region_held_drew (S := (fun w' => w'.cell? ⟨w.heap.size, 0, none⟩ = some (.string p) ∧ w'.cell? ⟨w.heap.size, 1, none⟩ = some (.slice (some ⟨b, off, none⟩) n c) ∧ w'.cell? ⟨b, off + k, none⟩ = some (.int .i64 (R k)))) (by kernel_rfl) ⟨c0, c1, d0⟩ (fun hHeld => ?_)
        refine tk 0 (oi := ⟨_, _, _, _, _, _⟩) (v := ?_) rfl (by rfl) ?_ (by assumption) ?_; rotate_left; (focus (intro w hSw; (try dsimp only at hSw); go_simp; with_reducible rfl)); simp only [Act.put, tA, tB, tC]
        refine tk 1 (oi := ⟨_, _, _, _, _, _⟩) (v := ?_) rfl (by rfl) ?_ (by assumption) ?_; rotate_left; (focus (intro w hSw; (try dsimp only at hSw); go_simp; with_reducible rfl)); simp only [Act.put, tA, tB, tC]
        refine tk 2 (oi := ⟨_, _, _, _, _, _⟩) (v := ?_) rfl (by rfl) ?_ (by assumption) ?_; rotate_left; (focus (intro w hSw; (try dsimp only at hSw); go_simp; with_reducible rfl)); simp only [Act.put, tA, tB, tC]
        refine tk 3 (oi := ⟨_, _, _, _, _, _⟩) (v := ?_) rfl (by rfl) ?_ (by assumption) ?_; rotate_left; (focus (intro w hSw; (try dsimp only at hSw); go_simp; with_reducible rfl)); simp only [Act.put, tA, tB, tC]
        refine tk 4 (oi := ⟨_, _, _, _, _, _⟩) (v := ?_) rfl (by rfl) ?_ (by assumption) ?_; rotate_left; (focus (intro w hSw; (try dsimp only at hSw); go_simp; with_reducible rfl)); simp only [Act.put, tA, tB, tC]
        refine tk 5 (oi := ⟨_, _, _, _, _, _⟩) (v := ?_) rfl (by rfl) ?_ (by assumption) ?_; rotate_left; (focus (intro w hSw; (try dsimp only at hSw); go_simp; with_reducible rfl)); simp only [Act.put, tA, tB, tC]
        refine tk 6 (oi := ⟨_, _, _, _, _, _⟩) (v := ?_) rfl (by rfl) ?_ (by assumption) ?_; rotate_left; (focus (intro w hSw; (try dsimp only at hSw); go_simp; with_reducible rfl)); simp only [Act.put, tA, tB, tC]
        refine tn 7 (oi := ⟨_, _, _, _, _, _⟩) rfl (by rfl) (by assumption) ?_; simp only [Act.put, tA, tB, tC]
        refine tn 8 (oi := ⟨_, _, _, _, _, _⟩) rfl (by rfl) (by assumption) ?_; simp only [Act.put, tA, tB, tC]
        refine tn 9 (oi := ⟨_, _, _, _, _, _⟩) rfl (by rfl) (by assumption) ?_; simp only [Act.put, tA, tB, tC]
        refine tn 10 (oi := ⟨_, _, _, _, _, _⟩) rfl (by rfl) (by assumption) ?_; simp only [Act.put, tA, tB, tC]
        refine tn 11 (oi := ⟨_, _, _, _, _, _⟩) rfl (by rfl) (by assumption) ?_; simp only [Act.put, tA, tB, tC]
        refine tn 12 (oi := ⟨_, _, _, _, _, _⟩) rfl (by rfl) (by assumption) ?_; simp only [Act.put, tA, tB, tC]
        refine tn 13 (oi := ⟨_, _, _, _, _, _⟩) rfl (by rfl) (by assumption) ?_; simp only [Act.put, tA, tB, tC]
        refine tn 14 (oi := ⟨_, _, _, _, _, _⟩) rfl (by rfl) (by assumption) ?_; simp only [Act.put, tA, tB, tC]
        refine tn 15 (oi := ⟨_, _, _, _, _, _⟩) rfl (by rfl) (by assumption) ?_; simp only [Act.put, tA, tB, tC]
        refine tn 16 (oi := ⟨_, _, _, _, _, _⟩) rfl (by rfl) (by assumption) ?_; simp only [Act.put, tA, tB, tC]
        refine tk 17 (oi := ⟨_, _, _, _, _, _⟩) (v := ?_) rfl (by rfl) ?_ (by assumption) ?_; rotate_left; (focus (intro w hSw; (try dsimp only at hSw); go_simp; with_reducible rfl)); simp only [Act.put, tA, tB, tC]
        refine tk 18 (oi := ⟨_, _, _, _, _, _⟩) (v := ?_) rfl (by rfl) ?_ (by assumption) ?_; rotate_left; (focus (intro w hSw; (try dsimp only at hSw); go_simp; with_reducible rfl)); simp only [Act.put, tA, tB, tC]
        refine tn 19 (oi := ⟨_, _, _, _, _, _⟩) rfl (by rfl) (by assumption) ?_; simp only [Act.put, tA, tB, tC]
        refine tn 20 (oi := ⟨_, _, _, _, _, _⟩) rfl (by rfl) (by assumption) ?_; simp only [Act.put, tA, tB, tC]
        refine tn 21 (oi := ⟨_, _, _, _, _, _⟩) rfl (by rfl) (by assumption) ?_; simp only [Act.put, tA, tB, tC]
        refine tn 22 (oi := ⟨_, _, _, _, _, _⟩) rfl (by rfl) (by assumption) ?_; simp only [Act.put, tA, tB, tC]
        refine tn 23 (oi := ⟨_, _, _, _, _, _⟩) rfl (by rfl) (by assumption) ?_; simp only [Act.put, tA, tB, tC]
        refine tn 24 (oi := ⟨_, _, _, _, _, _⟩) rfl (by rfl) (by assumption) ?_; simp only [Act.put, tA, tB, tC]
        refine tk 25 (oi := ⟨_, _, _, _, _, _⟩) (v := ?_) rfl (by rfl) ?_ (by assumption) ?_; rotate_left; (focus (intro w hSw; (try dsimp only at hSw); go_simp; with_reducible rfl)); simp only [Act.put, tA, tB, tC]
        refine tk 26 (oi := ⟨_, _, _, _, _, _⟩) (v := ?_) rfl (by rfl) ?_ (by assumption) ?_; rotate_left; (focus (intro w hSw; (try dsimp only at hSw); go_simp; with_reducible rfl)); simp only [Act.put, tA, tB, tC]
        refine tn 27 (oi := ⟨_, _, _, _, _, _⟩) rfl (by rfl) (by assumption) ?_; simp only [Act.put, tA, tB, tC]
        refine tn 28 (oi := ⟨_, _, _, _, _, _⟩) rfl (by rfl) (by assumption) ?_; simp only [Act.put, tA, tB, tC]
        refine tn 29 (oi := ⟨_, _, _, _, _, _⟩) rfl (by rfl) (by assumption) ?_; simp only [Act.put, tA, tB, tC]
        refine tn 30 (oi := ⟨_, _, _, _, _, _⟩) rfl (by rfl) (by assumption) ?_; simp only [Act.put, tA, tB, tC]
        refine tn 31 (oi := ⟨_, _, _, _, _, _⟩) rfl (by rfl) (by assumption) ?_; simp only [Act.put, tA, tB, tC]
        refine tn 32 (oi := ⟨_, _, _, _, _, _⟩) rfl (by rfl) (by assumption) ?_; simp only [Act.put, tA, tB, tC]
        refine tn 33 (oi := ⟨_, _, _, _, _, _⟩) rfl (by rfl) (by assumption) ?_; simp only [Act.put, tA, tB, tC]
        refine tn 34 (oi := ⟨_, _, _, _, _, _⟩) rfl (by rfl) (by assumption) ?_; simp only [Act.put, tA, tB, tC]
        refine tn 35 (oi := ⟨_, _, _, _, _, _⟩) rfl (by rfl) (by assumption) ?_; simp only [Act.put, tA, tB, tC]
        refine tn 36 (oi := ⟨_, _, _, _, _, _⟩) rfl (by rfl) (by assumption) ?_; simp only [Act.put, tA, tB, tC]
        refine tn 37 (oi := ⟨_, _, _, _, _, _⟩) rfl (by rfl) (by assumption) ?_; simp only [Act.put, tA, tB, tC]
        refine tn 38 (oi := ⟨_, _, _, _, _, _⟩) rfl (by rfl) (by assumption) ?_; simp only [Act.put, tA, tB, tC]
        refine tn 39 (oi := ⟨_, _, _, _, _, _⟩) rfl (by rfl) (by assumption) ?_; simp only [Act.put, tA, tB, tC]
        refine tn 40 (oi := ⟨_, _, _, _, _, _⟩) rfl (by rfl) (by assumption) ?_; simp only [Act.put, tA, tB, tC]
        refine tn 41 (oi := ⟨_, _, _, _, _, _⟩) rfl (by rfl) (by assumption) ?_; simp only [Act.put, tA, tB, tC]
        refine tn 42 (oi := ⟨_, _, _, _, _, _⟩) rfl (by rfl) (by assumption) ?_; simp only [Act.put, tA, tB, tC]
        refine tk 43 (oi := ⟨_, _, _, _, _, _⟩) (v := ?_) rfl (by rfl) ?_ (by assumption) ?_; rotate_left; (focus (intro w hSw; (try dsimp only at hSw); go_simp; with_reducible rfl)); simp only [Act.put, tA, tB, tC]
        refine wpAnyH_done (by kernel_rfl) (NoPanic.normal ?_) _
        go_wp2_with fail
        go_ret
        exact ⟨ret_bool (NO.out (by omega)).symm, Br.drew⟩
      · have g1' : 0 ≤ R k := by omega
        have g1d : decide (R k < 0) = false := by simp; omega
        by_cases g2 : 600 < R k
        · have g2d : decide (600 < R k) = true := by simp; omega
          by_cases g3 : (p.size : Int) ≤ IntKind.i64.wrap (2 * R k)
          · have g3d : decide ((p.size : Int) ≤ IntKind.i64.wrap (2 * R k)) = true := decide_eq_true g3
            go_upto_region 4 with fail
            refine wp_region_noPanic ?_
            refine wp_region_held_drew (S := (fun w' => w'.cell? ⟨w.heap.size, 0, none⟩ = some (.string p) ∧ w'.cell? ⟨w.heap.size, 1, none⟩ = some (.slice (some ⟨b, off, none⟩) n c) ∧ w'.cell? ⟨b, off + k, none⟩ = some (.int .i64 (R k)))) (by kernel_rfl) ⟨c0, c1, d0⟩ (fun hHeld => ?_)
            refine tk 0 (oi := ⟨_, _, _, _, _, _⟩) (v := ?_) rfl (by rfl) ?_ (by assumption) ?_; rotate_left; (focus (intro w hSw; (try dsimp only at hSw); go_simp; with_reducible rfl)); simp only [Act.put, tA, tB, tC]
            refine tk 1 (oi := ⟨_, _, _, _, _, _⟩) (v := ?_) rfl (by rfl) ?_ (by assumption) ?_; rotate_left; (focus (intro w hSw; (try dsimp only at hSw); go_simp; with_reducible rfl)); simp only [Act.put, tA, tB, tC]
            refine tk 2 (oi := ⟨_, _, _, _, _, _⟩) (v := ?_) rfl (by rfl) ?_ (by assumption) ?_; rotate_left; (focus (intro w hSw; (try dsimp only at hSw); go_simp; with_reducible rfl)); simp only [Act.put, tA, tB, tC]
            refine tk 3 (oi := ⟨_, _, _, _, _, _⟩) (v := ?_) rfl (by rfl) ?_ (by assumption) ?_; rotate_left; (focus (intro w hSw; (try dsimp only at hSw); go_simp; with_reducible rfl)); simp only [Act.put, tA, tB, tC]
            refine tk 4 (oi := ⟨_, _, _, _, _, _⟩) (v := ?_) rfl (by rfl) ?_ (by assumption) ?_; rotate_left; (focus (intro w hSw; (try dsimp only at hSw); go_simp; with_reducible rfl)); simp only [Act.put, tA, tB, tC]
            refine tk 5 (oi := ⟨_, _, _, _, _, _⟩) (v := ?_) rfl (by rfl) ?_ (by assumption) ?_; rotate_left; (focus (intro w hSw; (try dsimp only at hSw); go_simp; with_reducible rfl)); simp only [Act.put, tA, tB, tC]
            refine tk 6 (oi := ⟨_, _, _, _, _, _⟩) (v := ?_) rfl (by rfl) ?_ (by assumption) ?_; rotate_left; (focus (intro w hSw; (try dsimp only at hSw); go_simp; with_reducible rfl)); simp only [Act.put, tA, tB, tC]
            refine tk 7 (oi := ⟨_, _, _, _, _, _⟩) (v := ?_) rfl (by rfl) ?_ (by assumption) ?_; rotate_left; (focus (intro w hSw; (try dsimp only at hSw); go_simp; with_reducible rfl)); simp only [Act.put, tA, tB, tC]
            refine tk 8 (oi := ⟨_, _, _, _, _, _⟩) (v := ?_) rfl (by rfl) ?_ (by assumption) ?_; rotate_left; (focus (intro w hSw; (try dsimp only at hSw); go_simp; with_reducible rfl)); simp only [Act.put, tA, tB, tC]
            refine tk 9 (oi := ⟨_, _, _, _, _, _⟩) (v := ?_) rfl (by rfl) ?_ (by assumption) ?_; rotate_left; (focus (intro w hSw; (try dsimp only at hSw); go_simp; with_reducible rfl)); simp only [Act.put, tA, tB, tC]
            refine tk 10 (oi := ⟨_, _, _, _, _, _⟩) (v := ?_) rfl (by rfl) ?_ (by assumption) ?_; rotate_left; (focus (intro w hSw; (try dsimp only at hSw); go_simp; with_reducible rfl)); simp only [Act.put, tA, tB, tC]
            refine tk 11 (oi := ⟨_, _, _, _, _, _⟩) (v := ?_) rfl (by rfl) ?_ (by assumption) ?_; rotate_left; (focus (intro w hSw; (try dsimp only at hSw); go_simp; with_reducible rfl)); simp only [Act.put, tA, tB, tC]
            refine tk 12 (oi := ⟨_, _, _, _, _, _⟩) (v := ?_) rfl (by rfl) ?_ (by assumption) ?_; rotate_left; (focus (intro w hSw; (try dsimp only at hSw); go_simp; with_reducible rfl)); simp only [Act.put, tA, tB, tC]
            refine tk 13 (oi := ⟨_, _, _, _, _, _⟩) (v := ?_) rfl (by rfl) ?_ (by assumption) ?_; rotate_left; (focus (intro w hSw; (try dsimp only at hSw); go_simp; with_reducible rfl)); simp only [Act.put, tA, tB, tC]
            refine tk 14 (oi := ⟨_, _, _, _, _, _⟩) (v := ?_) rfl (by rfl) ?_ (by assumption) ?_; rotate_left; (focus (intro w hSw; (try dsimp only at hSw); go_simp; with_reducible rfl)); simp only [Act.put, tA, tB, tC]
            refine tk 15 (oi := ⟨_, _, _, _, _, _⟩) (v := ?_) rfl (by rfl) ?_ (by assumption) ?_; rotate_left; (focus (intro w hSw; (try dsimp only at hSw); go_simp; with_reducible rfl)); simp only [Act.put, tA, tB, tC]
            refine tk 16 (oi := ⟨_, _, _, _, _, _⟩) (v := ?_) rfl (by rfl) ?_ (by assumption) ?_; rotate_left; (focus (intro w hSw; (try dsimp only at hSw); go_simp; with_reducible rfl)); simp only [Act.put, tA, tB, tC]
            refine tk 17 (oi := ⟨_, _, _, _, _, _⟩) (v := ?_) rfl (by rfl) ?_ (by assumption) ?_; rotate_left; (focus (intro w hSw; (try dsimp only at hSw); go_simp; with_reducible rfl)); simp only [Act.put, tA, tB, tC]
            refine tk 18 (oi := ⟨_, _, _, _, _, _⟩) (v := ?_) rfl (by rfl) ?_ (by assumption) ?_; rotate_left; (focus (intro w hSw; (try dsimp only at hSw); go_simp; with_reducible rfl)); simp only [Act.put, tA, tB, tC]
            refine tn 19 (oi := ⟨_, _, _, _, _, _⟩) rfl (by rfl) (by assumption) ?_; simp only [Act.put, tA, tB, tC]
            refine tn 20 (oi := ⟨_, _, _, _, _, _⟩) rfl (by rfl) (by assumption) ?_; simp only [Act.put, tA, tB, tC]
            refine tn 21 (oi := ⟨_, _, _, _, _, _⟩) rfl (by rfl) (by assumption) ?_; simp only [Act.put, tA, tB, tC]
            refine tn 22 (oi := ⟨_, _, _, _, _, _⟩) rfl (by rfl) (by assumption) ?_; simp only [Act.put, tA, tB, tC]
            refine tn 23 (oi := ⟨_, _, _, _, _, _⟩) rfl (by rfl) (by assumption) ?_; simp only [Act.put, tA, tB, tC]
            refine tn 24 (oi := ⟨_, _, _, _, _, _⟩) rfl (by rfl) (by assumption) ?_; simp only [Act.put, tA, tB, tC]
            refine tk 25 (oi := ⟨_, _, _, _, _, _⟩) (v := ?_) rfl (by rfl) ?_ (by assumption) ?_; rotate_left; (focus (intro w hSw; (try dsimp only at hSw); go_simp; with_reducible rfl)); simp only [Act.put, tA, tB, tC]
            refine tk 26 (oi := ⟨_, _, _, _, _, _⟩) (v := ?_) rfl (by rfl) ?_ (by assumption) ?_; rotate_left; (focus (intro w hSw; (try dsimp only at hSw); go_simp; with_reducible rfl)); simp only [Act.put, tA, tB, tC]
            refine tn 27 (oi := ⟨_, _, _, _, _, _⟩) rfl (by rfl) (by assumption) ?_; simp only [Act.put, tA, tB, tC]
            refine tn 28 (oi := ⟨_, _, _, _, _, _⟩) rfl (by rfl) (by assumption) ?_; simp only [Act.put, tA, tB, tC]
            refine tn 29 (oi := ⟨_, _, _, _, _, _⟩) rfl (by rfl) (by assumption) ?_; simp only [Act.put, tA, tB, tC]
            refine tn 30 (oi := ⟨_, _, _, _, _, _⟩) rfl (by rfl) (by assumption) ?_; simp only [Act.put, tA, tB, tC]
            refine tn 31 (oi := ⟨_, _, _, _, _, _⟩) rfl (by rfl) (by assumption) ?_; simp only [Act.put, tA, tB, tC]
            refine tn 32 (oi := ⟨_, _, _, _, _, _⟩) rfl (by rfl) (by assumption) ?_; simp only [Act.put, tA, tB, tC]
            refine tn 33 (oi := ⟨_, _, _, _, _, _⟩) rfl (by rfl) (by assumption) ?_; simp only [Act.put, tA, tB, tC]
            refine tn 34 (oi := ⟨_, _, _, _, _, _⟩) rfl (by rfl) (by assumption) ?_; simp only [Act.put, tA, tB, tC]
            refine tn 35 (oi := ⟨_, _, _, _, _, _⟩) rfl (by rfl) (by assumption) ?_; simp only [Act.put, tA, tB, tC]
            refine tn 36 (oi := ⟨_, _, _, _, _, _⟩) rfl (by rfl) (by assumption) ?_; simp only [Act.put, tA, tB, tC]
            refine tn 37 (oi := ⟨_, _, _, _, _, _⟩) rfl (by rfl) (by assumption) ?_; simp only [Act.put, tA, tB, tC]
            refine tn 38 (oi := ⟨_, _, _, _, _, _⟩) rfl (by rfl) (by assumption) ?_; simp only [Act.put, tA, tB, tC]
            refine tn 39 (oi := ⟨_, _, _, _, _, _⟩) rfl (by rfl) (by assumption) ?_; simp only [Act.put, tA, tB, tC]
            refine tn 40 (oi := ⟨_, _, _, _, _, _⟩) rfl (by rfl) (by assumption) ?_; simp only [Act.put, tA, tB, tC]
            refine tn 41 (oi := ⟨_, _, _, _, _, _⟩) rfl (by rfl) (by assumption) ?_; simp only [Act.put, tA, tB, tC]
            refine tn 42 (oi := ⟨_, _, _, _, _, _⟩) rfl (by rfl) (by assumption) ?_; simp only [Act.put, tA, tB, tC]
            refine tk 43 (oi := ⟨_, _, _, _, _, _⟩) (v := ?_) rfl (by rfl) ?_ (by assumption) ?_; rotate_left; (focus (intro w hSw; (try dsimp only at hSw); go_simp; with_reducible rfl)); simp only [Act.put, tA, tB, tC]
            refine wpAnyH_done (by kernel_rfl) (NoPanic.normal ?_) _
            go_wp2_with fail
            go_ret
            exact ⟨ret_bool (NO.out (by omega)).symm, Br.drew⟩
          · have g3d : decide ((p.size : Int) ≤ IntKind.i64.wrap (2 * R k)) = false := decide_eq_false g3
            go_upto_region 4 with fail
            refine wp_region_noPanic ?_
            refine wp_region_held_drew (S := (fun w' => w'.cell? ⟨w.heap.size, 0, none⟩ = some (.string p) ∧ w'.cell? ⟨w.heap.size, 1, none⟩ = some (.slice (some ⟨b, off, none⟩) n c) ∧ w'.cell? ⟨b, off + k, none⟩ = some (.int .i64 (R k)))) (by kernel_rfl) ⟨c0, c1, d0⟩ (fun hHeld => ?_)
            refine tk 0 (oi := ⟨_, _, _, _, _, _⟩) (v := ?_) rfl (by rfl) ?_ (by assumption) ?_; rotate_left; (focus (intro w hSw; (try dsimp only at hSw); go_simp; with_reducible rfl)); simp only [Act.put, tA, tB, tC]
            refine tk 1 (oi := ⟨_, _, _, _, _, _⟩) (v := ?_) rfl (by rfl) ?_ (by assumption) ?_; rotate_left; (focus (intro w hSw; (try dsimp only at hSw); go_simp; with_reducible rfl)); simp only [Act.put, tA, tB, tC]
            refine tk 2 (oi := ⟨_, _, _, _, _, _⟩) (v := ?_) rfl (by rfl) ?_ (by assumption) ?_; rotate_left; (focus (intro w hSw; (try dsimp only at hSw); go_simp; with_reducible rfl)); simp only [Act.put, tA, tB, tC]
            refine tk 3 (oi := ⟨_, _, _, _, _, _⟩) (v := ?_) rfl (by rfl) ?_ (by assumption) ?_; rotate_left; (focus (intro w hSw; (try dsimp only at hSw); go_simp; with_reducible rfl)); simp only [Act.put, tA, tB, tC]
            refine tk 4 (oi := ⟨_, _, _, _, _, _⟩) (v := ?_) rfl (by rfl) ?_ (by assumption) ?_; rotate_left; (focus (intro w hSw; (try dsimp only at hSw); go_simp; with_reducible rfl)); simp only [Act.put, tA, tB, tC]
            refine tk 5 (oi := ⟨_, _, _, _, _, _⟩) (v := ?_) rfl (by rfl) ?_ (by assumption) ?_; rotate_left; (focus (intro w hSw; (try dsimp only at hSw); go_simp; with_reducible rfl)); simp only [Act.put, tA, tB, tC]
            refine tk 6 (oi := ⟨_, _, _, _, _, _⟩) (v := ?_) rfl (by rfl) ?_ (by assumption) ?_; rotate_left; (focus (intro w hSw; (try dsimp only at hSw); go_simp; with_reducible rfl)); simp only [Act.put, tA, tB, tC]
            refine tk 7 (oi := ⟨_, _, _, _, _, _⟩) (v := ?_) rfl (by rfl) ?_ (by assumption) ?_; rotate_left; (focus (intro w hSw; (try dsimp only at hSw); go_simp; with_reducible rfl)); simp only [Act.put, tA, tB, tC]
            refine tk 8 (oi := ⟨_, _, _, _, _, _⟩) (v := ?_) rfl (by rfl) ?_ (by assumption) ?_; rotate_left; (focus (intro w hSw; (try dsimp only at hSw); go_simp; with_reducible rfl)); simp only [Act.put, tA, tB, tC]
            refine tk 9 (oi := ⟨_, _, _, _, _, _⟩) (v := ?_) rfl (by rfl) ?_ (by assumption) ?_; rotate_left; (focus (intro w hSw; (try dsimp only at hSw); go_simp; with_reducible rfl)); simp only [Act.put, tA, tB, tC]
            refine tk 10 (oi := ⟨_, _, _, _, _, _⟩) (v := ?_) rfl (by rfl) ?_ (by assumption) ?_; rotate_left; (focus (intro w hSw; (try dsimp only at hSw); go_simp; with_reducible rfl)); simp only [Act.put, tA, tB, tC]
            refine tk 11 (oi := ⟨_, _, _, _, _, _⟩) (v := ?_) rfl (by rfl) ?_ (by assumption) ?_; rotate_left; (focus (intro w hSw; (try dsimp only at hSw); go_simp; with_reducible rfl)); simp only [Act.put, tA, tB, tC]
            refine tk 12 (oi := ⟨_, _, _, _, _, _⟩) (v := ?_) rfl (by rfl) ?_ (by assumption) ?_; rotate_left; (focus (intro w hSw; (try dsimp only at hSw); go_simp; with_reducible rfl)); simp only [Act.put, tA, tB, tC]
            refine tk 13 (oi := ⟨_, _, _, _, _, _⟩) (v := ?_) rfl (by rfl) ?_ (by assumption) ?_; rotate_left; (focus (intro w hSw; (try dsimp only at hSw); go_simp; with_reducible rfl)); simp only [Act.put, tA, tB, tC]
            refine tk 14 (oi := ⟨_, _, _, _, _, _⟩) (v := ?_) rfl (by rfl) ?_ (by assumption) ?_; rotate_left; (focus (intro w hSw; (try dsimp only at hSw); go_simp; with_reducible rfl)); simp only [Act.put, tA, tB, tC]
            refine tk 15 (oi := ⟨_, _, _, _, _, _⟩) (v := ?_) rfl (by rfl) ?_ (by assumption) ?_; rotate_left; (focus (intro w hSw; (try dsimp only at hSw); go_simp; with_reducible rfl)); simp only [Act.put, tA, tB, tC]
            refine tk 16 (oi := ⟨_, _, _, _, _, _⟩) (v := ?_) rfl (by rfl) ?_ (by assumption) ?_; rotate_left; (focus (intro w hSw; (try dsimp only at hSw); go_simp; with_reducible rfl)); simp only [Act.put, tA, tB, tC]
            refine tk 17 (oi := ⟨_, _, _, _, _, _⟩) (v := ?_) rfl (by rfl) ?_ (by assumption) ?_; rotate_left; (focus (intro w hSw; (try dsimp only at hSw); go_simp; with_reducible rfl)); simp only [Act.put, tA, tB, tC]
            refine tk 18 (oi := ⟨_, _, _, _, _, _⟩) (v := ?_) rfl (by rfl) ?_ (by assumption) ?_; rotate_left; (focus (intro w hSw; (try dsimp only at hSw); go_simp; with_reducible rfl)); simp only [Act.put, tA, tB, tC]
            refine tk 19 (oi := ⟨_, _, _, _, _, _⟩) (v := ?_) rfl (by rfl) ?_ (by assumption) ?_; rotate_left; (focus (intro w hSw; (try dsimp only at hSw); go_simp; with_reducible rfl)); simp only [Act.put, tA, tB, tC]
            refine tk 20 (oi := ⟨_, _, _, _, _, _⟩) (v := ?_) rfl (by rfl) ?_ (by assumption) ?_; rotate_left; (focus (intro w hSw; (try dsimp only at hSw); go_simp; with_reducible rfl)); simp only [Act.put, tA, tB, tC]
            refine tk 21 (oi := ⟨_, _, _, _, _, _⟩) (v := ?_) rfl (by rfl) ?_ (by assumption) ?_; rotate_left; (focus (intro w hSw; (try dsimp only at hSw); go_simp; with_reducible rfl)); simp only [Act.put, tA, tB, tC]
            refine tk 22 (oi := ⟨_, _, _, _, _, _⟩) (v := ?_) rfl (by rfl) ?_ (by assumption) ?_; rotate_left; (focus (intro w hSw; (try dsimp only at hSw); go_simp; with_reducible rfl)); simp only [Act.put, tA, tB, tC]
            refine tk 23 (oi := ⟨_, _, _, _, _, _⟩) (v := ?_) rfl (by rfl) ?_ (by assumption) ?_; rotate_left; (focus (intro w hSw; (try dsimp only at hSw); go_simp; with_reducible rfl)); simp only [Act.put, tA, tB, tC]
            refine tk 24 (oi := ⟨_, _, _, _, _, _⟩) (v := ?_) rfl (by rfl) ?_ (by assumption) ?_; rotate_left; (focus (intro w hSw; (try dsimp only at hSw); go_simp; with_reducible rfl)); simp only [Act.put, tA, tB, tC]
            refine tk 25 (oi := ⟨_, _, _, _, _, _⟩) (v := ?_) rfl (by rfl) ?_ (by assumption) ?_; rotate_left; (focus (intro w hSw; (try dsimp only at hSw); go_simp; with_reducible rfl)); simp only [Act.put, tA, tB, tC]
            refine tk 26 (oi := ⟨_, _, _, _, _, _⟩) (v := ?_) rfl (by rfl) ?_ (by assumption) ?_; rotate_left; (focus (intro w hSw; (try dsimp only at hSw); go_simp; with_reducible rfl)); simp only [Act.put, tA, tB, tC]
            refine tn 27 (oi := ⟨_, _, _, _, _, _⟩) rfl (by rfl) (by assumption) ?_; simp only [Act.put, tA, tB, tC]
            refine tn 28 (oi := ⟨_, _, _, _, _, _⟩) rfl (by rfl) (by assumption) ?_; simp only [Act.put, tA, tB, tC]
            refine tn 29 (oi := ⟨_, _, _, _, _, _⟩) rfl (by rfl) (by assumption) ?_; simp only [Act.put, tA, tB, tC]
            refine tn 30 (oi := ⟨_, _, _, _, _, _⟩) rfl (by rfl) (by assumption) ?_; simp only [Act.put, tA, tB, tC]
            refine tn 31 (oi := ⟨_, _, _, _, _, _⟩) rfl (by rfl) (by assumption) ?_; simp only [Act.put, tA, tB, tC]
            refine tn 32 (oi := ⟨_, _, _, _, _, _⟩) rfl (by rfl) (by assumption) ?_; simp only [Act.put, tA, tB, tC]
            refine tn 33 (oi := ⟨_, _, _, _, _, _⟩) rfl (by rfl) (by assumption) ?_; simp only [Act.put, tA, tB, tC]
            refine tn 34 (oi := ⟨_, _, _, _, _, _⟩) rfl (by rfl) (by assumption) ?_; simp only [Act.put, tA, tB, tC]
            refine tn 35 (oi := ⟨_, _, _, _, _, _⟩) rfl (by rfl) (by assumption) ?_; simp only [Act.put, tA, tB, tC]
            refine tn 36 (oi := ⟨_, _, _, _, _, _⟩) rfl (by rfl) (by assumption) ?_; simp only [Act.put, tA, tB, tC]
            refine tn 37 (oi := ⟨_, _, _, _, _, _⟩) rfl (by rfl) (by assumption) ?_; simp only [Act.put, tA, tB, tC]
            refine tn 38 (oi := ⟨_, _, _, _, _, _⟩) rfl (by rfl) (by assumption) ?_; simp only [Act.put, tA, tB, tC]
            refine tn 39 (oi := ⟨_, _, _, _, _, _⟩) rfl (by rfl) (by assumption) ?_; simp only [Act.put, tA, tB, tC]
            refine tn 40 (oi := ⟨_, _, _, _, _, _⟩) rfl (by rfl) (by assumption) ?_; simp only [Act.put, tA, tB, tC]
            refine tn 41 (oi := ⟨_, _, _, _, _, _⟩) rfl (by rfl) (by assumption) ?_; simp only [Act.put, tA, tB, tC]
            refine tn 42 (oi := ⟨_, _, _, _, _, _⟩) rfl (by rfl) (by assumption) ?_; simp only [Act.put, tA, tB, tC]
            refine tk 43 (oi := ⟨_, _, _, _, _, _⟩) (v := ?_) rfl (by rfl) ?_ (by assumption) ?_; rotate_left; (focus (intro w hSw; (try dsimp only at hSw); go_simp; with_reducible rfl)); simp only [Act.put, tA, tB, tC]
            refine wpAnyH_done (by kernel_rfl) (NoPanic.normal ?_) _
            go_wp2_with fail
            go_ret
            exact ⟨ret_bool (NO.out (by omega)).symm, Br.drew⟩
        · have g2' : R k ≤ 600 := by omega
          clear g2
          have z1 : IntKind.i64.wrap (2 * R k) = 2 * R k := by unfold IntKind.wrap; simp [IntKind.signed, IntKind.bits]; omega
          have g2d : decide (600 < R k) = false := by simp; omega
          by_cases g3 : (p.size : Int) ≤ 2 * R k
          · have g3d : decide ((p.size : Int) ≤ 2 * R k) = true := decide_eq_true g3
            go_upto_region 4 with fail
            refine wp_region_noPanic ?_
            refine wp_region_held_drew (S := (fun w' => w'.cell? ⟨w.heap.size, 0, none⟩ = some (.string p) ∧ w'.cell? ⟨w.heap.size, 1, none⟩ = some (.slice (some ⟨b, off, none⟩) n c) ∧ w'.cell? ⟨b, off + k, none⟩ = some (.int .i64 (R k)))) (by kernel_rfl) ⟨c0, c1, d0⟩ (fun hHeld => ?_)
            refine tk 0 (oi := ⟨_, _, _, _, _, _⟩) (v := ?_) rfl (by rfl) ?_ (by assumption) ?_; rotate_left; (focus (intro w hSw; (try dsimp only at hSw); go_simp; with_reducible rfl)); simp only [Act.put, tA, tB, tC]
            refine tk 1 (oi := ⟨_, _, _, _, _, _⟩) (v := ?_) rfl (by rfl) ?_ (by assumption) ?_; rotate_left; (focus (intro w hSw; (try dsimp only at hSw); go_simp; with_reducible rfl)); simp only [Act.put, tA, tB, tC]
            refine tk 2 (oi := ⟨_, _, _, _, _, _⟩) (v := ?_) rfl (by rfl) ?_ (by assumption) ?_; rotate_left; (focus (intro w hSw; (try dsimp only at hSw); go_simp; with_reducible rfl)); simp only [Act.put, tA, tB, tC]
            refine tk 3 (oi := ⟨_, _, _, _, _, _⟩) (v := ?_) rfl (by rfl) ?_ (by assumption) ?_; rotate_left; (focus (intro w hSw; (try dsimp only at hSw); go_simp; with_reducible rfl)); simp only [Act.put, tA, tB, tC]
            refine tk 4 (oi := ⟨_, _, _, _, _, _⟩) (v := ?_) rfl (by rfl) ?_ (by assumption) ?_; rotate_left; (focus (intro w hSw; (try dsimp only at hSw); go_simp; with_reducible rfl)); simp only [Act.put, tA, tB, tC]
            refine tk 5 (oi := ⟨_, _, _, _, _, _⟩) (v := ?_) rfl (by rfl) ?_ (by assumption) ?_; rotate_left; (focus (intro w hSw; (try dsimp only at hSw); go_simp; with_reducible rfl)); simp only [Act.put, tA, tB, tC]
            refine tk 6 (oi := ⟨_, _, _, _, _, _⟩) (v := ?_) rfl (by rfl) ?_ (by assumption) ?_; rotate_left; (focus (intro w hSw; (try dsimp only at hSw); go_simp; with_reducible rfl)); simp only [Act.put, tA, tB, tC]
            refine tk 7 (oi := ⟨_, _, _, _, _, _⟩) (v := ?_) rfl (by rfl) ?_ (by assumption) ?_; rotate_left; (focus (intro w hSw; (try dsimp only at hSw); go_simp; with_reducible rfl)); simp only [Act.put, tA, tB, tC]
            refine tk 8 (oi := ⟨_, _, _, _, _, _⟩) (v := ?_) rfl (by rfl) ?_ (by assumption) ?_; rotate_left; (focus (intro w hSw; (try dsimp only at hSw); go_simp; with_reducible rfl)); simp only [Act.put, tA, tB, tC]
            refine tk 9 (oi := ⟨_, _, _, _, _, _⟩) (v := ?_) rfl (by rfl) ?_ (by assumption) ?_; rotate_left; (focus (intro w hSw; (try dsimp only at hSw); go_simp; with_reducible rfl)); simp only [Act.put, tA, tB, tC]
            refine tk 10 (oi := ⟨_, _, _, _, _, _⟩) (v := ?_) rfl (by rfl) ?_ (by assumption) ?_; rotate_left; (focus (intro w hSw; (try dsimp only at hSw); go_simp; with_reducible rfl)); simp only [Act.put, tA, tB, tC]
            refine tk 11 (oi := ⟨_, _, _, _, _, _⟩) (v := ?_) rfl (by rfl) ?_ (by assumption) ?_; rotate_left; (focus (intro w hSw; (try dsimp only at hSw); go_simp; with_reducible rfl)); simp only [Act.put, tA, tB, tC]
            refine tk 12 (oi := ⟨_, _, _, _, _, _⟩) (v := ?_) rfl (by rfl) ?_ (by assumption) ?_; rotate_left; (focus (intro w hSw; (try dsimp only at hSw); go_simp; with_reducible rfl)); simp only [Act.put, tA, tB, tC]
            refine tk 13 (oi := ⟨_, _, _, _, _, _⟩) (v := ?_) rfl (by rfl) ?_ (by assumption) ?_; rotate_left; (focus (intro w hSw; (try dsimp only at hSw); go_simp; with_reducible rfl)); simp only [Act.put, tA, tB, tC]
            refine tk 14 (oi := ⟨_, _, _, _, _, _⟩) (v := ?_) rfl (by rfl) ?_ (by assumption) ?_; rotate_left; (focus (intro w hSw; (try dsimp only at hSw); go_simp; with_reducible rfl)); simp only [Act.put, tA, tB, tC]
            refine tk 15 (oi := ⟨_, _, _, _, _, _⟩) (v := ?_) rfl (by rfl) ?_ (by assumption) ?_; rotate_left; (focus (intro w hSw; (try dsimp only at hSw); go_simp; with_reducible rfl)); simp only [Act.put, tA, tB, tC]
            refine tk 16 (oi := ⟨_, _, _, _, _, _⟩) (v := ?_) rfl (by rfl) ?_ (by assumption) ?_; rotate_left; (focus (intro w hSw; (try dsimp only at hSw); go_simp; with_reducible rfl)); simp only [Act.put, tA, tB, tC]
            refine tk 17 (oi := ⟨_, _, _, _, _, _⟩) (v := ?_) rfl (by rfl) ?_ (by assumption) ?_; rotate_left; (focus (intro w hSw; (try dsimp only at hSw); go_simp; with_reducible rfl)); simp only [Act.put, tA, tB, tC]
            refine tk 18 (oi := ⟨_, _, _, _, _, _⟩) (v := ?_) rfl (by rfl) ?_ (by assumption) ?_; rotate_left; (focus (intro w hSw; (try dsimp only at hSw); go_simp; with_reducible rfl)); simp only [Act.put, tA, tB, tC]
            refine tn 19 (oi := ⟨_, _, _, _, _, _⟩) rfl (by rfl) (by assumption) ?_; simp only [Act.put, tA, tB, tC]
            refine tn 20 (oi := ⟨_, _, _, _, _, _⟩) rfl (by rfl) (by assumption) ?_; simp only [Act.put, tA, tB, tC]
            refine tn 21 (oi := ⟨_, _, _, _, _, _⟩) rfl (by rfl) (by assumption) ?_; simp only [Act.put, tA, tB, tC]
            refine tn 22 (oi := ⟨_, _, _, _, _, _⟩) rfl (by rfl) (by assumption) ?_; simp only [Act.put, tA, tB, tC]
            refine tn 23 (oi := ⟨_, _, _, _, _, _⟩) rfl (by rfl) (by assumption) ?_; simp only [Act.put, tA, tB, tC]
            refine tn 24 (oi := ⟨_, _, _, _, _, _⟩) rfl (by rfl) (by assumption) ?_; simp only [Act.put, tA, tB, tC]
            refine tk 25 (oi := ⟨_, _, _, _, _, _⟩) (v := ?_) rfl (by rfl) ?_ (by assumption) ?_; rotate_left; (focus (intro w hSw; (try dsimp only at hSw); go_simp; with_reducible rfl)); simp only [Act.put, tA, tB, tC]
            refine tk 26 (oi := ⟨_, _, _, _, _, _⟩) (v := ?_) rfl (by rfl) ?_ (by assumption) ?_; rotate_left; (focus (intro w hSw; (try dsimp only at hSw); go_simp; with_reducible rfl)); simp only [Act.put, tA, tB, tC]
            refine tn 27 (oi := ⟨_, _, _, _, _, _⟩) rfl (by rfl) (by assumption) ?_; simp only [Act.put, tA, tB, tC]
            refine tn 28 (oi := ⟨_, _, _, _, _, _⟩) rfl (by rfl) (by assumption) ?_; simp only [Act.put, tA, tB, tC]
            refine tn 29 (oi := ⟨_, _, _, _, _, _⟩) rfl (by rfl) (by assumption) ?_; simp only [Act.put, tA, tB, tC]
            refine tn 30 (oi := ⟨_, _, _, _, _, _⟩) rfl (by rfl) (by assumption) ?_; simp only [Act.put, tA, tB, tC]
            refine tn 31 (oi := ⟨_, _, _, _, _, _⟩) rfl (by rfl) (by assumption) ?_; simp only [Act.put, tA, tB, tC]
            refine tn 32 (oi := ⟨_, _, _, _, _, _⟩) rfl (by rfl) (by assumption) ?_; simp only [Act.put, tA, tB, tC]
            refine tn 33 (oi := ⟨_, _, _, _, _, _⟩) rfl (by rfl) (by assumption) ?_; simp only [Act.put, tA, tB, tC]
            refine tn 34 (oi := ⟨_, _, _, _, _, _⟩) rfl (by rfl) (by assumption) ?_; simp only [Act.put, tA, tB, tC]
            refine tn 35 (oi := ⟨_, _, _, _, _, _⟩) rfl (by rfl) (by assumption) ?_; simp only [Act.put, tA, tB, tC]
            refine tn 36 (oi := ⟨_, _, _, _, _, _⟩) rfl (by rfl) (by assumption) ?_; simp only [Act.put, tA, tB, tC]
            refine tn 37 (oi := ⟨_, _, _, _, _, _⟩) rfl (by rfl) (by assumption) ?_; simp only [Act.put, tA, tB, tC]
            refine tn 38 (oi := ⟨_, _, _, _, _, _⟩) rfl (by rfl) (by assumption) ?_; simp only [Act.put, tA, tB, tC]
            refine tn 39 (oi := ⟨_, _, _, _, _, _⟩) rfl (by rfl) (by assumption) ?_; simp only [Act.put, tA, tB, tC]
            refine tn 40 (oi := ⟨_, _, _, _, _, _⟩) rfl (by rfl) (by assumption) ?_; simp only [Act.put, tA, tB, tC]
            refine tn 41 (oi := ⟨_, _, _, _, _, _⟩) rfl (by rfl) (by assumption) ?_; simp only [Act.put, tA, tB, tC]
            refine tn 42 (oi := ⟨_, _, _, _, _, _⟩) rfl (by rfl) (by assumption) ?_; simp only [Act.put, tA, tB, tC]
            refine tk 43 (oi := ⟨_, _, _, _, _, _⟩) (v := ?_) rfl (by rfl) ?_ (by assumption) ?_; rotate_left; (focus (intro w hSw; (try dsimp only at hSw); go_simp; with_reducible rfl)); simp only [Act.put, tA, tB, tC]
            refine wpAnyH_done (by kernel_rfl) (NoPanic.normal ?_) _
            go_wp2_with fail
            go_ret
            exact ⟨ret_bool (NO.out (by omega)).symm, Br.drew⟩
          · have g3' : 2 * R k < (p.size : Int) := by omega
            have g3d : decide ((p.size : Int) ≤ 2 * R k) = false := decide_eq_false g3
            clear g3
            rcases k with _ | m
            · simp only [Nat.add_zero] at d0
              go_upto_region 4 with fail
              refine wp_region_noPanic ?_
              refine wp_region_held_drew (S := (fun w' => w'.cell? ⟨w.heap.size, 0, none⟩ = some (.string p) ∧ w'.cell? ⟨w.heap.size, 1, none⟩ = some (.slice (some ⟨b, off, none⟩) n c) ∧ w'.cell? ⟨b, off, none⟩ = some (.int .i64 (R 0)))) (by kernel_rfl) ⟨c0, c1, d0⟩ (fun hHeld => ?_)
              refine tk 0 (oi := ⟨_, _, _, _, _, _⟩) (v := ?_) rfl (by rfl) ?_ (by assumption) ?_; rotate_left; (focus (intro w hSw; (try dsimp only at hSw); go_simp; with_reducible rfl)); simp only [Act.put, tA, tB, tC]
              refine tk 1 (oi := ⟨_, _, _, _, _, _⟩) (v := ?_) rfl (by rfl) ?_ (by assumption) ?_; rotate_left; (focus (intro w hSw; (try dsimp only at hSw); go_simp; with_reducible rfl)); simp only [Act.put, tA, tB, tC]
              refine tk 2 (oi := ⟨_, _, _, _, _, _⟩) (v := ?_) rfl (by rfl) ?_ (by assumption) ?_; rotate_left; (focus (intro w hSw; (try dsimp only at hSw); go_simp; with_reducible rfl)); simp only [Act.put, tA, tB, tC]
              refine tk 3 (oi := ⟨_, _, _, _, _, _⟩) (v := ?_) rfl (by rfl) ?_ (by assumption) ?_; rotate_left; (focus (intro w hSw; (try dsimp only at hSw); go_simp; with_reducible rfl)); simp only [Act.put, tA, tB, tC]
              refine tk 4 (oi := ⟨_, _, _, _, _, _⟩) (v := ?_) rfl (by rfl) ?_ (by assumption) ?_; rotate_left; (focus (intro w hSw; (try dsimp only at hSw); go_simp; with_reducible rfl)); simp only [Act.put, tA, tB, tC]
              refine tk 5 (oi := ⟨_, _, _, _, _, _⟩) (v := ?_) rfl (by rfl) ?_ (by assumption) ?_; rotate_left; (focus (intro w hSw; (try dsimp only at hSw); go_simp; with_reducible rfl)); simp only [Act.put, tA, tB, tC]
              refine tk 6 (oi := ⟨_, _, _, _, _, _⟩) (v := ?_) rfl (by rfl) ?_ (by assumption) ?_; rotate_left; (focus (intro w hSw; (try dsimp only at hSw); go_simp; with_reducible rfl)); simp only [Act.put, tA, tB, tC]
              refine tk 7 (oi := ⟨_, _, _, _, _, _⟩) (v := ?_) rfl (by rfl) ?_ (by assumption) ?_; rotate_left; (focus (intro w hSw; (try dsimp only at hSw); go_simp; with_reducible rfl)); simp only [Act.put, tA, tB, tC]
              refine tk 8 (oi := ⟨_, _, _, _, _, _⟩) (v := ?_) rfl (by rfl) ?_ (by assumption) ?_; rotate_left; (focus (intro w hSw; (try dsimp only at hSw); go_simp; with_reducible rfl)); simp only [Act.put, tA, tB, tC]
              refine tk 9 (oi := ⟨_, _, _, _, _, _⟩) (v := ?_) rfl (by rfl) ?_ (by assumption) ?_; rotate_left; (focus (intro w hSw; (try dsimp only at hSw); go_simp; with_reducible rfl)); simp only [Act.put, tA, tB, tC]
              refine tk 10 (oi := ⟨_, _, _, _, _, _⟩) (v := ?_) rfl (by rfl) ?_ (by assumption) ?_; rotate_left; (focus (intro w hSw; (try dsimp only at hSw); go_simp; with_reducible rfl)); simp only [Act.put, tA, tB, tC]
              refine tk 11 (oi := ⟨_, _, _, _, _, _⟩) (v := ?_) rfl (by rfl) ?_ (by assumption) ?_; rotate_left; (focus (intro w hSw; (try dsimp only at hSw); go_simp; with_reducible rfl)); simp only [Act.put, tA, tB, tC]
              refine tk 12 (oi := ⟨_, _, _, _, _, _⟩) (v := ?_) rfl (by rfl) ?_ (by assumption) ?_; rotate_left; (focus (intro w hSw; (try dsimp only at hSw); go_simp; with_reducible rfl)); simp only [Act.put, tA, tB, tC]
              refine tk 13 (oi := ⟨_, _, _, _, _, _⟩) (v := ?_) rfl (by rfl) ?_ (by assumption) ?_; rotate_left; (focus (intro w hSw; (try dsimp only at hSw); go_simp; with_reducible rfl)); simp only [Act.put, tA, tB, tC]
              refine tk 14 (oi := ⟨_, _, _, _, _, _⟩) (v := ?_) rfl (by rfl) ?_ (by assumption) ?_; rotate_left; (focus (intro w hSw; (try dsimp only at hSw); go_simp; with_reducible rfl)); simp only [Act.put, tA, tB, tC]
              refine tk 15 (oi := ⟨_, _, _, _, _, _⟩) (v := ?_) rfl (by rfl) ?_ (by assumption) ?_; rotate_left; (focus (intro w hSw; (try dsimp only at hSw); go_simp; with_reducible rfl)); simp only [Act.put, tA, tB, tC]
              refine tk 16 (oi := ⟨_, _, _, _, _, _⟩) (v := ?_) rfl (by rfl) ?_ (by assumption) ?_; rotate_left; (focus (intro w hSw; (try dsimp only at hSw); go_simp; with_reducible rfl)); simp only [Act.put, tA, tB, tC]
              refine tk 17 (oi := ⟨_, _, _, _, _, _⟩) (v := ?_) rfl (by rfl) ?_ (by assumption) ?_; rotate_left; (focus (intro w hSw; (try dsimp only at hSw); go_simp; with_reducible rfl)); simp only [Act.put, tA, tB, tC]
              refine tk 18 (oi := ⟨_, _, _, _, _, _⟩) (v := ?_) rfl (by rfl) ?_ (by assumption) ?_; rotate_left; (focus (intro w hSw; (try dsimp only at hSw); go_simp; with_reducible rfl)); simp only [Act.put, tA, tB, tC]
              refine tk 19 (oi := ⟨_, _, _, _, _, _⟩) (v := ?_) rfl (by rfl) ?_ (by assumption) ?_; rotate_left; (focus (intro w hSw; (try dsimp only at hSw); go_simp; with_reducible rfl)); simp only [Act.put, tA, tB, tC]
              refine tk 20 (oi := ⟨_, _, _, _, _, _⟩) (v := ?_) rfl (by rfl) ?_ (by assumption) ?_; rotate_left; (focus (intro w hSw; (try dsimp only at hSw); go_simp; with_reducible rfl)); simp only [Act.put, tA, tB, tC]
              refine tk 21 (oi := ⟨_, _, _, _, _, _⟩) (v := ?_) rfl (by rfl) ?_ (by assumption) ?_; rotate_left; (focus (intro w hSw; (try dsimp only at hSw); go_simp; with_reducible rfl)); simp only [Act.put, tA, tB, tC]
              refine tk 22 (oi := ⟨_, _, _, _, _, _⟩) (v := ?_) rfl (by rfl) ?_ (by assumption) ?_; rotate_left; (focus (intro w hSw; (try dsimp only at hSw); go_simp; with_reducible rfl)); simp only [Act.put, tA, tB, tC]
              refine tk 23 (oi := ⟨_, _, _, _, _, _⟩) (v := ?_) rfl (by rfl) ?_ (by assumption) ?_; rotate_left; (focus (intro w hSw; (try dsimp only at hSw); go_simp; with_reducible rfl)); simp only [Act.put, tA, tB, tC]
              refine tk 24 (oi := ⟨_, _, _, _, _, _⟩) (v := ?_) rfl (by rfl) ?_ (by assumption) ?_; rotate_left; (focus (intro w hSw; (try dsimp only at hSw); go_simp; with_reducible rfl)); simp only [Act.put, tA, tB, tC]
              refine tk 25 (oi := ⟨_, _, _, _, _, _⟩) (v := ?_) rfl (by rfl) ?_ (by assumption) ?_; rotate_left; (focus (intro w hSw; (try dsimp only at hSw); go_simp; with_reducible rfl)); simp only [Act.put, tA, tB, tC]
              refine tk 26 (oi := ⟨_, _, _, _, _, _⟩) (v := ?_) rfl (by rfl) ?_ (by assumption) ?_; rotate_left; (focus (intro w hSw; (try dsimp only at hSw); go_simp; with_reducible rfl)); simp only [Act.put, tA, tB, tC]
              refine tk 27 (oi := ⟨_, _, _, _, _, _⟩) (v := ?_) rfl (by rfl) ?_ (by assumption) ?_; rotate_left; (focus (intro w hSw; (try dsimp only at hSw); go_simp; with_reducible rfl)); simp only [Act.put, tA, tB, tC]
              refine tk 28 (oi := ⟨_, _, _, _, _, _⟩) (v := ?_) rfl (by rfl) ?_ (by assumption) ?_; rotate_left; (focus (intro w hSw; (try dsimp only at hSw); go_simp; with_reducible rfl)); simp only [Act.put, tA, tB, tC]
              refine tk 29 (oi := ⟨_, _, _, _, _, _⟩) (v := ?_) rfl (by rfl) ?_ (by assumption) ?_; rotate_left; (focus (intro w hSw; (try dsimp only at hSw); go_simp; with_reducible rfl)); simp only [Act.put, tA, tB, tC]
              refine tn 30 (oi := ⟨_, _, _, _, _, _⟩) rfl (by rfl) (by assumption) ?_; simp only [Act.put, tA, tB, tC]
              refine tn 31 (oi := ⟨_, _, _, _, _, _⟩) rfl (by rfl) (by assumption) ?_; simp only [Act.put, tA, tB, tC]
              refine tn 32 (oi := ⟨_, _, _, _, _, _⟩) rfl (by rfl) (by assumption) ?_; simp only [Act.put, tA, tB, tC]
              refine tn 33 (oi := ⟨_, _, _, _, _, _⟩) rfl (by rfl) (by assumption) ?_; simp only [Act.put, tA, tB, tC]
              refine tn 34 (oi := ⟨_, _, _, _, _, _⟩) rfl (by rfl) (by assumption) ?_; simp only [Act.put, tA, tB, tC]
              refine tn 35 (oi := ⟨_, _, _, _, _, _⟩) rfl (by rfl) (by assumption) ?_; simp only [Act.put, tA, tB, tC]
              refine tn 36 (oi := ⟨_, _, _, _, _, _⟩) rfl (by rfl) (by assumption) ?_; simp only [Act.put, tA, tB, tC]
              refine tn 37 (oi := ⟨_, _, _, _, _, _⟩) rfl (by rfl) (by assumption) ?_; simp only [Act.put, tA, tB, tC]
              refine tn 38 (oi := ⟨_, _, _, _, _, _⟩) rfl (by rfl) (by assumption) ?_; simp only [Act.put, tA, tB, tC]
              refine tn 39 (oi := ⟨_, _, _, _, _, _⟩) rfl (by rfl) (by assumption) ?_; simp only [Act.put, tA, tB, tC]
              refine tn 40 (oi := ⟨_, _, _, _, _, _⟩) rfl (by rfl) (by assumption) ?_; simp only [Act.put, tA, tB, tC]
              refine tn 41 (oi := ⟨_, _, _, _, _, _⟩) rfl (by rfl) (by assumption) ?_; simp only [Act.put, tA, tB, tC]
              refine tk 42 (oi := ⟨_, _, _, _, _, _⟩) (v := ?_) rfl (by rfl) ?_ (by assumption) ?_; rotate_left; (focus (intro w hSw; (try dsimp only at hSw); go_simp; with_reducible rfl)); simp only [Act.put, tA, tB, tC]
              refine tk 43 (oi := ⟨_, _, _, _, _, _⟩) (v := ?_) rfl (by rfl) ?_ (by assumption) ?_; rotate_left; (focus (intro w hSw; (try dsimp only at hSw); go_simp; with_reducible rfl)); simp only [Act.put, tA, tB, tC]
              refine wpAnyH_done (by kernel_rfl) (NoPanic.normal ?_) _
              go_wp2_with fail
              exact ⟨⟨1, q + 1, by omega, by simp, YES.out (by omega), by rw [HWR.out]; rfl⟩, by simp [intOf]; omega⟩
            · have d1 := (Br.cell (p := ⟨b, off + m, none⟩) (by exact hb)).trans (H.out m (by omega))
              have m1 : (0 : Int) ≤ (m : Int) := by omega
              have m2 : (m : Int) < n := by omega
              have m3 : (0 : Int) ≤ (m : Int) + 1 := by omega
              have m4 : (m : Int) + 1 < n := by omega
              have m5 : (0 : Int) < (m : Int) + 1 := by omega
              have m6 : IntKind.i64.wrap (m : Int) = m := by unfold IntKind.wrap; simp [IntKind.signed, IntKind.bits]; omega
              go_upto_region 4 with fail
              refine wp_region_noPanic ?_
              refine wp_region_held_drew (S := (fun w' => w'.cell? ⟨w.heap.size, 0, none⟩ = some (.string p) ∧ w'.cell? ⟨w.heap.size, 1, none⟩ = some (.slice (some ⟨b, off, none⟩) n c) ∧ w'.cell? ⟨b, off + (m + 1), none⟩ = some (.int .i64 (R (m + 1))) ∧ w'.cell? ⟨b, off + m, none⟩ = some (.int .i64 (R m)))) (by kernel_rfl) ⟨c0, c1, d0, d1⟩ (fun hHeld => ?_)
              refine tk 0 (oi := ⟨_, _, _, _, _, _⟩) (v := ?_) rfl (by rfl) ?_ (by assumption) ?_; rotate_left; (focus (intro w hSw; (try dsimp only at hSw); go_simp; with_reducible rfl)); simp only [Act.put, tA, tB, tC]
              refine tk 1 (oi := ⟨_, _, _, _, _, _⟩) (v := ?_) rfl (by rfl) ?_ (by assumption) ?_; rotate_left; (focus (intro w hSw; (try dsimp only at hSw); go_simp; with_reducible rfl)); simp only [Act.put, tA, tB, tC]
              refine tk 2 (oi := ⟨_, _, _, _, _, _⟩) (v := ?_) rfl (by rfl) ?_ (by assumption) ?_; rotate_left; (focus (intro w hSw; (try dsimp only at hSw); go_simp; with_reducible rfl)); simp only [Act.put, tA, tB, tC]
              refine tk 3 (oi := ⟨_, _, _, _, _, _⟩) (v := ?_) rfl (by rfl) ?_ (by assumption) ?_; rotate_left; (focus (intro w hSw; (try dsimp only at hSw); go_simp; with_reducible rfl)); simp only [Act.put, tA, tB, tC]
              refine tk 4 (oi := ⟨_, _, _, _, _, _⟩) (v := ?_) rfl (by rfl) ?_ (by assumption) ?_; rotate_left; (focus (intro w hSw; (try dsimp only at hSw); go_simp; with_reducible rfl)); simp only [Act.put, tA, tB, tC]
              refine tk 5 (oi := ⟨_, _, _, _, _, _⟩) (v := ?_) rfl (by rfl) ?_ (by assumption) ?_; rotate_left; (focus (intro w hSw; (try dsimp only at hSw); go_simp; with_reducible rfl)); simp only [Act.put, tA, tB, tC]
              refine tk 6 (oi := ⟨_, _, _, _, _, _⟩) (v := ?_) rfl (by rfl) ?_ (by assumption) ?_; rotate_left; (focus (intro w hSw; (try dsimp only at hSw); go_simp; with_reducible rfl)); simp only [Act.put, tA, tB, tC]
              refine tk 7 (oi := ⟨_, _, _, _, _, _⟩) (v := ?_) rfl (by rfl) ?_ (by assumption) ?_; rotate_left; (focus (intro w hSw; (try dsimp only at hSw); go_simp; with_reducible rfl)); simp only [Act.put, tA, tB, tC]
              refine tk 8 (oi := ⟨_, _, _, _, _, _⟩) (v := ?_) rfl (by rfl) ?_ (by assumption) ?_; rotate_left; (focus (intro w hSw; (try dsimp only at hSw); go_simp; with_reducible rfl)); simp only [Act.put, tA, tB, tC]
              refine tk 9 (oi := ⟨_, _, _, _, _, _⟩) (v := ?_) rfl (by rfl) ?_ (by assumption) ?_; rotate_left; (focus (intro w hSw; (try dsimp only at hSw); go_simp; with_reducible rfl)); simp only [Act.put, tA, tB, tC]
              refine tk 10 (oi := ⟨_, _, _, _, _, _⟩) (v := ?_) rfl (by rfl) ?_ (by assumption) ?_; rotate_left; (focus (intro w hSw; (try dsimp only at hSw); go_simp; with_reducible rfl)); simp only [Act.put, tA, tB, tC]
              refine tk 11 (oi := ⟨_, _, _, _, _, _⟩) (v := ?_) rfl (by rfl) ?_ (by assumption) ?_; rotate_left; (focus (intro w hSw; (try dsimp only at hSw); go_simp; with_reducible rfl)); simp only [Act.put, tA, tB, tC]
              refine tk 12 (oi := ⟨_, _, _, _, _, _⟩) (v := ?_) rfl (by rfl) ?_ (by assumption) ?_; rotate_left; (focus (intro w hSw; (try dsimp only at hSw); go_simp; with_reducible rfl)); simp only [Act.put, tA, tB, tC]
              refine tk 13 (oi := ⟨_, _, _, _, _, _⟩) (v := ?_) rfl (by rfl) ?_ (by assumption) ?_; rotate_left; (focus (intro w hSw; (try dsimp only at hSw); go_simp; with_reducible rfl)); simp only [Act.put, tA, tB, tC]
              refine tk 14 (oi := ⟨_, _, _, _, _, _⟩) (v := ?_) rfl (by rfl) ?_ (by assumption) ?_; rotate_left; (focus (intro w hSw; (try dsimp only at hSw); go_simp; with_reducible rfl)); simp only [Act.put, tA, tB, tC]
              refine tk 15 (oi := ⟨_, _, _, _, _, _⟩) (v := ?_) rfl (by rfl) ?_ (by assumption) ?_; rotate_left; (focus (intro w hSw; (try dsimp only at hSw); go_simp; with_reducible rfl)); simp only [Act.put, tA, tB, tC]
              refine tk 16 (oi := ⟨_, _, _, _, _, _⟩) (v := ?_) rfl (by rfl) ?_ (by assumption) ?_; rotate_left; (focus (intro w hSw; (try dsimp only at hSw); go_simp; with_reducible rfl)); simp only [Act.put, tA, tB, tC]
              refine tk 17 (oi := ⟨_, _, _, _, _, _⟩) (v := ?_) rfl (by rfl) ?_ (by assumption) ?_; rotate_left; (focus (intro w hSw; (try dsimp only at hSw); go_simp; with_reducible rfl)); simp only [Act.put, tA, tB, tC]
              refine tk 18 (oi := ⟨_, _, _, _, _, _⟩) (v := ?_) rfl (by rfl) ?_ (by assumption) ?_; rotate_left; (focus (intro w hSw; (try dsimp only at hSw); go_simp; with_reducible rfl)); simp only [Act.put, tA, tB, tC]
              refine tk 19 (oi := ⟨_, _, _, _, _, _⟩) (v := ?_) rfl (by rfl) ?_ (by assumption) ?_; rotate_left; (focus (intro w hSw; (try dsimp only at hSw); go_simp; with_reducible rfl)); simp only [Act.put, tA, tB, tC]
              refine tk 20 (oi := ⟨_, _, _, _, _, _⟩) (v := ?_) rfl (by rfl) ?_ (by assumption) ?_; rotate_left; (focus (intro w hSw; (try dsimp only at hSw); go_simp; with_reducible rfl)); simp only [Act.put, tA, tB, tC]
              refine tk 21 (oi := ⟨_, _, _, _, _, _⟩) (v := ?_) rfl (by rfl) ?_ (by assumption) ?_; rotate_left; (focus (intro w hSw; (try dsimp only at hSw); go_simp; with_reducible rfl)); simp only [Act.put, tA, tB, tC]
              refine tk 22 (oi := ⟨_, _, _, _, _, _⟩) (v := ?_) rfl (by rfl) ?_ (by assumption) ?_; rotate_left; (focus (intro w hSw; (try dsimp only at hSw); go_simp; with_reducible rfl)); simp only [Act.put, tA, tB, tC]
              refine tk 23 (oi := ⟨_, _, _, _, _, _⟩) (v := ?_) rfl (by rfl) ?_ (by assumption) ?_; rotate_left; (focus (intro w hSw; (try dsimp only at hSw); go_simp; with_reducible rfl)); simp only [Act.put, tA, tB, tC]
              refine tk 24 (oi := ⟨_, _, _, _, _, _⟩) (v := ?_) rfl (by rfl) ?_ (by assumption) ?_; rotate_left; (focus (intro w hSw; (try dsimp only at hSw); go_simp; with_reducible rfl)); simp only [Act.put, tA, tB, tC]
              refine tk 25 (oi := ⟨_, _, _, _, _, _⟩) (v := ?_) rfl (by rfl) ?_ (by assumption) ?_; rotate_left; (focus (intro w hSw; (try dsimp only at hSw); go_simp; with_reducible rfl)); simp only [Act.put, tA, tB, tC]
              refine tk 26 (oi := ⟨_, _, _, _, _, _⟩) (v := ?_) rfl (by rfl) ?_ (by assumption) ?_; rotate_left; (focus (intro w hSw; (try dsimp only at hSw); go_simp; with_reducible rfl)); simp only [Act.put, tA, tB, tC]
              refine tk 27 (oi := ⟨_, _, _, _, _, _⟩) (v := ?_) rfl (by rfl) ?_ (by assumption) ?_; rotate_left; (focus (intro w hSw; (try dsimp only at hSw); go_simp; with_reducible rfl)); simp only [Act.put, tA, tB, tC]
              refine tk 28 (oi := ⟨_, _, _, _, _, _⟩) (v := ?_) rfl (by rfl) ?_ (by assumption) ?_; rotate_left; (focus (intro w hSw; (try dsimp only at hSw); go_simp; with_reducible rfl)); simp only [Act.put, tA, tB, tC]
              refine tk 29 (oi := ⟨_, _, _, _, _, _⟩) (v := ?_) rfl (by rfl) ?_ (by assumption) ?_; rotate_left; (focus (intro w hSw; (try dsimp only at hSw); go_simp; with_reducible rfl)); simp only [Act.put, tA, tB, tC]
              refine tk 30 (oi := ⟨_, _, _, _, _, _⟩) (v := ?_) rfl (by rfl) ?_ (by assumption) ?_; rotate_left; (focus (intro w hSw; (try dsimp only at hSw); go_simp; with_reducible rfl)); simp only [Act.put, tA, tB, tC]
              refine tk 31 (oi := ⟨_, _, _, _, _, _⟩) (v := ?_) rfl (by rfl) ?_ (by assumption) ?_; rotate_left; (focus (intro w hSw; (try dsimp only at hSw); go_simp; with_reducible rfl)); simp only [Act.put, tA, tB, tC]
              refine tk 32 (oi := ⟨_, _, _, _, _, _⟩) (v := ?_) rfl (by rfl) ?_ (by assumption) ?_; rotate_left; (focus (intro w hSw; (try dsimp only at hSw); go_simp; with_reducible rfl)); simp only [Act.put, tA, tB, tC]
              refine tk 33 (oi := ⟨_, _, _, _, _, _⟩) (v := ?_) rfl (by rfl) ?_ (by assumption) ?_; rotate_left; (focus (intro w hSw; (try dsimp only at hSw); go_simp; with_reducible rfl)); simp only [Act.put, tA, tB, tC]
              refine tk 34 (oi := ⟨_, _, _, _, _, _⟩) (v := ?_) rfl (by rfl) ?_ (by assumption) ?_; rotate_left; (focus (intro w hSw; (try dsimp only at hSw); go_simp; with_reducible rfl)); simp only [Act.put, tA, tB, tC]
              refine tk 35 (oi := ⟨_, _, _, _, _, _⟩) (v := ?_) rfl (by rfl) ?_ (by assumption) ?_; rotate_left; (focus (intro w hSw; (try dsimp only at hSw); go_simp; with_reducible rfl)); simp only [Act.put, tA, tB, tC]
              refine tk 36 (oi := ⟨_, _, _, _, _, _⟩) (v := ?_) rfl (by rfl) ?_ (by assumption) ?_; rotate_left; (focus (intro w hSw; (try dsimp only at hSw); go_simp; with_reducible rfl)); simp only [Act.put, tA, tB, tC]
              refine tk 37 (oi := ⟨_, _, _, _, _, _⟩) (v := ?_) rfl (by rfl) ?_ (by assumption) ?_; rotate_left; (focus (intro w hSw; (try dsimp only at hSw); go_simp; with_reducible rfl)); simp only [Act.put, tA, tB, tC]
              refine tk 38 (oi := ⟨_, _, _, _, _, _⟩) (v := ?_) rfl (by rfl) ?_ (by assumption) ?_; rotate_left; (focus (intro w hSw; (try dsimp only at hSw); go_simp; with_reducible rfl)); simp only [Act.put, tA, tB, tC]
              refine tk 39 (oi := ⟨_, _, _, _, _, _⟩) (v := ?_) rfl (by rfl) ?_ (by assumption) ?_; rotate_left; (focus (intro w hSw; (try dsimp only at hSw); go_simp; with_reducible rfl)); simp only [Act.put, tA, tB, tC]
              refine tk 40 (oi := ⟨_, _, _, _, _, _⟩) (v := ?_) rfl (by rfl) ?_ (by assumption) ?_; rotate_left; (focus (intro w hSw; (try dsimp only at hSw); go_simp; with_reducible rfl)); simp only [Act.put, tA, tB, tC]
              refine tk 41 (oi := ⟨_, _, _, _, _, _⟩) (v := ?_) rfl (by rfl) ?_ (by assumption) ?_; rotate_left; (focus (intro w hSw; (try dsimp only at hSw); go_simp; with_reducible rfl)); simp only [Act.put, tA, tB, tC]
              refine tk 42 (oi := ⟨_, _, _, _, _, _⟩) (v := ?_) rfl (by rfl) ?_ (by assumption) ?_; rotate_left; (focus (intro w hSw; (try dsimp only at hSw); go_simp; with_reducible rfl)); simp only [Act.put, tA, tB, tC]
              refine tk 43 (oi := ⟨_, _, _, _, _, _⟩) (v := ?_) rfl (by rfl) ?_ (by assumption) ?_; rotate_left; (focus (intro w hSw; (try dsimp only at hSw); go_simp; with_reducible rfl)); simp only [Act.put, tA, tB, tC]
              refine wpAnyH_done (by kernel_rfl) (NoPanic.normal ?_) _
              go_wp2_with fail
              all_goals first
                | (go_ret; exact ⟨ret_bool (NO.out (by simp; omega)).symm, Br.drew⟩)
                | exact ⟨⟨m + 2, q + 1, by omega, by rw [show ((m + 2 : Nat) : Int) = (m : Int) + 1 + 1 by omega], YES.out (by simp; omega), by rw [HWR.out]; rfl⟩, by simp [intOf]; omega⟩
    · obtain rfl : k = n := by omega
      go_wp2_with fail
      all_goals
        go_ret
        exact ⟨ret_bool (by rw [HZ.out, ht.out, Bool.true_and]; first | (rw [decide_eq_decide]; omega) | (symm; rw [decide_eq_true_iff]; omega) | (symm; rw [decide_eq_false_iff_not]; omega)), Br⟩
end Go.Proofs.Ytkhjfcbloahjeaa
namespace Go.Proofs.Ytkhjfcbloahjeaa
open Go.RowKit Go.Sx
set_option maxHeartbeats 800000 in
theorem smayr_zero (p : ByteArray) (ao : Option Addr) (c : Nat) (sv rm : ByteArray) (R : Nat → Int) (w : World) :
    Calls Try.prog 11 #[scV p ao 0 c sv rm] w fun e w' => e = .returned (.bool (rckB R 0 p.size && decide (p.size % 2 = 0 ∧ p.size ≤ 1200 ∧ sv.size ≤ 8192 ∧ rm.size ≤ 2048))) ∧ Below w.heap.size w w' := by
  obtain ⟨z, hz⟩ : ∃ z, z = (rckB R 0 p.size && decide (p.size % 2 = 0 ∧ p.size ≤ 1200 ∧ sv.size ≤ 8192 ∧ rm.size ≤ 2048)) := ⟨_, rfl⟩
  rw [← hz]
  have HZ := hidI hz; clear hz
  go_enter Try.func11, Try.ntmps11
  go_wp2_with fail
  refine wp_loop_rounds 1 ?_
  rw [rounds_succ]
  go_wp2_with fail
  all_goals
    go_ret
    exact ⟨ret_bool (by rw [HZ.out]; show _ = (true && _); rw [Bool.true_and]; first | (rw [decide_eq_decide]; omega) | (symm; rw [decide_eq_true_iff]; omega) | (symm; rw [decide_eq_false_iff_not]; omega)), (Below.refl _ _).alloc (Nat.le_refl _) _⟩
structure IntsR (R : Nat → Int) (n : Nat) : Prop where
  b : ∀ i, i < n → -9223372036854775808 ≤ R i ∧ R i ≤ 9223372036854775807
theorem smayr_any (p : ByteArray) (ao : Option Addr) (n c : Nat) (sv rm : ByteArray) (R : Nat → Int) (w : World) (hp : p.size ≤ 1000000) (hl : n ≤ 1000000) (h : IntsAt w ao n R) (hr : IntsR R n) :
    Calls Try.prog 11 #[scV p ao n c sv rm] w fun e w' => e = .returned (.bool (maySB p n sv rm R)) ∧ Below w.heap.size w w' := by
  rw [← rck_is]
  by_cases hn : 0 < n
  · obtain ⟨b, off, rfl, hb, hc⟩ := h.some hn
    exact smayr_some p b off n c sv rm R w hp hl hb (fun i hi => by have := hc i hi 0 (by omega); rw [Nat.mul_one, Nat.add_zero] at this; exact this) hr.b
  · obtain rfl : n = 0 := by omega
    exact smayr_zero p ao c sv rm R w
/-! Places in ranges -/
def inG (F T : Nat → Int) (n : Nat) (at_ : Int) : Bool := (List.range n).any fun i => decide (F i ≤ at_ ∧ at_ ≤ T i)
theorem in1_any (F T at_ : Int) (g : Nat) (w : World) (hg : g < w.heap.size) (hc : w.cell? ⟨g, 0, none⟩ = some (.int .i64 at_)) : Calls Try.prog 49 #[.agg #[.int .i64 F, .int .i64 T], .pointer (some ⟨g, 0, none⟩)] w fun e w' => e = .returned (.bool (decide (F ≤ at_ ∧ at_ ≤ T))) ∧ Below w.heap.size w w' := by
  have n1 : w.heap.size ≠ g := by omega
  go_enter Try.func49, Try.ntmps49
  go_wp2
  all_goals
    go_ret
    exact ⟨ret_bool (by first | (rw [Bool.eq_iff_iff]; simp; done) | (rw [Bool.eq_iff_iff]; simp; omega)), (Below.refl _ _).alloc (Nat.le_refl _) _⟩
theorem idxR_zero (ao : Option Addr) (c : Nat) (g : Nat) (w : World) : Calls Try.prog 51 #[.slice ao 0 c, .func (.func 49) #[] #[.pointer (some ⟨g, 0, none⟩)]] w fun e w' => (∃ z : Int, e = .returned (.int .i64 z) ∧ decide (0 ≤ z) = false) ∧ Below w.heap.size w w' := by
  go_enter Try.func51, Try.ntmps51
  go_wp2
  refine wp_loop_rounds 1 ?_
  rw [rounds_succ]
  go_wp2
  go_ret
  exact ⟨⟨_, rfl, rfl⟩, Below.refl _ _⟩
set_option maxHeartbeats 800000 in
theorem idxR_some (b off n c g : Nat) (F T : Nat → Int) (at_ : Int) (w : World) (hl : n ≤ 1000000) (hb : b < w.heap.size) (hg : g < w.heap.size) (hc : w.cell? ⟨g, 0, none⟩ = some (.int .i64 at_)) (h : ∀ i, i < n → w.cell? ⟨b, off + i * 2, none⟩ = some (.int .i64 (F i)) ∧ w.cell? ⟨b, off + i * 2 + 1, none⟩ = some (.int .i64 (T i))) :
    Calls Try.prog 51 #[.slice (some ⟨b, off, none⟩) n c, .func (.func 49) #[] #[.pointer (some ⟨g, 0, none⟩)]] w fun e w' => (∃ z : Int, e = .returned (.int .i64 z) ∧ decide (0 ≤ z) = inG F T n at_) ∧ Below w.heap.size w w' := by
  have H := hidI h; clear h
  have HC := hidI hc; clear hc
  go_enter Try.func51, Try.ntmps51
  go_wp2_with fail
  go_loopw [8] (fun i wr => ∃ k : Nat, k ≤ n ∧ i = .int .i64 k ∧ inG F T k at_ = false ∧ Below w.heap.size w wr) (fun i _ => n - (intOf i).toNat)
  case atStart => exact ⟨0, Nat.zero_le _, rfl, rfl, Below.refl _ _⟩
  case round =>
    obtain ⟨k, hk, rfl, ht0, hbl⟩ := hrel
    have ht := hidI ht0; clear ht0
    by_cases hlt : k < n
    · have c0 := (hbl.cell (p := ⟨b, off + k * 2, none⟩) (by exact hb)).trans (H.out k hlt).1
      have c1 := (hbl.cell (p := ⟨b, off + k * 2 + 1, none⟩) (by exact hb)).trans (H.out k hlt).2
      have ca := (hbl.cell (p := ⟨g, 0, none⟩) (by exact hg)).trans HC.out
      cases hd : decide (F k ≤ at_ ∧ at_ ≤ T k)
      · have HD := hidI hd; clear hd
        go_wp2_with fail
        refine (in1_any (F k) (T k) at_ g _ (Nat.lt_of_lt_of_le hg hbl.size) ca).mono ?_
        rw [HD.out]
        rintro e wa ⟨rfl, ba⟩
        go_wp2_with fail
        exact ⟨⟨k + 1, by omega, by simp, (any_succ (S := fun i => decide (F i ≤ at_ ∧ at_ ≤ T i)) hlt ht.out).2 HD.out, hbl.trans (ba.mono hbl.size)⟩, by simp [intOf]; omega⟩
      · have HD := hidI hd; clear hd
        go_wp2_with fail
        refine (in1_any (F k) (T k) at_ g _ (Nat.lt_of_lt_of_le hg hbl.size) ca).mono ?_
        rw [HD.out]
        rintro e wa ⟨rfl, ba⟩
        go_wp2_with fail
        go_ret
        exact ⟨⟨_, rfl, by rw [inG, (any_succ (S := fun i => decide (F i ≤ at_ ∧ at_ ≤ T i)) hlt ht.out).1 HD.out]; simp⟩, hbl.trans (ba.mono hbl.size)⟩
    · obtain rfl : k = n := by omega
      go_wp2
      go_ret
      exact ⟨⟨_, rfl, by rw [ht.out]; rfl⟩, hbl⟩
theorem idxR_any (ao : Option Addr) (n c g : Nat) (F T : Nat → Int) (at_ : Int) (w : World) (hl : n ≤ 1000000) (h : RgAt w ao n F T) (hg : g < w.heap.size) (hc : w.cell? ⟨g, 0, none⟩ = some (.int .i64 at_)) :
    Calls Try.prog 51 #[.slice ao n c, .func (.func 49) #[] #[.pointer (some ⟨g, 0, none⟩)]] w fun e w' => (∃ z : Int, e = .returned (.int .i64 z) ∧ decide (0 ≤ z) = inG F T n at_) ∧ Below w.heap.size w w' := by
  by_cases hn : 0 < n
  · obtain ⟨b, off, rfl, hb, hc'⟩ := h.get hn
    exact idxR_some b off n c g F T at_ w hl hb hg hc hc'
  · obtain rfl : n = 0 := by omega
    exact idxR_zero ao c g w
theorem contR_any (ao : Option Addr) (n c g : Nat) (F T : Nat → Int) (at_ : Int) (w : World) (hl : n ≤ 1000000) (h : RgAt w ao n F T) (hg : g < w.heap.size) (hc : w.cell? ⟨g, 0, none⟩ = some (.int .i64 at_)) :
    Calls Try.prog 48 #[.slice ao n c, .func (.func 49) #[] #[.pointer (some ⟨g, 0, none⟩)]] w fun e w' => e = .returned (.bool (inG F T n at_)) ∧ Below w.heap.size w w' := by
  go_enter Try.func48, Try.ntmps48
  go_wp2_with fail
  refine (idxR_any ao n c g F T at_ _ hl h hg hc).mono ?_
  rintro e w' ⟨⟨z, rfl, hz⟩, hb⟩
  go_wp2
  go_ret
  exact ⟨rfl, hb⟩
theorem in_any (ao : Option Addr) (n c : Nat) (F T : Nat → Int) (at_ : Int) (w : World) (hl : n ≤ 1000000) (h : RgAt w ao n F T) : Calls Try.prog 42 #[.slice ao n c, .int .i64 at_] w fun e w' => e = .returned (.bool (inG F T n at_)) ∧ Below w.heap.size w w' := by
  have b0 : Below w.heap.size w (w.alloc (.cells #[.int .i64 at_] 3)) := (Below.refl _ _).alloc (Nat.le_refl _) _
  have hc : (w.alloc (.cells #[.int .i64 at_] 3)).cell? ⟨w.heap.size, 0, none⟩ = some (.int .i64 at_) := blk_cell (blk_new _ _) 0
  go_enter Try.func42, Try.ntmps42
  go_wp2_with fail
  refine (contR_any ao n c w.heap.size F T at_ _ hl (h.below b0) (by simp) hc).mono ?_
  rintro e w' ⟨rfl, hb⟩
  go_wp2
  go_ret
  exact ⟨rfl, b0.trans (hb.mono (by simp))⟩
/-- Is something secret? -/
def secB (p0 p1 : Bool) (rn sn : Nat) (F T F' T' : Nat → Int) (kind at_ : Int) : Bool :=
  if kind = 0 then (decide (at_ = 0) && p0 || decide (at_ = 1) && p1) else if kind = 1 then inG F T rn at_ else if kind = 2 then inG F' T' sn at_ else false
set_option maxHeartbeats 1600000 in
theorem sec_any (p0 p1 : Bool) (ra : Option Addr) (rn rc : Nat) (sa : Option Addr) (sn sc : Nat) (F T F' T' : Nat → Int) (kind at_ : Int) (w : World) (h : PolAt w ra rn rc sa sn sc F T F' T') :
    Calls Try.prog 32 #[poV p0 p1 ra rn rc sa sn sc, .int .i64 kind, .int .i64 at_] w fun e w' => e = .returned (.bool (secB p0 p1 rn sn F T F' T' kind at_)) ∧ Below w.heap.size w w' := by
  have b0 : Below w.heap.size w (w.alloc (.cells #[.bool p0, .bool p1, .slice ra rn rc, .slice sa sn sc] 25)) := (Below.refl _ _).alloc (Nat.le_refl _) _
  have hrl := h.rl
  have hsl := h.sl
  by_cases k0 : kind = 0
  · subst k0
    by_cases a0 : at_ = 0
    · subst a0
      go_enter Try.func32, Try.ntmps32
      go_wp2
      go_ret
      exact ⟨ret_bool (by simp [secB]), b0⟩
    · by_cases a1 : at_ = 1
      · subst a1
        go_enter Try.func32, Try.ntmps32
        go_wp2
        go_ret
        exact ⟨ret_bool (by simp [secB]), b0⟩
      · obtain ⟨z, hz⟩ : ∃ z, z = secB p0 p1 rn sn F T F' T' 0 at_ := ⟨_, rfl⟩
        rw [← hz]
        have e : z = false := by rw [hz]; simp [secB, a0, a1]
        clear hz
        go_enter Try.func32, Try.ntmps32
        go_wp2
        all_goals first
          | (exfalso; omega)
          | (go_ret; exact ⟨ret_bool (by first | rfl | exact e.symm), b0⟩)
  · by_cases k1 : kind = 1
    · subst k1
      go_enter Try.func32, Try.ntmps32
      go_wp2_with fail
      refine (in_any ra rn rc F T at_ _ (by omega) (h.r.below b0)).mono ?_
      rintro e w' ⟨rfl, hb⟩
      go_wp2
      go_ret
      exact ⟨rfl, b0.trans (hb.mono (by simp))⟩
    · by_cases k2 : kind = 2
      · subst k2
        go_enter Try.func32, Try.ntmps32
        go_wp2_with fail
        refine (in_any sa sn sc F' T' at_ _ (by omega) (h.s.below b0)).mono ?_
        rintro e w' ⟨rfl, hb⟩
        go_wp2
        go_ret
        exact ⟨rfl, b0.trans (hb.mono (by simp))⟩
      · have e : secB p0 p1 rn sn F T F' T' kind at_ = false := by simp [secB, k0, k1, k2]
        rw [e]
        clear e
        have k0' : (kind == 0) = false := by simpa using k0
        have k1' : (kind == 1) = false := by simpa using k1
        have k2' : (kind == 2) = false := by simpa using k2
        go_enter Try.func32, Try.ntmps32
        go_wp2_with fail
        go_ret
        exact ⟨rfl, b0⟩
end Go.Proofs.Ytkhjfcbloahjeaa
