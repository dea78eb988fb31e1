import Derived.Test.YthehpoipeapiaaaFa4
namespace Go.Proofs.Ythehpoipeapiaaa
open Go.RowKit Go.Sx
theorem sound_any (p0 p1 : Bool) (ra : Option Addr) (rn rc : Nat) (sa : Option Addr) (sn sc : Nat) (F T F' T' : Nat → Int) (ao : Option Addr) (n c : Nat) (C S D A R : Nat → Int) (w : World) (hl : n ≤ 1000000) (hP : PolAt w ra rn rc sa sn sc F T F' T') (h : EnAt w ao n C S D A R) :
    Calls Try.prog 15 #[poV p0 p1 ra rn rc sa sn sc, .slice ao n c] w fun e w' => e = .returned (.bool (sdB (secB p0 p1 rn sn F T F' T') C S D A R n)) ∧ Below w.heap.size w w' := by
  by_cases hn : 0 < n
  · obtain ⟨b, off, rfl, hb, hc⟩ := EnAt.get h hn
    exact sound_some p0 p1 ra rn rc sa sn sc F T F' T' b off n c C S D A R w hl hb hP hc
  · obtain rfl : n = 0 := by omega
    exact sound_zero p0 p1 ra rn rc sa sn sc ao c w
theorem rsound_any (p0 p1 : Bool) (ra : Option Addr) (rn rc : Nat) (sa : Option Addr) (sn sc : Nat) (F T F' T' : Nat → Int) (ao : Option Addr) (n c : Nat) (C S D A R : Nat → Int) (w : World) (hl : n ≤ 1000000) (hP : PolAt w ra rn rc sa sn sc F T F' T') (h : EnAt w ao n C S D A R) :
    Calls Try.prog 16 #[poV p0 p1 ra rn rc sa sn sc, .slice ao n c] w fun e w' => e = .returned (.bool (sdB (secB p0 p1 rn sn F T F' T') C S D A R n)) ∧ Below w.heap.size w w' := by
  by_cases hn : 0 < n
  · obtain ⟨b, off, rfl, hb, hc⟩ := EnAt.get h hn
    exact rsound_some p0 p1 ra rn rc sa sn sc F T F' T' b off n c C S D A R w hl hb hP hc
  · obtain rfl : n = 0 := by omega
    exact rsound_zero p0 p1 ra rn rc sa sn sc ao c w
theorem po_set {w : World} {g : Nat} {a b c d : Value} (h : w.heap[g]? = some (.cells #[a, b, c, d] 44 (0, 0))) (v0 v1 v2 v3 : Value) : ((((w.setCell ⟨g, 0, none⟩ v0).setCell ⟨g, 1, none⟩ v1).setCell ⟨g, 2, none⟩ v2).setCell ⟨g, 3, none⟩ v3).heap[g]? = some (.cells #[v0, v1, v2, v3] 44 (0, 0)) := by
  have := blk_set (blk_set (blk_set (blk_set h 0 v0) 1 v1) 2 v2) 3 v3
  simpa using this
set_option maxRecDepth 100000 in
set_option maxHeartbeats 3200000 in
theorem fsound_law (p0 p1 : Bool) (ra : Option Addr) (rn rc : Nat) (sa : Option Addr) (sn sc : Nat) (F T F' T' : Nat → Int) (ao : Option Addr) (n c : Nat) (C S D A R : Nat → Int) (w : World) (hrc : rn ≤ rc) (hsc : sn ≤ sc) (hc : n ≤ c) (hRa : RgAt w ra rn F T) (hSa : RgAt w sa sn F' T') (h : EnAt w ao n C S D A R) :
    Calls Try.prog 6 #[poV p0 p1 ra rn rc sa sn sc, .slice ao n c] w fun e w' => e = .returned (.bool true) ∧ Below w.heap.size w w' := by
  have b0 : Below w.heap.size w (w.alloc (.cells #[.bool p0, .bool p1, .slice ra rn rc, .slice sa sn sc] 44)) := (Below.refl _ _).alloc (Nat.le_refl _) _
  have k0 : PoAt (w.alloc (.cells #[.bool p0, .bool p1, .slice ra rn rc, .slice sa sn sc] 44)) w.heap.size p0 p1 ra rn rc sa sn sc := blk_new _ _
  have hPol : PolAt w ra (min rn 20) rc sa (min sn 20) sc F T F' T' := ⟨fun i hi => hRa i (by omega), fun i hi => hSa i (by omega), by omega, by omega⟩
  have hE : EnAt w ao (min n 40) C S D A R := fun i hi => h i (by omega)
  clear hRa hSa h
  go_enter Try.func6, Try.ntmps6
  go_wp2_with fail
  refine (few3_any p0 p1 ra rn rc sa sn sc _ hrc hsc).mono ?_
  rintro e w1 ⟨rfl, b1⟩
  have k1 := (b1.block _ (blk_lt k0)).trans k0
  have bw := b0.trans (b1.mono b0.size)
  clear b1 b0 k0
  have d0 : w1.cell? ⟨w.heap.size, 0, none⟩ = some (.bool p0) := blk_cell k1 0
  have z0 := blk_free k1 0
  have d1 : w1.cell? ⟨w.heap.size, 1, none⟩ = some (.bool p1) := blk_cell k1 1
  have z1 := blk_free k1 1
  have d2 : w1.cell? ⟨w.heap.size, 2, none⟩ = some (.slice ra rn rc) := blk_cell k1 2
  have z2 := blk_free k1 2
  have d3 : w1.cell? ⟨w.heap.size, 3, none⟩ = some (.slice sa sn sc) := blk_cell k1 3
  have z3 := blk_free k1 3
  go_wp2_with fail
  refine (few22_any ao n c _ hc).mono ?_
  rintro e w' ⟨rfl, rfl⟩
  go_upto_region 2 with fail
  obtain ⟨n1, hn1⟩ : ∃ m, m = min rn 20 := ⟨_, rfl⟩
  obtain ⟨n2, hn2⟩ : ∃ m, m = min sn 20 := ⟨_, rfl⟩
  obtain ⟨m, hm⟩ : ∃ m, m = min n 40 := ⟨_, rfl⟩
  rw [← hn1, ← hn2] at hPol
  rw [← hm] at hE
  rw [← hn1, ← hn2, ← hm]
  have k2 := po_set k1 (.bool p0) (.bool p1) (.slice ra n1 rc) (.slice sa n2 sc)
  have bx := b4 bw (Nat.le_refl _) (.bool p0) (.bool p1) (.slice ra n1 rc) (.slice sa n2 sc)
  obtain ⟨w2, hw2⟩ : ∃ x, x = ((((w1.setCell ⟨w.heap.size, 0, none⟩ (.bool p0)).setCell ⟨w.heap.size, 1, none⟩ (.bool p1)).setCell ⟨w.heap.size, 2, none⟩ (.slice ra n1 rc)).setCell ⟨w.heap.size, 3, none⟩ (.slice sa n2 sc)) := ⟨_, rfl⟩
  rw [← hw2] at k2 bx ⊢
  clear d0 d1 d2 d3 z0 z1 z2 z3 hw2 k1 bw
  have hm40 : m ≤ 40 := by omega
  clear hn1 hn2 hm hrc hsc hc
  have k1 := k2
  have bw1 := bx.drew
  clear k2 bx
  cases qs : sdB (secB p0 p1 n1 n2 F T F' T') C S D A R m
  · have Q := hidI qs; clear qs
    refine wp_region_noPanic ?_
    refine wp_region_held_drew (S := (fun w' => w'.cell? ⟨w.heap.size, 0, none⟩ = some (.bool p0) ∧ w'.cell? ⟨w.heap.size, 1, none⟩ = some (.bool p1) ∧ w'.cell? ⟨w.heap.size, 2, none⟩ = some (.slice ra n1 rc) ∧ w'.cell? ⟨w.heap.size, 3, none⟩ = some (.slice sa n2 sc))) (by kernel_rfl) ⟨blk_cell k1 0, blk_cell k1 1, blk_cell k1 2, blk_cell k1 3⟩ (fun hHeld => ?_)
    refine wpAnyH_take (i := 0) (oi := ⟨_, _, _, _, _, _⟩) (v := ?_) rfl (by kernel_rfl) (by kernel_rfl) (by kernel_rfl) (fun _ _ _ h => h) (Or.inl ⟨by rfl, ?_⟩) (by assumption) ?_
    rotate_left
    · (intro w hSw; (try dsimp only at hSw); go_simp); with_reducible rfl
    simp only [Act.put, List.setIfInBounds_toArray, List.set_cons_zero, List.set_cons_succ]
    refine wpAnyH_take (i := 1) (oi := ⟨_, _, _, _, _, _⟩) (v := ?_) rfl (by kernel_rfl) (by kernel_rfl) (by kernel_rfl) (fun _ _ _ h => h) (Or.inl ⟨by rfl, ?_⟩) (by assumption) ?_
    rotate_left
    · (intro w hSw; (try dsimp only at hSw); go_simp); with_reducible rfl
    simp only [Act.put, List.setIfInBounds_toArray, List.set_cons_zero, List.set_cons_succ]
    refine wpAnyH_take (i := 3) (oi := ⟨_, _, _, _, _, _⟩) (v := ?_) rfl (by kernel_rfl) (by kernel_rfl) (by kernel_rfl) (fun _ _ _ h => h) (Or.inl ⟨by rfl, ?_⟩) (by assumption) ?_
    rotate_left
    · (intro w hSw; (try dsimp only at hSw); go_simp); with_reducible rfl
    simp only [Act.put, List.setIfInBounds_toArray, List.set_cons_zero, List.set_cons_succ]
    refine wpAnyH_take (i := 4) (oi := ⟨_, _, _, _, _, _⟩) (v := ?_) rfl (by kernel_rfl) (by kernel_rfl) (by kernel_rfl) (fun _ _ _ h => h) (Or.inl ⟨by rfl, ?_⟩) (by assumption) ?_
    rotate_left
    · (intro w hSw; (try dsimp only at hSw); go_simp); with_reducible rfl
    simp only [Act.put, List.setIfInBounds_toArray, List.set_cons_zero, List.set_cons_succ]
    refine wpAnyH_ready (rs := [2]) (by kernel_rfl) (by simp) ?_
    refine AllReadyH.cons (o := ⟨_, _, _, _, _, _⟩) rfl (fun K hK => ?_) (AllReadyH.nil)
    go_simp
    refine (sound_any p0 p1 ra n1 rc sa n2 sc F T F' T' ao m c C S D A R _ (by omega) (hPol.below bw1) (hE.below bw1)).mono ?_
    rw [Q.out]
    rintro e w2 ⟨rfl, b2⟩
    have k2 := (b2.block _ (blk_lt k1)).trans k1
    have bw2 := bw1.trans (b2.mono bw1.size)
    refine hK.out _ _ ⟨blk_cell k2 0, blk_cell k2 1, blk_cell k2 2, blk_cell k2 3⟩ (fun hHeld => ?_)
    clear hK K
    refine wpAnyH_ready (rs := [5]) (by kernel_rfl) (by simp) ?_
    refine AllReadyH.cons (o := ⟨_, _, _, _, _, _⟩) rfl (fun K hK => ?_) (AllReadyH.nil)
    go_simp
    refine (rsound_any p0 p1 ra n1 rc sa n2 sc F T F' T' ao m c C S D A R _ (by omega) (hPol.below bw2) (hE.below bw2)).mono ?_
    rw [Q.out]
    rintro e w3 ⟨rfl, b3⟩
    have k3 := (b3.block _ (blk_lt k2)).trans k2
    have bw3 := bw2.trans (b3.mono bw2.size)
    refine hK.out _ _ ⟨blk_cell k3 0, blk_cell k3 1, blk_cell k3 2, blk_cell k3 3⟩ (fun hHeld => ?_)
    clear hK K
    refine wpAnyH_take (i := 6) (oi := ⟨_, _, _, _, _, _⟩) (v := ?_) rfl (by kernel_rfl) (by kernel_rfl) (by kernel_rfl) (fun _ _ _ h => h) (Or.inl ⟨by rfl, ?_⟩) (by assumption) ?_
    rotate_left
    · (intro w hSw; (try dsimp only at hSw); go_simp); with_reducible rfl
    simp only [Act.put, List.setIfInBounds_toArray, List.set_cons_zero, List.set_cons_succ]
    refine wpAnyH_take (i := 7) (oi := ⟨_, _, _, _, _, _⟩) (v := ?_) rfl (by kernel_rfl) (by kernel_rfl) (by kernel_rfl) (fun _ _ _ h => h) (Or.inl ⟨by rfl, ?_⟩) (by assumption) ?_
    rotate_left
    · (intro w hSw; (try dsimp only at hSw); go_simp); with_reducible rfl
    simp only [Act.put, List.setIfInBounds_toArray, List.set_cons_zero, List.set_cons_succ]
    refine wpAnyH_ready (rs := [8]) (by kernel_rfl) (by simp) ?_
    refine AllReadyH.cons (o := ⟨_, _, _, _, _, _⟩) rfl (fun K hK => ?_) (AllReadyH.nil)
    go_simp
    refine (awake_any _).mono ?_
    rintro e w4 ⟨rfl, b4⟩
    have k4 := (b4.block _ (blk_lt k3)).trans k3
    have bw4 := bw3.trans (b4.mono bw3.size)
    refine hK.out _ _ ⟨blk_cell k4 0, blk_cell k4 1, blk_cell k4 2, blk_cell k4 3⟩ (fun hHeld => ?_)
    clear hK K
    refine wpAnyH_take (i := 9) (oi := ⟨_, _, _, _, _, _⟩) (v := ?_) rfl (by kernel_rfl) (by kernel_rfl) (by kernel_rfl) (fun _ _ _ h => h) (Or.inl ⟨by rfl, ?_⟩) (by assumption) ?_
    rotate_left
    · (intro w hSw; (try dsimp only at hSw); go_simp); with_reducible rfl
    simp only [Act.put, List.setIfInBounds_toArray, List.set_cons_zero, List.set_cons_succ]
    refine wpAnyH_take (i := 10) (oi := ⟨_, _, _, _, _, _⟩) (v := ?_) rfl (by kernel_rfl) (by kernel_rfl) (by kernel_rfl) (fun _ _ _ h => h) (Or.inl ⟨by rfl, ?_⟩) (by assumption) ?_
    rotate_left
    · (intro w hSw; (try dsimp only at hSw); go_simp); with_reducible rfl
    simp only [Act.put, List.setIfInBounds_toArray, List.set_cons_zero, List.set_cons_succ]
    refine wpAnyH_done (by kernel_rfl) (NoPanic.normal ?_) _
    go_wp2_with fail
    go_ret
    exact ⟨rfl, bw4⟩
  · have Q := hidI qs; clear qs
    refine wp_region_noPanic ?_
    refine wp_region_held_drew (S := (fun w' => w'.cell? ⟨w.heap.size, 0, none⟩ = some (.bool p0) ∧ w'.cell? ⟨w.heap.size, 1, none⟩ = some (.bool p1) ∧ w'.cell? ⟨w.heap.size, 2, none⟩ = some (.slice ra n1 rc) ∧ w'.cell? ⟨w.heap.size, 3, none⟩ = some (.slice sa n2 sc))) (by kernel_rfl) ⟨blk_cell k1 0, blk_cell k1 1, blk_cell k1 2, blk_cell k1 3⟩ (fun hHeld => ?_)
    refine wpAnyH_take (i := 0) (oi := ⟨_, _, _, _, _, _⟩) (v := ?_) rfl (by kernel_rfl) (by kernel_rfl) (by kernel_rfl) (fun _ _ _ h => h) (Or.inl ⟨by rfl, ?_⟩) (by assumption) ?_
    rotate_left
    · (intro w hSw; (try dsimp only at hSw); go_simp); with_reducible rfl
    simp only [Act.put, List.setIfInBounds_toArray, List.set_cons_zero, List.set_cons_succ]
    refine wpAnyH_take (i := 1) (oi := ⟨_, _, _, _, _, _⟩) (v := ?_) rfl (by kernel_rfl) (by kernel_rfl) (by kernel_rfl) (fun _ _ _ h => h) (Or.inl ⟨by rfl, ?_⟩) (by assumption) ?_
    rotate_left
    · (intro w hSw; (try dsimp only at hSw); go_simp); with_reducible rfl
    simp only [Act.put, List.setIfInBounds_toArray, List.set_cons_zero, List.set_cons_succ]
    refine wpAnyH_take (i := 3) (oi := ⟨_, _, _, _, _, _⟩) (v := ?_) rfl (by kernel_rfl) (by kernel_rfl) (by kernel_rfl) (fun _ _ _ h => h) (Or.inl ⟨by rfl, ?_⟩) (by assumption) ?_
    rotate_left
    · (intro w hSw; (try dsimp only at hSw); go_simp); with_reducible rfl
    simp only [Act.put, List.setIfInBounds_toArray, List.set_cons_zero, List.set_cons_succ]
    refine wpAnyH_take (i := 4) (oi := ⟨_, _, _, _, _, _⟩) (v := ?_) rfl (by kernel_rfl) (by kernel_rfl) (by kernel_rfl) (fun _ _ _ h => h) (Or.inl ⟨by rfl, ?_⟩) (by assumption) ?_
    rotate_left
    · (intro w hSw; (try dsimp only at hSw); go_simp); with_reducible rfl
    simp only [Act.put, List.setIfInBounds_toArray, List.set_cons_zero, List.set_cons_succ]
    refine wpAnyH_ready (rs := [2]) (by kernel_rfl) (by simp) ?_
    refine AllReadyH.cons (o := ⟨_, _, _, _, _, _⟩) rfl (fun K hK => ?_) (AllReadyH.nil)
    go_simp
    refine (sound_any p0 p1 ra n1 rc sa n2 sc F T F' T' ao m c C S D A R _ (by omega) (hPol.below bw1) (hE.below bw1)).mono ?_
    rw [Q.out]
    rintro e w2 ⟨rfl, b2⟩
    have k2 := (b2.block _ (blk_lt k1)).trans k1
    have bw2 := bw1.trans (b2.mono bw1.size)
    refine hK.out _ _ ⟨blk_cell k2 0, blk_cell k2 1, blk_cell k2 2, blk_cell k2 3⟩ (fun hHeld => ?_)
    clear hK K
    refine wpAnyH_ready (rs := [5]) (by kernel_rfl) (by simp) ?_
    refine AllReadyH.cons (o := ⟨_, _, _, _, _, _⟩) rfl (fun K hK => ?_) (AllReadyH.nil)
    go_simp
    refine (rsound_any p0 p1 ra n1 rc sa n2 sc F T F' T' ao m c C S D A R _ (by omega) (hPol.below bw2) (hE.below bw2)).mono ?_
    rw [Q.out]
    rintro e w3 ⟨rfl, b3⟩
    have k3 := (b3.block _ (blk_lt k2)).trans k2
    have bw3 := bw2.trans (b3.mono bw2.size)
    refine hK.out _ _ ⟨blk_cell k3 0, blk_cell k3 1, blk_cell k3 2, blk_cell k3 3⟩ (fun hHeld => ?_)
    clear hK K
    refine wpAnyH_take (i := 6) (oi := ⟨_, _, _, _, _, _⟩) (v := ?_) rfl (by kernel_rfl) (by kernel_rfl) (by kernel_rfl) (fun _ _ _ h => h) (Or.inl ⟨by rfl, ?_⟩) (by assumption) ?_
    rotate_left
    · (intro w hSw; (try dsimp only at hSw); go_simp); with_reducible rfl
    simp only [Act.put, List.setIfInBounds_toArray, List.set_cons_zero, List.set_cons_succ]
    refine wpAnyH_take (i := 7) (oi := ⟨_, _, _, _, _, _⟩) (v := ?_) rfl (by kernel_rfl) (by kernel_rfl) (by kernel_rfl) (fun _ _ _ h => h) (Or.inl ⟨by rfl, ?_⟩) (by assumption) ?_
    rotate_left
    · (intro w hSw; (try dsimp only at hSw); go_simp); with_reducible rfl
    simp only [Act.put, List.setIfInBounds_toArray, List.set_cons_zero, List.set_cons_succ]
    refine wpAnyH_ready (rs := [8]) (by kernel_rfl) (by simp) ?_
    refine AllReadyH.cons (o := ⟨_, _, _, _, _, _⟩) rfl (fun K hK => ?_) (AllReadyH.nil)
    go_simp
    refine (awake_any _).mono ?_
    rintro e w4 ⟨rfl, b4⟩
    have k4 := (b4.block _ (blk_lt k3)).trans k3
    have bw4 := bw3.trans (b4.mono bw3.size)
    refine hK.out _ _ ⟨blk_cell k4 0, blk_cell k4 1, blk_cell k4 2, blk_cell k4 3⟩ (fun hHeld => ?_)
    clear hK K
    refine wpAnyH_take (i := 9) (oi := ⟨_, _, _, _, _, _⟩) (v := ?_) rfl (by kernel_rfl) (by kernel_rfl) (by kernel_rfl) (fun _ _ _ h => h) (Or.inl ⟨by rfl, ?_⟩) (by assumption) ?_
    rotate_left
    · (intro w hSw; (try dsimp only at hSw); go_simp); with_reducible rfl
    simp only [Act.put, List.setIfInBounds_toArray, List.set_cons_zero, List.set_cons_succ]
    refine wpAnyH_take (i := 10) (oi := ⟨_, _, _, _, _, _⟩) (v := ?_) rfl (by kernel_rfl) (by kernel_rfl) (by kernel_rfl) (fun _ _ _ h => h) (Or.inl ⟨by rfl, ?_⟩) (by assumption) ?_
    rotate_left
    · (intro w hSw; (try dsimp only at hSw); go_simp); with_reducible rfl
    simp only [Act.put, List.setIfInBounds_toArray, List.set_cons_zero, List.set_cons_succ]
    refine wpAnyH_done (by kernel_rfl) (NoPanic.normal ?_) _
    go_wp2_with fail
    go_ret
    exact ⟨rfl, bw4⟩
end Go.Proofs.Ythehpoipeapiaaa
