import Derived.Test.YtolennlpkpkhhaaHa8
namespace Go.Proofs.Ytolennlpkpkhhaa
open Go.RowKit Go.Sx
theorem drew_heap (w : World) (g : Nat) : w.drew.heap[g]? = w.heap[g]? := rfl
theorem amtR_range (l h u : Int) (l0 : 0 ≤ l) (l1 : l ≤ 255) (h0 : 0 ≤ h) (h1 : h ≤ 15) (hu : u = 16384 ∨ u = 8192) : 0 ≤ amtR l h u ∧ amtR l h u ≤ 100000000 := by
  by_cases hh : h = 15
  · unfold amtR; rw [if_pos hh]
    have := rr_le (l / 4).toNat (l % 4 * 2 + 1) (by omega) (by omega)
    omega
  · unfold amtR; rw [if_neg hh]; rcases hu with rfl | rfl <;> omega
set_option maxRecDepth 100000 in
set_option maxHeartbeats 6400000 in
theorem whole_yes (x : ByteArray) (b4 b5 b6 b7 b8 b9 : Int) (O : Oct x b4 b5 b6 b7 b8 b9) (hx : x.size ≤ 2000000) (w : World) (m0 : ∀ h, ((x[0]'h).toNat : Int) = 78) (m1 : ∀ h, ((x[1]'h).toNat : Int) = 69) (m2 : ∀ h, ((x[2]'h).toNat : Int) = 83) (m3 : ∀ h, ((x[3]'h).toNat : Int) = 26)
    (M S P C C' : Int) (ba fo ve tw tr ow : Bool) (hM : M = mpB b6 b7 b8) (hS : S = sbB b7 b8) (hP : P = amtR b4 (hpB b7 b9) 16384) (hC : C = amtR b5 (hcB b7 b9) 8192) (hC' : C' = if C = 0 then 8192 else C) (hba : ba = (b6 / 2 ^ 1 % 2 == 1)) (hfo : fo = (b6 / 2 ^ 3 % 2 == 1)) (hve : ve = (b6 / 2 ^ 0 % 2 == 1)) (htr : tr = (b6 / 2 ^ 2 % 2 == 1)) (htw : tw = twB b7) (how : ow = (C == 0)) (k : Int) (hk : k = chk M S P C' tw ow) (Wh : Int) (hWh : Wh = 16 + P + C + (if tr then 512 else 0)) (r0 : Int) (r1 : Value) (r2 : Int) (hr0 : r0 = if k ≠ 0 then 0 else if (x.size : Int) < Wh then 0 else 16 + (if tr then 512 else 0)) (hr1 : r1 = if k ≠ 0 then zeroC else if (x.size : Int) < Wh then zeroC else cartV M S P C' ba fo ve tw ow) (hr2 : r2 = if k ≠ 0 then k else if (x.size : Int) < Wh then 5 else 0) :
    Calls Try.prog 18 #[.string x] w fun e w' => e = .returned (.tuple #[.int .i64 r0, r1, .int .i64 r2]) ∧ Below w.heap.size w w' := by
  have hs := O.hs
  have hs' : ¬ x.size < 16 := by omega
  have h0 : 0 < x.size := by omega
  have h1 : 1 < x.size := by omega
  have h2 : 2 < x.size := by omega
  have h3 : 3 < x.size := by omega
  have h4 : 4 < x.size := by omega
  have h5 : 5 < x.size := by omega
  have h6 : 6 < x.size := by omega
  have h7 : 7 < x.size := by omega
  have h8 : 8 < x.size := by omega
  have h9 : 9 < x.size := by omega
  have g0 : (0 : Int) < (x.size : Int) := by omega
  have g1 : (1 : Int) < (x.size : Int) := by omega
  have g2 : (2 : Int) < (x.size : Int) := by omega
  have g3 : (3 : Int) < (x.size : Int) := by omega
  have g4 : (4 : Int) < (x.size : Int) := by omega
  have g5 : (5 : Int) < (x.size : Int) := by omega
  have g6 : (6 : Int) < (x.size : Int) := by omega
  have g7 : (7 : Int) < (x.size : Int) := by omega
  have g8 : (8 : Int) < (x.size : Int) := by omega
  have g9 : (9 : Int) < (x.size : Int) := by omega
  have m0 := m0 h0
  have m1 := m1 h1
  have m2 := m2 h2
  have m3 := m3 h3
  have HM := hidI hM; have HS := hidI hS; have HP := hidI hP; have HC := hidI hC; have HC' := hidI hC'; have HTW := hidI htw; have HOW := hidI how; have HK := hidI hk; have HWH := hidI hWh; have HR0 := hidI hr0; have HR1 := hidI hr1; have HR2 := hidI hr2; have HBA := hidI hba; have HFO := hidI hfo; have HVE := hidI hve; have HTR := hidI htr
  clear hM hS hP hC hC' hba hfo hve htr htw how hk hWh hr0 hr1 hr2
  have b0 : Below w.heap.size w (w.alloc (.cells #[.int .i64 0, .int .i64 0, .int .i64 0, .int .i64 0, .bool false, .bool false, .bool false, .bool false, .bool false] 23)) := (Below.refl _ _).alloc (Nat.le_refl _) _
  have k0 : CB (w.alloc (.cells #[.int .i64 0, .int .i64 0, .int .i64 0, .int .i64 0, .bool false, .bool false, .bool false, .bool false, .bool false] 23)) w.heap.size 0 0 0 0 false false false false false := blk_new _ _
  go_enter Try.func18, Try.ntmps18
  go_upto_region 3 with fail
  clear m0 m1 m2 m3
  go_cut [5] (fun t5 wx => t5 = .pointer (some ⟨w.heap.size + 1, 0, none⟩) ∧ St1 w wx 0 0 ba fo ve tw)
  case first =>
    have i6 := O.i6 h6
    have i7 := O.i7 h7
    cases t3 : (b7 / 2 ^ 3 % 2 == 1)
    · have T3 := hidI t3; clear t3
      have etw : tw = false := by rw [HTW.out]; unfold twB; rw [T3.out]; simp
      refine wp_region_noPanic ?_
      refine wp_region_held_drew (S := (fun _ => True)) (by kernel_rfl) trivial (fun hHeld => ?_)
      refine wpAnyH_take (i := 0) (oi := ⟨_, _, _, _, _, _⟩) (v := ?_) rfl (by kernel_rfl) (by kernel_rfl) (by kernel_rfl) (fun _ _ _ h => h) (Or.inl ⟨by rfl, ?_⟩) (by assumption) ?_
      rotate_left
      · (intro w hSw; (try dsimp only at hSw); go_simp); with_reducible rfl
      simp only [Act.put, List.setIfInBounds_toArray, List.set_cons_zero, List.set_cons_succ]
      refine wpAnyH_take (i := 1) (oi := ⟨_, _, _, _, _, _⟩) (v := ?_) rfl (by kernel_rfl) (by kernel_rfl) (by kernel_rfl) (fun _ _ _ h => h) (Or.inl ⟨by rfl, ?_⟩) (by assumption) ?_
      rotate_left
      · (intro w hSw; (try dsimp only at hSw); go_simp); with_reducible rfl
      simp only [Act.put, List.setIfInBounds_toArray, List.set_cons_zero, List.set_cons_succ]
      refine wpAnyH_take (i := 3) (oi := ⟨_, _, _, _, _, _⟩) (v := ?_) rfl (by kernel_rfl) (by kernel_rfl) (by kernel_rfl) (fun _ _ _ h => h) (Or.inl ⟨by rfl, ?_⟩) (by assumption) ?_
      rotate_left
      · (intro w hSw; (try dsimp only at hSw); go_simp); with_reducible rfl
      simp only [Act.put, List.setIfInBounds_toArray, List.set_cons_zero, List.set_cons_succ]
      refine wpAnyH_take (i := 4) (oi := ⟨_, _, _, _, _, _⟩) (v := ?_) rfl (by kernel_rfl) (by kernel_rfl) (by kernel_rfl) (fun _ _ _ h => h) (Or.inl ⟨by rfl, ?_⟩) (by assumption) ?_
      rotate_left
      · (intro w hSw; (try dsimp only at hSw); go_simp); with_reducible rfl
      simp only [Act.put, List.setIfInBounds_toArray, List.set_cons_zero, List.set_cons_succ]
      refine wpAnyH_take (i := 6) (oi := ⟨_, _, _, _, _, _⟩) (v := ?_) rfl (by kernel_rfl) (by kernel_rfl) (by kernel_rfl) (fun _ _ _ h => h) (Or.inl ⟨by rfl, ?_⟩) (by assumption) ?_
      rotate_left
      · (intro w hSw; (try dsimp only at hSw); go_simp); with_reducible rfl
      simp only [Act.put, List.setIfInBounds_toArray, List.set_cons_zero, List.set_cons_succ]
      refine wpAnyH_take (i := 7) (oi := ⟨_, _, _, _, _, _⟩) (v := ?_) rfl (by kernel_rfl) (by kernel_rfl) (by kernel_rfl) (fun _ _ _ h => h) (Or.inl ⟨by rfl, ?_⟩) (by assumption) ?_
      rotate_left
      · (intro w hSw; (try dsimp only at hSw); go_simp); with_reducible rfl
      simp only [Act.put, List.setIfInBounds_toArray, List.set_cons_zero, List.set_cons_succ]
      refine wpAnyH_take (i := 9) (oi := ⟨_, _, _, _, _, _⟩) (v := ?_) rfl (by kernel_rfl) (by kernel_rfl) (by kernel_rfl) (fun _ _ _ h => h) (Or.inl ⟨by rfl, ?_⟩) (by assumption) ?_
      rotate_left
      · (intro w hSw; (try dsimp only at hSw); go_simp); with_reducible rfl
      simp only [Act.put, List.setIfInBounds_toArray, List.set_cons_zero, List.set_cons_succ]
      refine wpAnyH_take (i := 10) (oi := ⟨_, _, _, _, _, _⟩) (v := ?_) rfl (by kernel_rfl) (by kernel_rfl) (by kernel_rfl) (fun _ _ _ h => h) (Or.inl ⟨by rfl, ?_⟩) (by assumption) ?_
      rotate_left
      · (intro w hSw; (try dsimp only at hSw); go_simp); with_reducible rfl
      simp only [Act.put, List.setIfInBounds_toArray, List.set_cons_zero, List.set_cons_succ]
      refine wpAnyH_ready (rs := [2, 19]) (by kernel_rfl) (by simp) ?_
      refine AllReadyH.cons (o := ⟨_, _, _, _, _, _⟩) rfl (fun K hK => ?_) (AllReadyH.cons (o := ⟨_, _, _, _, _, _⟩) rfl (fun K hK => ?_) (AllReadyH.nil))
      · go_simp
        refine (bit_any b6 0 (by omega) O.r6.1 O.r6.2 _).mono ?_
        rw [← HVE.out]
        rintro e w' ⟨rfl, rfl⟩
        refine hK.out _ _ trivial (fun hHeld => ?_)
        clear hK K
        refine wpAnyH_ready (rs := [5, 19]) (by kernel_rfl) (by simp) ?_
        refine AllReadyH.cons (o := ⟨_, _, _, _, _, _⟩) rfl (fun K hK => ?_) (AllReadyH.cons (o := ⟨_, _, _, _, _, _⟩) rfl (fun K hK => ?_) (AllReadyH.nil))
        · go_simp
          refine (bit_any b6 1 (by omega) O.r6.1 O.r6.2 _).mono ?_
          rw [← HBA.out]
          rintro e w' ⟨rfl, rfl⟩
          refine hK.out _ _ trivial (fun hHeld => ?_)
          clear hK K
          refine wpAnyH_ready (rs := [8, 19]) (by kernel_rfl) (by simp) ?_
          refine AllReadyH.cons (o := ⟨_, _, _, _, _, _⟩) rfl (fun K hK => ?_) (AllReadyH.cons (o := ⟨_, _, _, _, _, _⟩) rfl (fun K hK => ?_) (AllReadyH.nil))
          · go_simp
            refine (bit_any b6 3 (by omega) O.r6.1 O.r6.2 _).mono ?_
            rw [← HFO.out]
            rintro e w' ⟨rfl, rfl⟩
            refine hK.out _ _ trivial (fun hHeld => ?_)
            clear hK K
            refine wpAnyH_ready (rs := [11, 19]) (by kernel_rfl) (by simp) ?_
            refine AllReadyH.cons (o := ⟨_, _, _, _, _, _⟩) rfl (fun K hK => ?_) (AllReadyH.cons (o := ⟨_, _, _, _, _, _⟩) rfl (fun K hK => ?_) (AllReadyH.nil))
            · go_simp
              refine (bit_any b7 3 (by omega) O.r7.1 O.r7.2 _).mono ?_
              rw [T3.out]
              rintro e w' ⟨rfl, rfl⟩
              refine hK.out _ _ trivial (fun hHeld => ?_)
              clear hK K
              refine wpAnyH_take (i := 12) (oi := ⟨_, _, _, _, _, _⟩) (v := ?_) rfl (by kernel_rfl) (by kernel_rfl) (by kernel_rfl) (fun _ _ _ h => h) (Or.inl ⟨by rfl, ?_⟩) (by assumption) ?_
              rotate_left
              · (intro w hSw; (try dsimp only at hSw); go_simp); with_reducible rfl
              simp only [Act.put, List.setIfInBounds_toArray, List.set_cons_zero, List.set_cons_succ]
              refine wpAnyH_take (i := 13) (oi := ⟨_, _, _, _, _, _⟩) (v := undef) rfl (by kernel_rfl) (by kernel_rfl) (by kernel_rfl) (fun _ _ _ h => h) (Or.inr ⟨by rfl, rfl⟩) (by assumption) ?_
              simp only [Act.put, List.setIfInBounds_toArray, List.set_cons_zero, List.set_cons_succ]
              refine wpAnyH_take (i := 14) (oi := ⟨_, _, _, _, _, _⟩) (v := undef) rfl (by kernel_rfl) (by kernel_rfl) (by kernel_rfl) (fun _ _ _ h => h) (Or.inr ⟨by rfl, rfl⟩) (by assumption) ?_
              simp only [Act.put, List.setIfInBounds_toArray, List.set_cons_zero, List.set_cons_succ]
              refine wpAnyH_take (i := 15) (oi := ⟨_, _, _, _, _, _⟩) (v := undef) rfl (by kernel_rfl) (by kernel_rfl) (by kernel_rfl) (fun _ _ _ h => h) (Or.inr ⟨by rfl, rfl⟩) (by assumption) ?_
              simp only [Act.put, List.setIfInBounds_toArray, List.set_cons_zero, List.set_cons_succ]
              refine wpAnyH_take (i := 16) (oi := ⟨_, _, _, _, _, _⟩) (v := undef) rfl (by kernel_rfl) (by kernel_rfl) (by kernel_rfl) (fun _ _ _ h => h) (Or.inr ⟨by rfl, rfl⟩) (by assumption) ?_
              simp only [Act.put, List.setIfInBounds_toArray, List.set_cons_zero, List.set_cons_succ]
              refine wpAnyH_take (i := 17) (oi := ⟨_, _, _, _, _, _⟩) (v := ?_) rfl (by kernel_rfl) (by kernel_rfl) (by kernel_rfl) (fun _ _ _ h => h) (Or.inl ⟨by rfl, ?_⟩) (by assumption) ?_
              rotate_left
              · (intro w hSw; (try dsimp only at hSw); go_simp); with_reducible rfl
              simp only [Act.put, List.setIfInBounds_toArray, List.set_cons_zero, List.set_cons_succ]
              refine wpAnyH_take (i := 18) (oi := ⟨_, _, _, _, _, _⟩) (v := ?_) rfl (by kernel_rfl) (by kernel_rfl) (by kernel_rfl) (fun _ _ _ h => h) (Or.inl ⟨by rfl, ?_⟩) (by assumption) ?_
              rotate_left
              · (intro w hSw; (try dsimp only at hSw); go_simp); with_reducible rfl
              simp only [Act.put, List.setIfInBounds_toArray, List.set_cons_zero, List.set_cons_succ]
              refine wpAnyH_ready (rs := [19]) (by kernel_rfl) (by simp) ?_
              refine AllReadyH.cons (o := ⟨_, _, _, _, _, _⟩) rfl (fun K hK => ?_) (AllReadyH.nil)
              go_simp
              refine hK.out _ _ trivial (fun hHeld => ?_)
              clear hK K
              refine wpAnyH_ready (rs := [20]) (by kernel_rfl) (by simp) ?_
              refine AllReadyH.cons (o := ⟨_, _, _, _, _, _⟩) rfl (fun K hK => ?_) (AllReadyH.nil)
              go_simp
              refine hK.out _ _ trivial (fun hHeld => ?_)
              clear hK K
              refine wpAnyH_done (by kernel_rfl) (NoPanic.normal ?_) _
              go_wp2_with fail
              go_meet
              rw [etw]
              exact ⟨rfl, blk_alloc k0 _, blk_new' _ (by simp), (b0.alloc b0.size _).drew⟩
            · go_simp
              refine hK.out _ _ trivial (fun hHeld => ?_)
              clear hK K
              refine wpAnyH_ready (rs := [11]) (by kernel_rfl) (by simp) ?_
              refine AllReadyH.cons (o := ⟨_, _, _, _, _, _⟩) rfl (fun K hK => ?_) (AllReadyH.nil)
              go_simp
              refine (bit_any b7 3 (by omega) O.r7.1 O.r7.2 _).mono ?_
              rw [T3.out]
              rintro e w' ⟨rfl, rfl⟩
              refine hK.out _ _ trivial (fun hHeld => ?_)
              clear hK K
              refine wpAnyH_take (i := 12) (oi := ⟨_, _, _, _, _, _⟩) (v := ?_) rfl (by kernel_rfl) (by kernel_rfl) (by kernel_rfl) (fun _ _ _ h => h) (Or.inl ⟨by rfl, ?_⟩) (by assumption) ?_
              rotate_left
              · (intro w hSw; (try dsimp only at hSw); go_simp); with_reducible rfl
              simp only [Act.put, List.setIfInBounds_toArray, List.set_cons_zero, List.set_cons_succ]
              refine wpAnyH_take (i := 13) (oi := ⟨_, _, _, _, _, _⟩) (v := undef) rfl (by kernel_rfl) (by kernel_rfl) (by kernel_rfl) (fun _ _ _ h => h) (Or.inr ⟨by rfl, rfl⟩) (by assumption) ?_
              simp only [Act.put, List.setIfInBounds_toArray, List.set_cons_zero, List.set_cons_succ]
              refine wpAnyH_take (i := 14) (oi := ⟨_, _, _, _, _, _⟩) (v := undef) rfl (by kernel_rfl) (by kernel_rfl) (by kernel_rfl) (fun _ _ _ h => h) (Or.inr ⟨by rfl, rfl⟩) (by assumption) ?_
              simp only [Act.put, List.setIfInBounds_toArray, List.set_cons_zero, List.set_cons_succ]
              refine wpAnyH_take (i := 15) (oi := ⟨_, _, _, _, _, _⟩) (v := undef) rfl (by kernel_rfl) (by kernel_rfl) (by kernel_rfl) (fun _ _ _ h => h) (Or.inr ⟨by rfl, rfl⟩) (by assumption) ?_
              simp only [Act.put, List.setIfInBounds_toArray, List.set_cons_zero, List.set_cons_succ]
              refine wpAnyH_take (i := 16) (oi := ⟨_, _, _, _, _, _⟩) (v := undef) rfl (by kernel_rfl) (by kernel_rfl) (by kernel_rfl) (fun _ _ _ h => h) (Or.inr ⟨by rfl, rfl⟩) (by assumption) ?_
              simp only [Act.put, List.setIfInBounds_toArray, List.set_cons_zero, List.set_cons_succ]
              refine wpAnyH_take (i := 17) (oi := ⟨_, _, _, _, _, _⟩) (v := ?_) rfl (by kernel_rfl) (by kernel_rfl) (by kernel_rfl) (fun _ _ _ h => h) (Or.inl ⟨by rfl, ?_⟩) (by assumption) ?_
              rotate_left
              · (intro w hSw; (try dsimp only at hSw); go_simp); with_reducible rfl
              simp only [Act.put, List.setIfInBounds_toArray, List.set_cons_zero, List.set_cons_succ]
              refine wpAnyH_take (i := 18) (oi := ⟨_, _, _, _, _, _⟩) (v := ?_) rfl (by kernel_rfl) (by kernel_rfl) (by kernel_rfl) (fun _ _ _ h => h) (Or.inl ⟨by rfl, ?_⟩) (by assumption) ?_
              rotate_left
              · (intro w hSw; (try dsimp only at hSw); go_simp); with_reducible rfl
              simp only [Act.put, List.setIfInBounds_toArray, List.set_cons_zero, List.set_cons_succ]
              refine wpAnyH_ready (rs := [20]) (by kernel_rfl) (by simp) ?_
              refine AllReadyH.cons (o := ⟨_, _, _, _, _, _⟩) rfl (fun K hK => ?_) (AllReadyH.nil)
              go_simp
              refine hK.out _ _ trivial (fun hHeld => ?_)
              clear hK K
              refine wpAnyH_done (by kernel_rfl) (NoPanic.normal ?_) _
              go_wp2_with fail
              go_meet
              rw [etw]
              exact ⟨rfl, blk_alloc k0 _, blk_new' _ (by simp), (b0.alloc b0.size _).drew⟩
          · go_simp
            refine hK.out _ _ trivial (fun hHeld => ?_)
            clear hK K
            refine wpAnyH_ready (rs := [8]) (by kernel_rfl) (by simp) ?_
            refine AllReadyH.cons (o := ⟨_, _, _, _, _, _⟩) rfl (fun K hK => ?_) (AllReadyH.nil)
            go_simp
            refine (bit_any b6 3 (by omega) O.r6.1 O.r6.2 _).mono ?_
            rw [← HFO.out]
            rintro e w' ⟨rfl, rfl⟩
            refine hK.out _ _ trivial (fun hHeld => ?_)
            clear hK K
            refine wpAnyH_ready (rs := [11]) (by kernel_rfl) (by simp) ?_
            refine AllReadyH.cons (o := ⟨_, _, _, _, _, _⟩) rfl (fun K hK => ?_) (AllReadyH.nil)
            go_simp
            refine (bit_any b7 3 (by omega) O.r7.1 O.r7.2 _).mono ?_
            rw [T3.out]
            rintro e w' ⟨rfl, rfl⟩
            refine hK.out _ _ trivial (fun hHeld => ?_)
            clear hK K
            refine wpAnyH_take (i := 12) (oi := ⟨_, _, _, _, _, _⟩) (v := ?_) rfl (by kernel_rfl) (by kernel_rfl) (by kernel_rfl) (fun _ _ _ h => h) (Or.inl ⟨by rfl, ?_⟩) (by assumption) ?_
            rotate_left
            · (intro w hSw; (try dsimp only at hSw); go_simp); with_reducible rfl
            simp only [Act.put, List.setIfInBounds_toArray, List.set_cons_zero, List.set_cons_succ]
            refine wpAnyH_take (i := 13) (oi := ⟨_, _, _, _, _, _⟩) (v := undef) rfl (by kernel_rfl) (by kernel_rfl) (by kernel_rfl) (fun _ _ _ h => h) (Or.inr ⟨by rfl, rfl⟩) (by assumption) ?_
            simp only [Act.put, List.setIfInBounds_toArray, List.set_cons_zero, List.set_cons_succ]
            refine wpAnyH_take (i := 14) (oi := ⟨_, _, _, _, _, _⟩) (v := undef) rfl (by kernel_rfl) (by kernel_rfl) (by kernel_rfl) (fun _ _ _ h => h) (Or.inr ⟨by rfl, rfl⟩) (by assumption) ?_
            simp only [Act.put, List.setIfInBounds_toArray, List.set_cons_zero, List.set_cons_succ]
            refine wpAnyH_take (i := 15) (oi := ⟨_, _, _, _, _, _⟩) (v := undef) rfl (by kernel_rfl) (by kernel_rfl) (by kernel_rfl) (fun _ _ _ h => h) (Or.inr ⟨by rfl, rfl⟩) (by assumption) ?_
            simp only [Act.put, List.setIfInBounds_toArray, List.set_cons_zero, List.set_cons_succ]
            refine wpAnyH_take (i := 16) (oi := ⟨_, _, _, _, _, _⟩) (v := undef) rfl (by kernel_rfl) (by kernel_rfl) (by kernel_rfl) (fun _ _ _ h => h) (Or.inr ⟨by rfl, rfl⟩) (by assumption) ?_
            simp only [Act.put, List.setIfInBounds_toArray, List.set_cons_zero, List.set_cons_succ]
            refine wpAnyH_take (i := 17) (oi := ⟨_, _, _, _, _, _⟩) (v := ?_) rfl (by kernel_rfl) (by kernel_rfl) (by kernel_rfl) (fun _ _ _ h => h) (Or.inl ⟨by rfl, ?_⟩) (by assumption) ?_
            rotate_left
            · (intro w hSw; (try dsimp only at hSw); go_simp); with_reducible rfl
            simp only [Act.put, List.setIfInBounds_toArray, List.set_cons_zero, List.set_cons_succ]
            refine wpAnyH_take (i := 18) (oi := ⟨_, _, _, _, _, _⟩) (v := ?_) rfl (by kernel_rfl) (by kernel_rfl) (by kernel_rfl) (fun _ _ _ h => h) (Or.inl ⟨by rfl, ?_⟩) (by assumption) ?_
            rotate_left
            · (intro w hSw; (try dsimp only at hSw); go_simp); with_reducible rfl
            simp only [Act.put, List.setIfInBounds_toArray, List.set_cons_zero, List.set_cons_succ]
            refine wpAnyH_ready (rs := [20]) (by kernel_rfl) (by simp) ?_
            refine AllReadyH.cons (o := ⟨_, _, _, _, _, _⟩) rfl (fun K hK => ?_) (AllReadyH.nil)
            go_simp
            refine hK.out _ _ trivial (fun hHeld => ?_)
            clear hK K
            refine wpAnyH_done (by kernel_rfl) (NoPanic.normal ?_) _
            go_wp2_with fail
            go_meet
            rw [etw]
            exact ⟨rfl, blk_alloc k0 _, blk_new' _ (by simp), (b0.alloc b0.size _).drew⟩
        · go_simp
          refine hK.out _ _ trivial (fun hHeld => ?_)
          clear hK K
          refine wpAnyH_ready (rs := [5]) (by kernel_rfl) (by simp) ?_
          refine AllReadyH.cons (o := ⟨_, _, _, _, _, _⟩) rfl (fun K hK => ?_) (AllReadyH.nil)
          go_simp
          refine (bit_any b6 1 (by omega) O.r6.1 O.r6.2 _).mono ?_
          rw [← HBA.out]
          rintro e w' ⟨rfl, rfl⟩
          refine hK.out _ _ trivial (fun hHeld => ?_)
          clear hK K
          refine wpAnyH_ready (rs := [8]) (by kernel_rfl) (by simp) ?_
          refine AllReadyH.cons (o := ⟨_, _, _, _, _, _⟩) rfl (fun K hK => ?_) (AllReadyH.nil)
          go_simp
          refine (bit_any b6 3 (by omega) O.r6.1 O.r6.2 _).mono ?_
          rw [← HFO.out]
          rintro e w' ⟨rfl, rfl⟩
          refine hK.out _ _ trivial (fun hHeld => ?_)
          clear hK K
          refine wpAnyH_ready (rs := [11]) (by kernel_rfl) (by simp) ?_
          refine AllReadyH.cons (o := ⟨_, _, _, _, _, _⟩) rfl (fun K hK => ?_) (AllReadyH.nil)
          go_simp
          refine (bit_any b7 3 (by omega) O.r7.1 O.r7.2 _).mono ?_
          rw [T3.out]
          rintro e w' ⟨rfl, rfl⟩
          refine hK.out _ _ trivial (fun hHeld => ?_)
          clear hK K
          refine wpAnyH_take (i := 12) (oi := ⟨_, _, _, _, _, _⟩) (v := ?_) rfl (by kernel_rfl) (by kernel_rfl) (by kernel_rfl) (fun _ _ _ h => h) (Or.inl ⟨by rfl, ?_⟩) (by assumption) ?_
          rotate_left
          · (intro w hSw; (try dsimp only at hSw); go_simp); with_reducible rfl
          simp only [Act.put, List.setIfInBounds_toArray, List.set_cons_zero, List.set_cons_succ]
          refine wpAnyH_take (i := 13) (oi := ⟨_, _, _, _, _, _⟩) (v := undef) rfl (by kernel_rfl) (by kernel_rfl) (by kernel_rfl) (fun _ _ _ h => h) (Or.inr ⟨by rfl, rfl⟩) (by assumption) ?_
          simp only [Act.put, List.setIfInBounds_toArray, List.set_cons_zero, List.set_cons_succ]
          refine wpAnyH_take (i := 14) (oi := ⟨_, _, _, _, _, _⟩) (v := undef) rfl (by kernel_rfl) (by kernel_rfl) (by kernel_rfl) (fun _ _ _ h => h) (Or.inr ⟨by rfl, rfl⟩) (by assumption) ?_
          simp only [Act.put, List.setIfInBounds_toArray, List.set_cons_zero, List.set_cons_succ]
          refine wpAnyH_take (i := 15) (oi := ⟨_, _, _, _, _, _⟩) (v := undef) rfl (by kernel_rfl) (by kernel_rfl) (by kernel_rfl) (fun _ _ _ h => h) (Or.inr ⟨by rfl, rfl⟩) (by assumption) ?_
          simp only [Act.put, List.setIfInBounds_toArray, List.set_cons_zero, List.set_cons_succ]
          refine wpAnyH_take (i := 16) (oi := ⟨_, _, _, _, _, _⟩) (v := undef) rfl (by kernel_rfl) (by kernel_rfl) (by kernel_rfl) (fun _ _ _ h => h) (Or.inr ⟨by rfl, rfl⟩) (by assumption) ?_
          simp only [Act.put, List.setIfInBounds_toArray, List.set_cons_zero, List.set_cons_succ]
          refine wpAnyH_take (i := 17) (oi := ⟨_, _, _, _, _, _⟩) (v := ?_) rfl (by kernel_rfl) (by kernel_rfl) (by kernel_rfl) (fun _ _ _ h => h) (Or.inl ⟨by rfl, ?_⟩) (by assumption) ?_
          rotate_left
          · (intro w hSw; (try dsimp only at hSw); go_simp); with_reducible rfl
          simp only [Act.put, List.setIfInBounds_toArray, List.set_cons_zero, List.set_cons_succ]
          refine wpAnyH_take (i := 18) (oi := ⟨_, _, _, _, _, _⟩) (v := ?_) rfl (by kernel_rfl) (by kernel_rfl) (by kernel_rfl) (fun _ _ _ h => h) (Or.inl ⟨by rfl, ?_⟩) (by assumption) ?_
          rotate_left
          · (intro w hSw; (try dsimp only at hSw); go_simp); with_reducible rfl
          simp only [Act.put, List.setIfInBounds_toArray, List.set_cons_zero, List.set_cons_succ]
          refine wpAnyH_ready (rs := [20]) (by kernel_rfl) (by simp) ?_
          refine AllReadyH.cons (o := ⟨_, _, _, _, _, _⟩) rfl (fun K hK => ?_) (AllReadyH.nil)
          go_simp
          refine hK.out _ _ trivial (fun hHeld => ?_)
          clear hK K
          refine wpAnyH_done (by kernel_rfl) (NoPanic.normal ?_) _
          go_wp2_with fail
          go_meet
          rw [etw]
          exact ⟨rfl, blk_alloc k0 _, blk_new' _ (by simp), (b0.alloc b0.size _).drew⟩
      · go_simp
        refine hK.out _ _ trivial (fun hHeld => ?_)
        clear hK K
        refine wpAnyH_ready (rs := [2]) (by kernel_rfl) (by simp) ?_
        refine AllReadyH.cons (o := ⟨_, _, _, _, _, _⟩) rfl (fun K hK => ?_) (AllReadyH.nil)
        go_simp
        refine (bit_any b6 0 (by omega) O.r6.1 O.r6.2 _).mono ?_
        rw [← HVE.out]
        rintro e w' ⟨rfl, rfl⟩
        refine hK.out _ _ trivial (fun hHeld => ?_)
        clear hK K
        refine wpAnyH_ready (rs := [5]) (by kernel_rfl) (by simp) ?_
        refine AllReadyH.cons (o := ⟨_, _, _, _, _, _⟩) rfl (fun K hK => ?_) (AllReadyH.nil)
        go_simp
        refine (bit_any b6 1 (by omega) O.r6.1 O.r6.2 _).mono ?_
        rw [← HBA.out]
        rintro e w' ⟨rfl, rfl⟩
        refine hK.out _ _ trivial (fun hHeld => ?_)
        clear hK K
        refine wpAnyH_ready (rs := [8]) (by kernel_rfl) (by simp) ?_
        refine AllReadyH.cons (o := ⟨_, _, _, _, _, _⟩) rfl (fun K hK => ?_) (AllReadyH.nil)
        go_simp
        refine (bit_any b6 3 (by omega) O.r6.1 O.r6.2 _).mono ?_
        rw [← HFO.out]
        rintro e w' ⟨rfl, rfl⟩
        refine hK.out _ _ trivial (fun hHeld => ?_)
        clear hK K
        refine wpAnyH_ready (rs := [11]) (by kernel_rfl) (by simp) ?_
        refine AllReadyH.cons (o := ⟨_, _, _, _, _, _⟩) rfl (fun K hK => ?_) (AllReadyH.nil)
        go_simp
        refine (bit_any b7 3 (by omega) O.r7.1 O.r7.2 _).mono ?_
        rw [T3.out]
        rintro e w' ⟨rfl, rfl⟩
        refine hK.out _ _ trivial (fun hHeld => ?_)
        clear hK K
        refine wpAnyH_take (i := 12) (oi := ⟨_, _, _, _, _, _⟩) (v := ?_) rfl (by kernel_rfl) (by kernel_rfl) (by kernel_rfl) (fun _ _ _ h => h) (Or.inl ⟨by rfl, ?_⟩) (by assumption) ?_
        rotate_left
        · (intro w hSw; (try dsimp only at hSw); go_simp); with_reducible rfl
        simp only [Act.put, List.setIfInBounds_toArray, List.set_cons_zero, List.set_cons_succ]
        refine wpAnyH_take (i := 13) (oi := ⟨_, _, _, _, _, _⟩) (v := undef) rfl (by kernel_rfl) (by kernel_rfl) (by kernel_rfl) (fun _ _ _ h => h) (Or.inr ⟨by rfl, rfl⟩) (by assumption) ?_
        simp only [Act.put, List.setIfInBounds_toArray, List.set_cons_zero, List.set_cons_succ]
        refine wpAnyH_take (i := 14) (oi := ⟨_, _, _, _, _, _⟩) (v := undef) rfl (by kernel_rfl) (by kernel_rfl) (by kernel_rfl) (fun _ _ _ h => h) (Or.inr ⟨by rfl, rfl⟩) (by assumption) ?_
        simp only [Act.put, List.setIfInBounds_toArray, List.set_cons_zero, List.set_cons_succ]
        refine wpAnyH_take (i := 15) (oi := ⟨_, _, _, _, _, _⟩) (v := undef) rfl (by kernel_rfl) (by kernel_rfl) (by kernel_rfl) (fun _ _ _ h => h) (Or.inr ⟨by rfl, rfl⟩) (by assumption) ?_
        simp only [Act.put, List.setIfInBounds_toArray, List.set_cons_zero, List.set_cons_succ]
        refine wpAnyH_take (i := 16) (oi := ⟨_, _, _, _, _, _⟩) (v := undef) rfl (by kernel_rfl) (by kernel_rfl) (by kernel_rfl) (fun _ _ _ h => h) (Or.inr ⟨by rfl, rfl⟩) (by assumption) ?_
        simp only [Act.put, List.setIfInBounds_toArray, List.set_cons_zero, List.set_cons_succ]
        refine wpAnyH_take (i := 17) (oi := ⟨_, _, _, _, _, _⟩) (v := ?_) rfl (by kernel_rfl) (by kernel_rfl) (by kernel_rfl) (fun _ _ _ h => h) (Or.inl ⟨by rfl, ?_⟩) (by assumption) ?_
        rotate_left
        · (intro w hSw; (try dsimp only at hSw); go_simp); with_reducible rfl
        simp only [Act.put, List.setIfInBounds_toArray, List.set_cons_zero, List.set_cons_succ]
        refine wpAnyH_take (i := 18) (oi := ⟨_, _, _, _, _, _⟩) (v := ?_) rfl (by kernel_rfl) (by kernel_rfl) (by kernel_rfl) (fun _ _ _ h => h) (Or.inl ⟨by rfl, ?_⟩) (by assumption) ?_
        rotate_left
        · (intro w hSw; (try dsimp only at hSw); go_simp); with_reducible rfl
        simp only [Act.put, List.setIfInBounds_toArray, List.set_cons_zero, List.set_cons_succ]
        refine wpAnyH_ready (rs := [20]) (by kernel_rfl) (by simp) ?_
        refine AllReadyH.cons (o := ⟨_, _, _, _, _, _⟩) rfl (fun K hK => ?_) (AllReadyH.nil)
        go_simp
        refine hK.out _ _ trivial (fun hHeld => ?_)
        clear hK K
        refine wpAnyH_done (by kernel_rfl) (NoPanic.normal ?_) _
        go_wp2_with fail
        go_meet
        rw [etw]
        exact ⟨rfl, blk_alloc k0 _, blk_new' _ (by simp), (b0.alloc b0.size _).drew⟩
    · have T3 := hidI t3; clear t3
      cases t2 : (b7 / 2 ^ 2 % 2 == 1)
      · have T2 := hidI t2; clear t2
        have etw : tw = true := by rw [HTW.out]; unfold twB; rw [T3.out, T2.out]; simp
        refine wp_region_noPanic ?_
        refine wp_region_held_drew (S := (fun _ => True)) (by kernel_rfl) trivial (fun hHeld => ?_)
        refine wpAnyH_take (i := 0) (oi := ⟨_, _, _, _, _, _⟩) (v := ?_) rfl (by kernel_rfl) (by kernel_rfl) (by kernel_rfl) (fun _ _ _ h => h) (Or.inl ⟨by rfl, ?_⟩) (by assumption) ?_
        rotate_left
        · (intro w hSw; (try dsimp only at hSw); go_simp); with_reducible rfl
        simp only [Act.put, List.setIfInBounds_toArray, List.set_cons_zero, List.set_cons_succ]
        refine wpAnyH_take (i := 1) (oi := ⟨_, _, _, _, _, _⟩) (v := ?_) rfl (by kernel_rfl) (by kernel_rfl) (by kernel_rfl) (fun _ _ _ h => h) (Or.inl ⟨by rfl, ?_⟩) (by assumption) ?_
        rotate_left
        · (intro w hSw; (try dsimp only at hSw); go_simp); with_reducible rfl
        simp only [Act.put, List.setIfInBounds_toArray, List.set_cons_zero, List.set_cons_succ]
        refine wpAnyH_take (i := 3) (oi := ⟨_, _, _, _, _, _⟩) (v := ?_) rfl (by kernel_rfl) (by kernel_rfl) (by kernel_rfl) (fun _ _ _ h => h) (Or.inl ⟨by rfl, ?_⟩) (by assumption) ?_
        rotate_left
        · (intro w hSw; (try dsimp only at hSw); go_simp); with_reducible rfl
        simp only [Act.put, List.setIfInBounds_toArray, List.set_cons_zero, List.set_cons_succ]
        refine wpAnyH_take (i := 4) (oi := ⟨_, _, _, _, _, _⟩) (v := ?_) rfl (by kernel_rfl) (by kernel_rfl) (by kernel_rfl) (fun _ _ _ h => h) (Or.inl ⟨by rfl, ?_⟩) (by assumption) ?_
        rotate_left
        · (intro w hSw; (try dsimp only at hSw); go_simp); with_reducible rfl
        simp only [Act.put, List.setIfInBounds_toArray, List.set_cons_zero, List.set_cons_succ]
        refine wpAnyH_take (i := 6) (oi := ⟨_, _, _, _, _, _⟩) (v := ?_) rfl (by kernel_rfl) (by kernel_rfl) (by kernel_rfl) (fun _ _ _ h => h) (Or.inl ⟨by rfl, ?_⟩) (by assumption) ?_
        rotate_left
        · (intro w hSw; (try dsimp only at hSw); go_simp); with_reducible rfl
        simp only [Act.put, List.setIfInBounds_toArray, List.set_cons_zero, List.set_cons_succ]
        refine wpAnyH_take (i := 7) (oi := ⟨_, _, _, _, _, _⟩) (v := ?_) rfl (by kernel_rfl) (by kernel_rfl) (by kernel_rfl) (fun _ _ _ h => h) (Or.inl ⟨by rfl, ?_⟩) (by assumption) ?_
        rotate_left
        · (intro w hSw; (try dsimp only at hSw); go_simp); with_reducible rfl
        simp only [Act.put, List.setIfInBounds_toArray, List.set_cons_zero, List.set_cons_succ]
        refine wpAnyH_take (i := 9) (oi := ⟨_, _, _, _, _, _⟩) (v := ?_) rfl (by kernel_rfl) (by kernel_rfl) (by kernel_rfl) (fun _ _ _ h => h) (Or.inl ⟨by rfl, ?_⟩) (by assumption) ?_
        rotate_left
        · (intro w hSw; (try dsimp only at hSw); go_simp); with_reducible rfl
        simp only [Act.put, List.setIfInBounds_toArray, List.set_cons_zero, List.set_cons_succ]
        refine wpAnyH_take (i := 10) (oi := ⟨_, _, _, _, _, _⟩) (v := ?_) rfl (by kernel_rfl) (by kernel_rfl) (by kernel_rfl) (fun _ _ _ h => h) (Or.inl ⟨by rfl, ?_⟩) (by assumption) ?_
        rotate_left
        · (intro w hSw; (try dsimp only at hSw); go_simp); with_reducible rfl
        simp only [Act.put, List.setIfInBounds_toArray, List.set_cons_zero, List.set_cons_succ]
        refine wpAnyH_ready (rs := [2, 19]) (by kernel_rfl) (by simp) ?_
        refine AllReadyH.cons (o := ⟨_, _, _, _, _, _⟩) rfl (fun K hK => ?_) (AllReadyH.cons (o := ⟨_, _, _, _, _, _⟩) rfl (fun K hK => ?_) (AllReadyH.nil))
        · go_simp
          refine (bit_any b6 0 (by omega) O.r6.1 O.r6.2 _).mono ?_
          rw [← HVE.out]
          rintro e w' ⟨rfl, rfl⟩
          refine hK.out _ _ trivial (fun hHeld => ?_)
          clear hK K
          refine wpAnyH_ready (rs := [5, 19]) (by kernel_rfl) (by simp) ?_
          refine AllReadyH.cons (o := ⟨_, _, _, _, _, _⟩) rfl (fun K hK => ?_) (AllReadyH.cons (o := ⟨_, _, _, _, _, _⟩) rfl (fun K hK => ?_) (AllReadyH.nil))
          · go_simp
            refine (bit_any b6 1 (by omega) O.r6.1 O.r6.2 _).mono ?_
            rw [← HBA.out]
            rintro e w' ⟨rfl, rfl⟩
            refine hK.out _ _ trivial (fun hHeld => ?_)
            clear hK K
            refine wpAnyH_ready (rs := [8, 19]) (by kernel_rfl) (by simp) ?_
            refine AllReadyH.cons (o := ⟨_, _, _, _, _, _⟩) rfl (fun K hK => ?_) (AllReadyH.cons (o := ⟨_, _, _, _, _, _⟩) rfl (fun K hK => ?_) (AllReadyH.nil))
            · go_simp
              refine (bit_any b6 3 (by omega) O.r6.1 O.r6.2 _).mono ?_
              rw [← HFO.out]
              rintro e w' ⟨rfl, rfl⟩
              refine hK.out _ _ trivial (fun hHeld => ?_)
              clear hK K
              refine wpAnyH_ready (rs := [11, 19]) (by kernel_rfl) (by simp) ?_
              refine AllReadyH.cons (o := ⟨_, _, _, _, _, _⟩) rfl (fun K hK => ?_) (AllReadyH.cons (o := ⟨_, _, _, _, _, _⟩) rfl (fun K hK => ?_) (AllReadyH.nil))
              · go_simp
                refine (bit_any b7 3 (by omega) O.r7.1 O.r7.2 _).mono ?_
                rw [T3.out]
                rintro e w' ⟨rfl, rfl⟩
                refine hK.out _ _ trivial (fun hHeld => ?_)
                clear hK K
                refine wpAnyH_take (i := 12) (oi := ⟨_, _, _, _, _, _⟩) (v := ?_) rfl (by kernel_rfl) (by kernel_rfl) (by kernel_rfl) (fun _ _ _ h => h) (Or.inl ⟨by rfl, ?_⟩) (by assumption) ?_
                rotate_left
                · (intro w hSw; (try dsimp only at hSw); go_simp); with_reducible rfl
                simp only [Act.put, List.setIfInBounds_toArray, List.set_cons_zero, List.set_cons_succ]
                refine wpAnyH_take (i := 13) (oi := ⟨_, _, _, _, _, _⟩) (v := ?_) rfl (by kernel_rfl) (by kernel_rfl) (by kernel_rfl) (fun _ _ _ h => h) (Or.inl ⟨by rfl, ?_⟩) (by assumption) ?_
                rotate_left
                · (intro w hSw; (try dsimp only at hSw); go_simp); with_reducible rfl
                simp only [Act.put, List.setIfInBounds_toArray, List.set_cons_zero, List.set_cons_succ]
                refine wpAnyH_take (i := 14) (oi := ⟨_, _, _, _, _, _⟩) (v := ?_) rfl (by kernel_rfl) (by kernel_rfl) (by kernel_rfl) (fun _ _ _ h => h) (Or.inl ⟨by rfl, ?_⟩) (by assumption) ?_
                rotate_left
                · (intro w hSw; (try dsimp only at hSw); go_simp); with_reducible rfl
                simp only [Act.put, List.setIfInBounds_toArray, List.set_cons_zero, List.set_cons_succ]
                refine wpAnyH_ready (rs := [15, 19]) (by kernel_rfl) (by simp) ?_
                refine AllReadyH.cons (o := ⟨_, _, _, _, _, _⟩) rfl (fun K hK => ?_) (AllReadyH.cons (o := ⟨_, _, _, _, _, _⟩) rfl (fun K hK => ?_) (AllReadyH.nil))
                · go_simp
                  refine (bit_any b7 2 (by omega) O.r7.1 O.r7.2 _).mono ?_
                  rw [T2.out]
                  rintro e w' ⟨rfl, rfl⟩
                  refine hK.out _ _ trivial (fun hHeld => ?_)
                  clear hK K
                  refine wpAnyH_take (i := 16) (oi := ⟨_, _, _, _, _, _⟩) (v := ?_) rfl (by kernel_rfl) (by kernel_rfl) (by kernel_rfl) (fun _ _ _ h => h) (Or.inl ⟨by rfl, ?_⟩) (by assumption) ?_
                  rotate_left
                  · (intro w hSw; (try dsimp only at hSw); go_simp); with_reducible rfl
                  simp only [Act.put, List.setIfInBounds_toArray, List.set_cons_zero, List.set_cons_succ]
                  refine wpAnyH_take (i := 17) (oi := ⟨_, _, _, _, _, _⟩) (v := ?_) rfl (by kernel_rfl) (by kernel_rfl) (by kernel_rfl) (fun _ _ _ h => h) (Or.inl ⟨by rfl, ?_⟩) (by assumption) ?_
                  rotate_left
                  · (intro w hSw; (try dsimp only at hSw); go_simp); with_reducible rfl
                  simp only [Act.put, List.setIfInBounds_toArray, List.set_cons_zero, List.set_cons_succ]
                  refine wpAnyH_take (i := 18) (oi := ⟨_, _, _, _, _, _⟩) (v := ?_) rfl (by kernel_rfl) (by kernel_rfl) (by kernel_rfl) (fun _ _ _ h => h) (Or.inl ⟨by rfl, ?_⟩) (by assumption) ?_
                  rotate_left
                  · (intro w hSw; (try dsimp only at hSw); go_simp); with_reducible rfl
                  simp only [Act.put, List.setIfInBounds_toArray, List.set_cons_zero, List.set_cons_succ]
                  refine wpAnyH_ready (rs := [19]) (by kernel_rfl) (by simp) ?_
                  refine AllReadyH.cons (o := ⟨_, _, _, _, _, _⟩) rfl (fun K hK => ?_) (AllReadyH.nil)
                  go_simp
                  refine hK.out _ _ trivial (fun hHeld => ?_)
                  clear hK K
                  refine wpAnyH_ready (rs := [20]) (by kernel_rfl) (by simp) ?_
                  refine AllReadyH.cons (o := ⟨_, _, _, _, _, _⟩) rfl (fun K hK => ?_) (AllReadyH.nil)
                  go_simp
                  refine hK.out _ _ trivial (fun hHeld => ?_)
                  clear hK K
                  refine wpAnyH_done (by kernel_rfl) (NoPanic.normal ?_) _
                  go_wp2_with fail
                  go_meet
                  rw [etw]
                  exact ⟨rfl, blk_alloc k0 _, blk_new' _ (by simp), (b0.alloc b0.size _).drew⟩
                · go_simp
                  refine hK.out _ _ trivial (fun hHeld => ?_)
                  clear hK K
                  refine wpAnyH_ready (rs := [15]) (by kernel_rfl) (by simp) ?_
                  refine AllReadyH.cons (o := ⟨_, _, _, _, _, _⟩) rfl (fun K hK => ?_) (AllReadyH.nil)
                  go_simp
                  refine (bit_any b7 2 (by omega) O.r7.1 O.r7.2 _).mono ?_
                  rw [T2.out]
                  rintro e w' ⟨rfl, rfl⟩
                  refine hK.out _ _ trivial (fun hHeld => ?_)
                  clear hK K
                  refine wpAnyH_take (i := 16) (oi := ⟨_, _, _, _, _, _⟩) (v := ?_) rfl (by kernel_rfl) (by kernel_rfl) (by kernel_rfl) (fun _ _ _ h => h) (Or.inl ⟨by rfl, ?_⟩) (by assumption) ?_
                  rotate_left
                  · (intro w hSw; (try dsimp only at hSw); go_simp); with_reducible rfl
                  simp only [Act.put, List.setIfInBounds_toArray, List.set_cons_zero, List.set_cons_succ]
                  refine wpAnyH_take (i := 17) (oi := ⟨_, _, _, _, _, _⟩) (v := ?_) rfl (by kernel_rfl) (by kernel_rfl) (by kernel_rfl) (fun _ _ _ h => h) (Or.inl ⟨by rfl, ?_⟩) (by assumption) ?_
                  rotate_left
                  · (intro w hSw; (try dsimp only at hSw); go_simp); with_reducible rfl
                  simp only [Act.put, List.setIfInBounds_toArray, List.set_cons_zero, List.set_cons_succ]
                  refine wpAnyH_take (i := 18) (oi := ⟨_, _, _, _, _, _⟩) (v := ?_) rfl (by kernel_rfl) (by kernel_rfl) (by kernel_rfl) (fun _ _ _ h => h) (Or.inl ⟨by rfl, ?_⟩) (by assumption) ?_
                  rotate_left
                  · (intro w hSw; (try dsimp only at hSw); go_simp); with_reducible rfl
                  simp only [Act.put, List.setIfInBounds_toArray, List.set_cons_zero, List.set_cons_succ]
                  refine wpAnyH_ready (rs := [20]) (by kernel_rfl) (by simp) ?_
                  refine AllReadyH.cons (o := ⟨_, _, _, _, _, _⟩) rfl (fun K hK => ?_) (AllReadyH.nil)
                  go_simp
                  refine hK.out _ _ trivial (fun hHeld => ?_)
                  clear hK K
                  refine wpAnyH_done (by kernel_rfl) (NoPanic.normal ?_) _
                  go_wp2_with fail
                  go_meet
                  rw [etw]
                  exact ⟨rfl, blk_alloc k0 _, blk_new' _ (by simp), (b0.alloc b0.size _).drew⟩
              · go_simp
                refine hK.out _ _ trivial (fun hHeld => ?_)
                clear hK K
                refine wpAnyH_ready (rs := [11]) (by kernel_rfl) (by simp) ?_
                refine AllReadyH.cons (o := ⟨_, _, _, _, _, _⟩) rfl (fun K hK => ?_) (AllReadyH.nil)
                go_simp
                refine (bit_any b7 3 (by omega) O.r7.1 O.r7.2 _).mono ?_
                rw [T3.out]
                rintro e w' ⟨rfl, rfl⟩
                refine hK.out _ _ trivial (fun hHeld => ?_)
                clear hK K
                refine wpAnyH_take (i := 12) (oi := ⟨_, _, _, _, _, _⟩) (v := ?_) rfl (by kernel_rfl) (by kernel_rfl) (by kernel_rfl) (fun _ _ _ h => h) (Or.inl ⟨by rfl, ?_⟩) (by assumption) ?_
                rotate_left
                · (intro w hSw; (try dsimp only at hSw); go_simp); with_reducible rfl
                simp only [Act.put, List.setIfInBounds_toArray, List.set_cons_zero, List.set_cons_succ]
                refine wpAnyH_take (i := 13) (oi := ⟨_, _, _, _, _, _⟩) (v := ?_) rfl (by kernel_rfl) (by kernel_rfl) (by kernel_rfl) (fun _ _ _ h => h) (Or.inl ⟨by rfl, ?_⟩) (by assumption) ?_
                rotate_left
                · (intro w hSw; (try dsimp only at hSw); go_simp); with_reducible rfl
                simp only [Act.put, List.setIfInBounds_toArray, List.set_cons_zero, List.set_cons_succ]
                refine wpAnyH_take (i := 14) (oi := ⟨_, _, _, _, _, _⟩) (v := ?_) rfl (by kernel_rfl) (by kernel_rfl) (by kernel_rfl) (fun _ _ _ h => h) (Or.inl ⟨by rfl, ?_⟩) (by assumption) ?_
                rotate_left
                · (intro w hSw; (try dsimp only at hSw); go_simp); with_reducible rfl
                simp only [Act.put, List.setIfInBounds_toArray, List.set_cons_zero, List.set_cons_succ]
                refine wpAnyH_ready (rs := [15]) (by kernel_rfl) (by simp) ?_
                refine AllReadyH.cons (o := ⟨_, _, _, _, _, _⟩) rfl (fun K hK => ?_) (AllReadyH.nil)
                go_simp
                refine (bit_any b7 2 (by omega) O.r7.1 O.r7.2 _).mono ?_
                rw [T2.out]
                rintro e w' ⟨rfl, rfl⟩
                refine hK.out _ _ trivial (fun hHeld => ?_)
                clear hK K
                refine wpAnyH_take (i := 16) (oi := ⟨_, _, _, _, _, _⟩) (v := ?_) rfl (by kernel_rfl) (by kernel_rfl) (by kernel_rfl) (fun _ _ _ h => h) (Or.inl ⟨by rfl, ?_⟩) (by assumption) ?_
                rotate_left
                · (intro w hSw; (try dsimp only at hSw); go_simp); with_reducible rfl
                simp only [Act.put, List.setIfInBounds_toArray, List.set_cons_zero, List.set_cons_succ]
                refine wpAnyH_take (i := 17) (oi := ⟨_, _, _, _, _, _⟩) (v := ?_) rfl (by kernel_rfl) (by kernel_rfl) (by kernel_rfl) (fun _ _ _ h => h) (Or.inl ⟨by rfl, ?_⟩) (by assumption) ?_
                rotate_left
                · (intro w hSw; (try dsimp only at hSw); go_simp); with_reducible rfl
                simp only [Act.put, List.setIfInBounds_toArray, List.set_cons_zero, List.set_cons_succ]
                refine wpAnyH_take (i := 18) (oi := ⟨_, _, _, _, _, _⟩) (v := ?_) rfl (by kernel_rfl) (by kernel_rfl) (by kernel_rfl) (fun _ _ _ h => h) (Or.inl ⟨by rfl, ?_⟩) (by assumption) ?_
                rotate_left
                · (intro w hSw; (try dsimp only at hSw); go_simp); with_reducible rfl
                simp only [Act.put, List.setIfInBounds_toArray, List.set_cons_zero, List.set_cons_succ]
                refine wpAnyH_ready (rs := [20]) (by kernel_rfl) (by simp) ?_
                refine AllReadyH.cons (o := ⟨_, _, _, _, _, _⟩) rfl (fun K hK => ?_) (AllReadyH.nil)
                go_simp
                refine hK.out _ _ trivial (fun hHeld => ?_)
                clear hK K
                refine wpAnyH_done (by kernel_rfl) (NoPanic.normal ?_) _
                go_wp2_with fail
                go_meet
                rw [etw]
                exact ⟨rfl, blk_alloc k0 _, blk_new' _ (by simp), (b0.alloc b0.size _).drew⟩
            · go_simp
              refine hK.out _ _ trivial (fun hHeld => ?_)
              clear hK K
              refine wpAnyH_ready (rs := [8]) (by kernel_rfl) (by simp) ?_
              refine AllReadyH.cons (o := ⟨_, _, _, _, _, _⟩) rfl (fun K hK => ?_) (AllReadyH.nil)
              go_simp
              refine (bit_any b6 3 (by omega) O.r6.1 O.r6.2 _).mono ?_
              rw [← HFO.out]
              rintro e w' ⟨rfl, rfl⟩
              refine hK.out _ _ trivial (fun hHeld => ?_)
              clear hK K
              refine wpAnyH_ready (rs := [11]) (by kernel_rfl) (by simp) ?_
              refine AllReadyH.cons (o := ⟨_, _, _, _, _, _⟩) rfl (fun K hK => ?_) (AllReadyH.nil)
              go_simp
              refine (bit_any b7 3 (by omega) O.r7.1 O.r7.2 _).mono ?_
              rw [T3.out]
              rintro e w' ⟨rfl, rfl⟩
              refine hK.out _ _ trivial (fun hHeld => ?_)
              clear hK K
              refine wpAnyH_take (i := 12) (oi := ⟨_, _, _, _, _, _⟩) (v := ?_) rfl (by kernel_rfl) (by kernel_rfl) (by kernel_rfl) (fun _ _ _ h => h) (Or.inl ⟨by rfl, ?_⟩) (by assumption) ?_
              rotate_left
              · (intro w hSw; (try dsimp only at hSw); go_simp); with_reducible rfl
              simp only [Act.put, List.setIfInBounds_toArray, List.set_cons_zero, List.set_cons_succ]
              refine wpAnyH_take (i := 13) (oi := ⟨_, _, _, _, _, _⟩) (v := ?_) rfl (by kernel_rfl) (by kernel_rfl) (by kernel_rfl) (fun _ _ _ h => h) (Or.inl ⟨by rfl, ?_⟩) (by assumption) ?_
              rotate_left
              · (intro w hSw; (try dsimp only at hSw); go_simp); with_reducible rfl
              simp only [Act.put, List.setIfInBounds_toArray, List.set_cons_zero, List.set_cons_succ]
              refine wpAnyH_take (i := 14) (oi := ⟨_, _, _, _, _, _⟩) (v := ?_) rfl (by kernel_rfl) (by kernel_rfl) (by kernel_rfl) (fun _ _ _ h => h) (Or.inl ⟨by rfl, ?_⟩) (by assumption) ?_
              rotate_left
              · (intro w hSw; (try dsimp only at hSw); go_simp); with_reducible rfl
              simp only [Act.put, List.setIfInBounds_toArray, List.set_cons_zero, List.set_cons_succ]
              refine wpAnyH_ready (rs := [15]) (by kernel_rfl) (by simp) ?_
              refine AllReadyH.cons (o := ⟨_, _, _, _, _, _⟩) rfl (fun K hK => ?_) (AllReadyH.nil)
              go_simp
              refine (bit_any b7 2 (by omega) O.r7.1 O.r7.2 _).mono ?_
              rw [T2.out]
              rintro e w' ⟨rfl, rfl⟩
              refine hK.out _ _ trivial (fun hHeld => ?_)
              clear hK K
              refine wpAnyH_take (i := 16) (oi := ⟨_, _, _, _, _, _⟩) (v := ?_) rfl (by kernel_rfl) (by kernel_rfl) (by kernel_rfl) (fun _ _ _ h => h) (Or.inl ⟨by rfl, ?_⟩) (by assumption) ?_
              rotate_left
              · (intro w hSw; (try dsimp only at hSw); go_simp); with_reducible rfl
              simp only [Act.put, List.setIfInBounds_toArray, List.set_cons_zero, List.set_cons_succ]
              refine wpAnyH_take (i := 17) (oi := ⟨_, _, _, _, _, _⟩) (v := ?_) rfl (by kernel_rfl) (by kernel_rfl) (by kernel_rfl) (fun _ _ _ h => h) (Or.inl ⟨by rfl, ?_⟩) (by assumption) ?_
              rotate_left
              · (intro w hSw; (try dsimp only at hSw); go_simp); with_reducible rfl
              simp only [Act.put, List.setIfInBounds_toArray, List.set_cons_zero, List.set_cons_succ]
              refine wpAnyH_take (i := 18) (oi := ⟨_, _, _, _, _, _⟩) (v := ?_) rfl (by kernel_rfl) (by kernel_rfl) (by kernel_rfl) (fun _ _ _ h => h) (Or.inl ⟨by rfl, ?_⟩) (by assumption) ?_
              rotate_left
              · (intro w hSw; (try dsimp only at hSw); go_simp); with_reducible rfl
              simp only [Act.put, List.setIfInBounds_toArray, List.set_cons_zero, List.set_cons_succ]
              refine wpAnyH_ready (rs := [20]) (by kernel_rfl) (by simp) ?_
              refine AllReadyH.cons (o := ⟨_, _, _, _, _, _⟩) rfl (fun K hK => ?_) (AllReadyH.nil)
              go_simp
              refine hK.out _ _ trivial (fun hHeld => ?_)
              clear hK K
              refine wpAnyH_done (by kernel_rfl) (NoPanic.normal ?_) _
              go_wp2_with fail
              go_meet
              rw [etw]
              exact ⟨rfl, blk_alloc k0 _, blk_new' _ (by simp), (b0.alloc b0.size _).drew⟩
          · go_simp
            refine hK.out _ _ trivial (fun hHeld => ?_)
            clear hK K
            refine wpAnyH_ready (rs := [5]) (by kernel_rfl) (by simp) ?_
            refine AllReadyH.cons (o := ⟨_, _, _, _, _, _⟩) rfl (fun K hK => ?_) (AllReadyH.nil)
            go_simp
            refine (bit_any b6 1 (by omega) O.r6.1 O.r6.2 _).mono ?_
            rw [← HBA.out]
            rintro e w' ⟨rfl, rfl⟩
            refine hK.out _ _ trivial (fun hHeld => ?_)
            clear hK K
            refine wpAnyH_ready (rs := [8]) (by kernel_rfl) (by simp) ?_
            refine AllReadyH.cons (o := ⟨_, _, _, _, _, _⟩) rfl (fun K hK => ?_) (AllReadyH.nil)
            go_simp
            refine (bit_any b6 3 (by omega) O.r6.1 O.r6.2 _).mono ?_
            rw [← HFO.out]
            rintro e w' ⟨rfl, rfl⟩
            refine hK.out _ _ trivial (fun hHeld => ?_)
            clear hK K
            refine wpAnyH_ready (rs := [11]) (by kernel_rfl) (by simp) ?_
            refine AllReadyH.cons (o := ⟨_, _, _, _, _, _⟩) rfl (fun K hK => ?_) (AllReadyH.nil)
            go_simp
            refine (bit_any b7 3 (by omega) O.r7.1 O.r7.2 _).mono ?_
            rw [T3.out]
            rintro e w' ⟨rfl, rfl⟩
            refine hK.out _ _ trivial (fun hHeld => ?_)
            clear hK K
            refine wpAnyH_take (i := 12) (oi := ⟨_, _, _, _, _, _⟩) (v := ?_) rfl (by kernel_rfl) (by kernel_rfl) (by kernel_rfl) (fun _ _ _ h => h) (Or.inl ⟨by rfl, ?_⟩) (by assumption) ?_
            rotate_left
            · (intro w hSw; (try dsimp only at hSw); go_simp); with_reducible rfl
            simp only [Act.put, List.setIfInBounds_toArray, List.set_cons_zero, List.set_cons_succ]
            refine wpAnyH_take (i := 13) (oi := ⟨_, _, _, _, _, _⟩) (v := ?_) rfl (by kernel_rfl) (by kernel_rfl) (by kernel_rfl) (fun _ _ _ h => h) (Or.inl ⟨by rfl, ?_⟩) (by assumption) ?_
            rotate_left
            · (intro w hSw; (try dsimp only at hSw); go_simp); with_reducible rfl
            simp only [Act.put, List.setIfInBounds_toArray, List.set_cons_zero, List.set_cons_succ]
            refine wpAnyH_take (i := 14) (oi := ⟨_, _, _, _, _, _⟩) (v := ?_) rfl (by kernel_rfl) (by kernel_rfl) (by kernel_rfl) (fun _ _ _ h => h) (Or.inl ⟨by rfl, ?_⟩) (by assumption) ?_
            rotate_left
            · (intro w hSw; (try dsimp only at hSw); go_simp); with_reducible rfl
            simp only [Act.put, List.setIfInBounds_toArray, List.set_cons_zero, List.set_cons_succ]
            refine wpAnyH_ready (rs := [15]) (by kernel_rfl) (by simp) ?_
            refine AllReadyH.cons (o := ⟨_, _, _, _, _, _⟩) rfl (fun K hK => ?_) (AllReadyH.nil)
            go_simp
            refine (bit_any b7 2 (by omega) O.r7.1 O.r7.2 _).mono ?_
            rw [T2.out]
            rintro e w' ⟨rfl, rfl⟩
            refine hK.out _ _ trivial (fun hHeld => ?_)
            clear hK K
            refine wpAnyH_take (i := 16) (oi := ⟨_, _, _, _, _, _⟩) (v := ?_) rfl (by kernel_rfl) (by kernel_rfl) (by kernel_rfl) (fun _ _ _ h => h) (Or.inl ⟨by rfl, ?_⟩) (by assumption) ?_
            rotate_left
            · (intro w hSw; (try dsimp only at hSw); go_simp); with_reducible rfl
            simp only [Act.put, List.setIfInBounds_toArray, List.set_cons_zero, List.set_cons_succ]
            refine wpAnyH_take (i := 17) (oi := ⟨_, _, _, _, _, _⟩) (v := ?_) rfl (by kernel_rfl) (by kernel_rfl) (by kernel_rfl) (fun _ _ _ h => h) (Or.inl ⟨by rfl, ?_⟩) (by assumption) ?_
            rotate_left
            · (intro w hSw; (try dsimp only at hSw); go_simp); with_reducible rfl
            simp only [Act.put, List.setIfInBounds_toArray, List.set_cons_zero, List.set_cons_succ]
            refine wpAnyH_take (i := 18) (oi := ⟨_, _, _, _, _, _⟩) (v := ?_) rfl (by kernel_rfl) (by kernel_rfl) (by kernel_rfl) (fun _ _ _ h => h) (Or.inl ⟨by rfl, ?_⟩) (by assumption) ?_
            rotate_left
            · (intro w hSw; (try dsimp only at hSw); go_simp); with_reducible rfl
            simp only [Act.put, List.setIfInBounds_toArray, List.set_cons_zero, List.set_cons_succ]
            refine wpAnyH_ready (rs := [20]) (by kernel_rfl) (by simp) ?_
            refine AllReadyH.cons (o := ⟨_, _, _, _, _, _⟩) rfl (fun K hK => ?_) (AllReadyH.nil)
            go_simp
            refine hK.out _ _ trivial (fun hHeld => ?_)
            clear hK K
            refine wpAnyH_done (by kernel_rfl) (NoPanic.normal ?_) _
            go_wp2_with fail
            go_meet
            rw [etw]
            exact ⟨rfl, blk_alloc k0 _, blk_new' _ (by simp), (b0.alloc b0.size _).drew⟩
        · go_simp
          refine hK.out _ _ trivial (fun hHeld => ?_)
          clear hK K
          refine wpAnyH_ready (rs := [2]) (by kernel_rfl) (by simp) ?_
          refine AllReadyH.cons (o := ⟨_, _, _, _, _, _⟩) rfl (fun K hK => ?_) (AllReadyH.nil)
          go_simp
          refine (bit_any b6 0 (by omega) O.r6.1 O.r6.2 _).mono ?_
          rw [← HVE.out]
          rintro e w' ⟨rfl, rfl⟩
          refine hK.out _ _ trivial (fun hHeld => ?_)
          clear hK K
          refine wpAnyH_ready (rs := [5]) (by kernel_rfl) (by simp) ?_
          refine AllReadyH.cons (o := ⟨_, _, _, _, _, _⟩) rfl (fun K hK => ?_) (AllReadyH.nil)
          go_simp
          refine (bit_any b6 1 (by omega) O.r6.1 O.r6.2 _).mono ?_
          rw [← HBA.out]
          rintro e w' ⟨rfl, rfl⟩
          refine hK.out _ _ trivial (fun hHeld => ?_)
          clear hK K
          refine wpAnyH_ready (rs := [8]) (by kernel_rfl) (by simp) ?_
          refine AllReadyH.cons (o := ⟨_, _, _, _, _, _⟩) rfl (fun K hK => ?_) (AllReadyH.nil)
          go_simp
          refine (bit_any b6 3 (by omega) O.r6.1 O.r6.2 _).mono ?_
          rw [← HFO.out]
          rintro e w' ⟨rfl, rfl⟩
          refine hK.out _ _ trivial (fun hHeld => ?_)
          clear hK K
          refine wpAnyH_ready (rs := [11]) (by kernel_rfl) (by simp) ?_
          refine AllReadyH.cons (o := ⟨_, _, _, _, _, _⟩) rfl (fun K hK => ?_) (AllReadyH.nil)
          go_simp
          refine (bit_any b7 3 (by omega) O.r7.1 O.r7.2 _).mono ?_
          rw [T3.out]
          rintro e w' ⟨rfl, rfl⟩
          refine hK.out _ _ trivial (fun hHeld => ?_)
          clear hK K
          refine wpAnyH_take (i := 12) (oi := ⟨_, _, _, _, _, _⟩) (v := ?_) rfl (by kernel_rfl) (by kernel_rfl) (by kernel_rfl) (fun _ _ _ h => h) (Or.inl ⟨by rfl, ?_⟩) (by assumption) ?_
          rotate_left
          · (intro w hSw; (try dsimp only at hSw); go_simp); with_reducible rfl
          simp only [Act.put, List.setIfInBounds_toArray, List.set_cons_zero, List.set_cons_succ]
          refine wpAnyH_take (i := 13) (oi := ⟨_, _, _, _, _, _⟩) (v := ?_) rfl (by kernel_rfl) (by kernel_rfl) (by kernel_rfl) (fun _ _ _ h => h) (Or.inl ⟨by rfl, ?_⟩) (by assumption) ?_
          rotate_left
          · (intro w hSw; (try dsimp only at hSw); go_simp); with_reducible rfl
          simp only [Act.put, List.setIfInBounds_toArray, List.set_cons_zero, List.set_cons_succ]
          refine wpAnyH_take (i := 14) (oi := ⟨_, _, _, _, _, _⟩) (v := ?_) rfl (by kernel_rfl) (by kernel_rfl) (by kernel_rfl) (fun _ _ _ h => h) (Or.inl ⟨by rfl, ?_⟩) (by assumption) ?_
          rotate_left
          · (intro w hSw; (try dsimp only at hSw); go_simp); with_reducible rfl
          simp only [Act.put, List.setIfInBounds_toArray, List.set_cons_zero, List.set_cons_succ]
          refine wpAnyH_ready (rs := [15]) (by kernel_rfl) (by simp) ?_
          refine AllReadyH.cons (o := ⟨_, _, _, _, _, _⟩) rfl (fun K hK => ?_) (AllReadyH.nil)
          go_simp
          refine (bit_any b7 2 (by omega) O.r7.1 O.r7.2 _).mono ?_
          rw [T2.out]
          rintro e w' ⟨rfl, rfl⟩
          refine hK.out _ _ trivial (fun hHeld => ?_)
          clear hK K
          refine wpAnyH_take (i := 16) (oi := ⟨_, _, _, _, _, _⟩) (v := ?_) rfl (by kernel_rfl) (by kernel_rfl) (by kernel_rfl) (fun _ _ _ h => h) (Or.inl ⟨by rfl, ?_⟩) (by assumption) ?_
          rotate_left
          · (intro w hSw; (try dsimp only at hSw); go_simp); with_reducible rfl
          simp only [Act.put, List.setIfInBounds_toArray, List.set_cons_zero, List.set_cons_succ]
          refine wpAnyH_take (i := 17) (oi := ⟨_, _, _, _, _, _⟩) (v := ?_) rfl (by kernel_rfl) (by kernel_rfl) (by kernel_rfl) (fun _ _ _ h => h) (Or.inl ⟨by rfl, ?_⟩) (by assumption) ?_
          rotate_left
          · (intro w hSw; (try dsimp only at hSw); go_simp); with_reducible rfl
          simp only [Act.put, List.setIfInBounds_toArray, List.set_cons_zero, List.set_cons_succ]
          refine wpAnyH_take (i := 18) (oi := ⟨_, _, _, _, _, _⟩) (v := ?_) rfl (by kernel_rfl) (by kernel_rfl) (by kernel_rfl) (fun _ _ _ h => h) (Or.inl ⟨by rfl, ?_⟩) (by assumption) ?_
          rotate_left
          · (intro w hSw; (try dsimp only at hSw); go_simp); with_reducible rfl
          simp only [Act.put, List.setIfInBounds_toArray, List.set_cons_zero, List.set_cons_succ]
          refine wpAnyH_ready (rs := [20]) (by kernel_rfl) (by simp) ?_
          refine AllReadyH.cons (o := ⟨_, _, _, _, _, _⟩) rfl (fun K hK => ?_) (AllReadyH.nil)
          go_simp
          refine hK.out _ _ trivial (fun hHeld => ?_)
          clear hK K
          refine wpAnyH_done (by kernel_rfl) (NoPanic.normal ?_) _
          go_wp2_with fail
          go_meet
          rw [etw]
          exact ⟨rfl, blk_alloc k0 _, blk_new' _ (by simp), (b0.alloc b0.size _).drew⟩
      · have T2 := hidI t2; clear t2
        have etw : tw = false := by rw [HTW.out]; unfold twB; rw [T3.out, T2.out]; simp
        refine wp_region_noPanic ?_
        refine wp_region_held_drew (S := (fun _ => True)) (by kernel_rfl) trivial (fun hHeld => ?_)
        refine wpAnyH_take (i := 0) (oi := ⟨_, _, _, _, _, _⟩) (v := ?_) rfl (by kernel_rfl) (by kernel_rfl) (by kernel_rfl) (fun _ _ _ h => h) (Or.inl ⟨by rfl, ?_⟩) (by assumption) ?_
        rotate_left
        · (intro w hSw; (try dsimp only at hSw); go_simp); with_reducible rfl
        simp only [Act.put, List.setIfInBounds_toArray, List.set_cons_zero, List.set_cons_succ]
        refine wpAnyH_take (i := 1) (oi := ⟨_, _, _, _, _, _⟩) (v := ?_) rfl (by kernel_rfl) (by kernel_rfl) (by kernel_rfl) (fun _ _ _ h => h) (Or.inl ⟨by rfl, ?_⟩) (by assumption) ?_
        rotate_left
        · (intro w hSw; (try dsimp only at hSw); go_simp); with_reducible rfl
        simp only [Act.put, List.setIfInBounds_toArray, List.set_cons_zero, List.set_cons_succ]
        refine wpAnyH_take (i := 3) (oi := ⟨_, _, _, _, _, _⟩) (v := ?_) rfl (by kernel_rfl) (by kernel_rfl) (by kernel_rfl) (fun _ _ _ h => h) (Or.inl ⟨by rfl, ?_⟩) (by assumption) ?_
        rotate_left
        · (intro w hSw; (try dsimp only at hSw); go_simp); with_reducible rfl
        simp only [Act.put, List.setIfInBounds_toArray, List.set_cons_zero, List.set_cons_succ]
        refine wpAnyH_take (i := 4) (oi := ⟨_, _, _, _, _, _⟩) (v := ?_) rfl (by kernel_rfl) (by kernel_rfl) (by kernel_rfl) (fun _ _ _ h => h) (Or.inl ⟨by rfl, ?_⟩) (by assumption) ?_
        rotate_left
        · (intro w hSw; (try dsimp only at hSw); go_simp); with_reducible rfl
        simp only [Act.put, List.setIfInBounds_toArray, List.set_cons_zero, List.set_cons_succ]
        refine wpAnyH_take (i := 6) (oi := ⟨_, _, _, _, _, _⟩) (v := ?_) rfl (by kernel_rfl) (by kernel_rfl) (by kernel_rfl) (fun _ _ _ h => h) (Or.inl ⟨by rfl, ?_⟩) (by assumption) ?_
        rotate_left
        · (intro w hSw; (try dsimp only at hSw); go_simp); with_reducible rfl
        simp only [Act.put, List.setIfInBounds_toArray, List.set_cons_zero, List.set_cons_succ]
        refine wpAnyH_take (i := 7) (oi := ⟨_, _, _, _, _, _⟩) (v := ?_) rfl (by kernel_rfl) (by kernel_rfl) (by kernel_rfl) (fun _ _ _ h => h) (Or.inl ⟨by rfl, ?_⟩) (by assumption) ?_
        rotate_left
        · (intro w hSw; (try dsimp only at hSw); go_simp); with_reducible rfl
        simp only [Act.put, List.setIfInBounds_toArray, List.set_cons_zero, List.set_cons_succ]
        refine wpAnyH_take (i := 9) (oi := ⟨_, _, _, _, _, _⟩) (v := ?_) rfl (by kernel_rfl) (by kernel_rfl) (by kernel_rfl) (fun _ _ _ h => h) (Or.inl ⟨by rfl, ?_⟩) (by assumption) ?_
        rotate_left
        · (intro w hSw; (try dsimp only at hSw); go_simp); with_reducible rfl
        simp only [Act.put, List.setIfInBounds_toArray, List.set_cons_zero, List.set_cons_succ]
        refine wpAnyH_take (i := 10) (oi := ⟨_, _, _, _, _, _⟩) (v := ?_) rfl (by kernel_rfl) (by kernel_rfl) (by kernel_rfl) (fun _ _ _ h => h) (Or.inl ⟨by rfl, ?_⟩) (by assumption) ?_
        rotate_left
        · (intro w hSw; (try dsimp only at hSw); go_simp); with_reducible rfl
        simp only [Act.put, List.setIfInBounds_toArray, List.set_cons_zero, List.set_cons_succ]
        refine wpAnyH_ready (rs := [2, 19]) (by kernel_rfl) (by simp) ?_
        refine AllReadyH.cons (o := ⟨_, _, _, _, _, _⟩) rfl (fun K hK => ?_) (AllReadyH.cons (o := ⟨_, _, _, _, _, _⟩) rfl (fun K hK => ?_) (AllReadyH.nil))
        · go_simp
          refine (bit_any b6 0 (by omega) O.r6.1 O.r6.2 _).mono ?_
          rw [← HVE.out]
          rintro e w' ⟨rfl, rfl⟩
          refine hK.out _ _ trivial (fun hHeld => ?_)
          clear hK K
          refine wpAnyH_ready (rs := [5, 19]) (by kernel_rfl) (by simp) ?_
          refine AllReadyH.cons (o := ⟨_, _, _, _, _, _⟩) rfl (fun K hK => ?_) (AllReadyH.cons (o := ⟨_, _, _, _, _, _⟩) rfl (fun K hK => ?_) (AllReadyH.nil))
          · go_simp
            refine (bit_any b6 1 (by omega) O.r6.1 O.r6.2 _).mono ?_
            rw [← HBA.out]
            rintro e w' ⟨rfl, rfl⟩
            refine hK.out _ _ trivial (fun hHeld => ?_)
            clear hK K
            refine wpAnyH_ready (rs := [8, 19]) (by kernel_rfl) (by simp) ?_
            refine AllReadyH.cons (o := ⟨_, _, _, _, _, _⟩) rfl (fun K hK => ?_) (AllReadyH.cons (o := ⟨_, _, _, _, _, _⟩) rfl (fun K hK => ?_) (AllReadyH.nil))
            · go_simp
              refine (bit_any b6 3 (by omega) O.r6.1 O.r6.2 _).mono ?_
              rw [← HFO.out]
              rintro e w' ⟨rfl, rfl⟩
              refine hK.out _ _ trivial (fun hHeld => ?_)
              clear hK K
              refine wpAnyH_ready (rs := [11, 19]) (by kernel_rfl) (by simp) ?_
              refine AllReadyH.cons (o := ⟨_, _, _, _, _, _⟩) rfl (fun K hK => ?_) (AllReadyH.cons (o := ⟨_, _, _, _, _, _⟩) rfl (fun K hK => ?_) (AllReadyH.nil))
              · go_simp
                refine (bit_any b7 3 (by omega) O.r7.1 O.r7.2 _).mono ?_
                rw [T3.out]
                rintro e w' ⟨rfl, rfl⟩
                refine hK.out _ _ trivial (fun hHeld => ?_)
                clear hK K
                refine wpAnyH_take (i := 12) (oi := ⟨_, _, _, _, _, _⟩) (v := ?_) rfl (by kernel_rfl) (by kernel_rfl) (by kernel_rfl) (fun _ _ _ h => h) (Or.inl ⟨by rfl, ?_⟩) (by assumption) ?_
                rotate_left
                · (intro w hSw; (try dsimp only at hSw); go_simp); with_reducible rfl
                simp only [Act.put, List.setIfInBounds_toArray, List.set_cons_zero, List.set_cons_succ]
                refine wpAnyH_take (i := 13) (oi := ⟨_, _, _, _, _, _⟩) (v := ?_) rfl (by kernel_rfl) (by kernel_rfl) (by kernel_rfl) (fun _ _ _ h => h) (Or.inl ⟨by rfl, ?_⟩) (by assumption) ?_
                rotate_left
                · (intro w hSw; (try dsimp only at hSw); go_simp); with_reducible rfl
                simp only [Act.put, List.setIfInBounds_toArray, List.set_cons_zero, List.set_cons_succ]
                refine wpAnyH_take (i := 14) (oi := ⟨_, _, _, _, _, _⟩) (v := ?_) rfl (by kernel_rfl) (by kernel_rfl) (by kernel_rfl) (fun _ _ _ h => h) (Or.inl ⟨by rfl, ?_⟩) (by assumption) ?_
                rotate_left
                · (intro w hSw; (try dsimp only at hSw); go_simp); with_reducible rfl
                simp only [Act.put, List.setIfInBounds_toArray, List.set_cons_zero, List.set_cons_succ]
                refine wpAnyH_ready (rs := [15, 19]) (by kernel_rfl) (by simp) ?_
                refine AllReadyH.cons (o := ⟨_, _, _, _, _, _⟩) rfl (fun K hK => ?_) (AllReadyH.cons (o := ⟨_, _, _, _, _, _⟩) rfl (fun K hK => ?_) (AllReadyH.nil))
                · go_simp
                  refine (bit_any b7 2 (by omega) O.r7.1 O.r7.2 _).mono ?_
                  rw [T2.out]
                  rintro e w' ⟨rfl, rfl⟩
                  refine hK.out _ _ trivial (fun hHeld => ?_)
                  clear hK K
                  refine wpAnyH_take (i := 16) (oi := ⟨_, _, _, _, _, _⟩) (v := ?_) rfl (by kernel_rfl) (by kernel_rfl) (by kernel_rfl) (fun _ _ _ h => h) (Or.inl ⟨by rfl, ?_⟩) (by assumption) ?_
                  rotate_left
                  · (intro w hSw; (try dsimp only at hSw); go_simp); with_reducible rfl
                  simp only [Act.put, List.setIfInBounds_toArray, List.set_cons_zero, List.set_cons_succ]
                  refine wpAnyH_take (i := 17) (oi := ⟨_, _, _, _, _, _⟩) (v := ?_) rfl (by kernel_rfl) (by kernel_rfl) (by kernel_rfl) (fun _ _ _ h => h) (Or.inl ⟨by rfl, ?_⟩) (by assumption) ?_
                  rotate_left
                  · (intro w hSw; (try dsimp only at hSw); go_simp); with_reducible rfl
                  simp only [Act.put, List.setIfInBounds_toArray, List.set_cons_zero, List.set_cons_succ]
                  refine wpAnyH_take (i := 18) (oi := ⟨_, _, _, _, _, _⟩) (v := ?_) rfl (by kernel_rfl) (by kernel_rfl) (by kernel_rfl) (fun _ _ _ h => h) (Or.inl ⟨by rfl, ?_⟩) (by assumption) ?_
                  rotate_left
                  · (intro w hSw; (try dsimp only at hSw); go_simp); with_reducible rfl
                  simp only [Act.put, List.setIfInBounds_toArray, List.set_cons_zero, List.set_cons_succ]
                  refine wpAnyH_ready (rs := [19]) (by kernel_rfl) (by simp) ?_
                  refine AllReadyH.cons (o := ⟨_, _, _, _, _, _⟩) rfl (fun K hK => ?_) (AllReadyH.nil)
                  go_simp
                  refine hK.out _ _ trivial (fun hHeld => ?_)
                  clear hK K
                  refine wpAnyH_ready (rs := [20]) (by kernel_rfl) (by simp) ?_
                  refine AllReadyH.cons (o := ⟨_, _, _, _, _, _⟩) rfl (fun K hK => ?_) (AllReadyH.nil)
                  go_simp
                  refine hK.out _ _ trivial (fun hHeld => ?_)
                  clear hK K
                  refine wpAnyH_done (by kernel_rfl) (NoPanic.normal ?_) _
                  go_wp2_with fail
                  go_meet
                  rw [etw]
                  exact ⟨rfl, blk_alloc k0 _, blk_new' _ (by simp), (b0.alloc b0.size _).drew⟩
                · go_simp
                  refine hK.out _ _ trivial (fun hHeld => ?_)
                  clear hK K
                  refine wpAnyH_ready (rs := [15]) (by kernel_rfl) (by simp) ?_
                  refine AllReadyH.cons (o := ⟨_, _, _, _, _, _⟩) rfl (fun K hK => ?_) (AllReadyH.nil)
                  go_simp
                  refine (bit_any b7 2 (by omega) O.r7.1 O.r7.2 _).mono ?_
                  rw [T2.out]
                  rintro e w' ⟨rfl, rfl⟩
                  refine hK.out _ _ trivial (fun hHeld => ?_)
                  clear hK K
                  refine wpAnyH_take (i := 16) (oi := ⟨_, _, _, _, _, _⟩) (v := ?_) rfl (by kernel_rfl) (by kernel_rfl) (by kernel_rfl) (fun _ _ _ h => h) (Or.inl ⟨by rfl, ?_⟩) (by assumption) ?_
                  rotate_left
                  · (intro w hSw; (try dsimp only at hSw); go_simp); with_reducible rfl
                  simp only [Act.put, List.setIfInBounds_toArray, List.set_cons_zero, List.set_cons_succ]
                  refine wpAnyH_take (i := 17) (oi := ⟨_, _, _, _, _, _⟩) (v := ?_) rfl (by kernel_rfl) (by kernel_rfl) (by kernel_rfl) (fun _ _ _ h => h) (Or.inl ⟨by rfl, ?_⟩) (by assumption) ?_
                  rotate_left
                  · (intro w hSw; (try dsimp only at hSw); go_simp); with_reducible rfl
                  simp only [Act.put, List.setIfInBounds_toArray, List.set_cons_zero, List.set_cons_succ]
                  refine wpAnyH_take (i := 18) (oi := ⟨_, _, _, _, _, _⟩) (v := ?_) rfl (by kernel_rfl) (by kernel_rfl) (by kernel_rfl) (fun _ _ _ h => h) (Or.inl ⟨by rfl, ?_⟩) (by assumption) ?_
                  rotate_left
                  · (intro w hSw; (try dsimp only at hSw); go_simp); with_reducible rfl
                  simp only [Act.put, List.setIfInBounds_toArray, List.set_cons_zero, List.set_cons_succ]
                  refine wpAnyH_ready (rs := [20]) (by kernel_rfl) (by simp) ?_
                  refine AllReadyH.cons (o := ⟨_, _, _, _, _, _⟩) rfl (fun K hK => ?_) (AllReadyH.nil)
                  go_simp
                  refine hK.out _ _ trivial (fun hHeld => ?_)
                  clear hK K
                  refine wpAnyH_done (by kernel_rfl) (NoPanic.normal ?_) _
                  go_wp2_with fail
                  go_meet
                  rw [etw]
                  exact ⟨rfl, blk_alloc k0 _, blk_new' _ (by simp), (b0.alloc b0.size _).drew⟩
              · go_simp
                refine hK.out _ _ trivial (fun hHeld => ?_)
                clear hK K
                refine wpAnyH_ready (rs := [11]) (by kernel_rfl) (by simp) ?_
                refine AllReadyH.cons (o := ⟨_, _, _, _, _, _⟩) rfl (fun K hK => ?_) (AllReadyH.nil)
                go_simp
                refine (bit_any b7 3 (by omega) O.r7.1 O.r7.2 _).mono ?_
                rw [T3.out]
                rintro e w' ⟨rfl, rfl⟩
                refine hK.out _ _ trivial (fun hHeld => ?_)
                clear hK K
                refine wpAnyH_take (i := 12) (oi := ⟨_, _, _, _, _, _⟩) (v := ?_) rfl (by kernel_rfl) (by kernel_rfl) (by kernel_rfl) (fun _ _ _ h => h) (Or.inl ⟨by rfl, ?_⟩) (by assumption) ?_
                rotate_left
                · (intro w hSw; (try dsimp only at hSw); go_simp); with_reducible rfl
                simp only [Act.put, List.setIfInBounds_toArray, List.set_cons_zero, List.set_cons_succ]
                refine wpAnyH_take (i := 13) (oi := ⟨_, _, _, _, _, _⟩) (v := ?_) rfl (by kernel_rfl) (by kernel_rfl) (by kernel_rfl) (fun _ _ _ h => h) (Or.inl ⟨by rfl, ?_⟩) (by assumption) ?_
                rotate_left
                · (intro w hSw; (try dsimp only at hSw); go_simp); with_reducible rfl
                simp only [Act.put, List.setIfInBounds_toArray, List.set_cons_zero, List.set_cons_succ]
                refine wpAnyH_take (i := 14) (oi := ⟨_, _, _, _, _, _⟩) (v := ?_) rfl (by kernel_rfl) (by kernel_rfl) (by kernel_rfl) (fun _ _ _ h => h) (Or.inl ⟨by rfl, ?_⟩) (by assumption) ?_
                rotate_left
                · (intro w hSw; (try dsimp only at hSw); go_simp); with_reducible rfl
                simp only [Act.put, List.setIfInBounds_toArray, List.set_cons_zero, List.set_cons_succ]
                refine wpAnyH_ready (rs := [15]) (by kernel_rfl) (by simp) ?_
                refine AllReadyH.cons (o := ⟨_, _, _, _, _, _⟩) rfl (fun K hK => ?_) (AllReadyH.nil)
                go_simp
                refine (bit_any b7 2 (by omega) O.r7.1 O.r7.2 _).mono ?_
                rw [T2.out]
                rintro e w' ⟨rfl, rfl⟩
                refine hK.out _ _ trivial (fun hHeld => ?_)
                clear hK K
                refine wpAnyH_take (i := 16) (oi := ⟨_, _, _, _, _, _⟩) (v := ?_) rfl (by kernel_rfl) (by kernel_rfl) (by kernel_rfl) (fun _ _ _ h => h) (Or.inl ⟨by rfl, ?_⟩) (by assumption) ?_
                rotate_left
                · (intro w hSw; (try dsimp only at hSw); go_simp); with_reducible rfl
                simp only [Act.put, List.setIfInBounds_toArray, List.set_cons_zero, List.set_cons_succ]
                refine wpAnyH_take (i := 17) (oi := ⟨_, _, _, _, _, _⟩) (v := ?_) rfl (by kernel_rfl) (by kernel_rfl) (by kernel_rfl) (fun _ _ _ h => h) (Or.inl ⟨by rfl, ?_⟩) (by assumption) ?_
                rotate_left
                · (intro w hSw; (try dsimp only at hSw); go_simp); with_reducible rfl
                simp only [Act.put, List.setIfInBounds_toArray, List.set_cons_zero, List.set_cons_succ]
                refine wpAnyH_take (i := 18) (oi := ⟨_, _, _, _, _, _⟩) (v := ?_) rfl (by kernel_rfl) (by kernel_rfl) (by kernel_rfl) (fun _ _ _ h => h) (Or.inl ⟨by rfl, ?_⟩) (by assumption) ?_
                rotate_left
                · (intro w hSw; (try dsimp only at hSw); go_simp); with_reducible rfl
                simp only [Act.put, List.setIfInBounds_toArray, List.set_cons_zero, List.set_cons_succ]
                refine wpAnyH_ready (rs := [20]) (by kernel_rfl) (by simp) ?_
                refine AllReadyH.cons (o := ⟨_, _, _, _, _, _⟩) rfl (fun K hK => ?_) (AllReadyH.nil)
                go_simp
                refine hK.out _ _ trivial (fun hHeld => ?_)
                clear hK K
                refine wpAnyH_done (by kernel_rfl) (NoPanic.normal ?_) _
                go_wp2_with fail
                go_meet
                rw [etw]
                exact ⟨rfl, blk_alloc k0 _, blk_new' _ (by simp), (b0.alloc b0.size _).drew⟩
            · go_simp
              refine hK.out _ _ trivial (fun hHeld => ?_)
              clear hK K
              refine wpAnyH_ready (rs := [8]) (by kernel_rfl) (by simp) ?_
              refine AllReadyH.cons (o := ⟨_, _, _, _, _, _⟩) rfl (fun K hK => ?_) (AllReadyH.nil)
              go_simp
              refine (bit_any b6 3 (by omega) O.r6.1 O.r6.2 _).mono ?_
              rw [← HFO.out]
              rintro e w' ⟨rfl, rfl⟩
              refine hK.out _ _ trivial (fun hHeld => ?_)
              clear hK K
              refine wpAnyH_ready (rs := [11]) (by kernel_rfl) (by simp) ?_
              refine AllReadyH.cons (o := ⟨_, _, _, _, _, _⟩) rfl (fun K hK => ?_) (AllReadyH.nil)
              go_simp
              refine (bit_any b7 3 (by omega) O.r7.1 O.r7.2 _).mono ?_
              rw [T3.out]
              rintro e w' ⟨rfl, rfl⟩
              refine hK.out _ _ trivial (fun hHeld => ?_)
              clear hK K
              refine wpAnyH_take (i := 12) (oi := ⟨_, _, _, _, _, _⟩) (v := ?_) rfl (by kernel_rfl) (by kernel_rfl) (by kernel_rfl) (fun _ _ _ h => h) (Or.inl ⟨by rfl, ?_⟩) (by assumption) ?_
              rotate_left
              · (intro w hSw; (try dsimp only at hSw); go_simp); with_reducible rfl
              simp only [Act.put, List.setIfInBounds_toArray, List.set_cons_zero, List.set_cons_succ]
              refine wpAnyH_take (i := 13) (oi := ⟨_, _, _, _, _, _⟩) (v := ?_) rfl (by kernel_rfl) (by kernel_rfl) (by kernel_rfl) (fun _ _ _ h => h) (Or.inl ⟨by rfl, ?_⟩) (by assumption) ?_
              rotate_left
              · (intro w hSw; (try dsimp only at hSw); go_simp); with_reducible rfl
              simp only [Act.put, List.setIfInBounds_toArray, List.set_cons_zero, List.set_cons_succ]
              refine wpAnyH_take (i := 14) (oi := ⟨_, _, _, _, _, _⟩) (v := ?_) rfl (by kernel_rfl) (by kernel_rfl) (by kernel_rfl) (fun _ _ _ h => h) (Or.inl ⟨by rfl, ?_⟩) (by assumption) ?_
              rotate_left
              · (intro w hSw; (try dsimp only at hSw); go_simp); with_reducible rfl
              simp only [Act.put, List.setIfInBounds_toArray, List.set_cons_zero, List.set_cons_succ]
              refine wpAnyH_ready (rs := [15]) (by kernel_rfl) (by simp) ?_
              refine AllReadyH.cons (o := ⟨_, _, _, _, _, _⟩) rfl (fun K hK => ?_) (AllReadyH.nil)
              go_simp
              refine (bit_any b7 2 (by omega) O.r7.1 O.r7.2 _).mono ?_
              rw [T2.out]
              rintro e w' ⟨rfl, rfl⟩
              refine hK.out _ _ trivial (fun hHeld => ?_)
              clear hK K
              refine wpAnyH_take (i := 16) (oi := ⟨_, _, _, _, _, _⟩) (v := ?_) rfl (by kernel_rfl) (by kernel_rfl) (by kernel_rfl) (fun _ _ _ h => h) (Or.inl ⟨by rfl, ?_⟩) (by assumption) ?_
              rotate_left
              · (intro w hSw; (try dsimp only at hSw); go_simp); with_reducible rfl
              simp only [Act.put, List.setIfInBounds_toArray, List.set_cons_zero, List.set_cons_succ]
              refine wpAnyH_take (i := 17) (oi := ⟨_, _, _, _, _, _⟩) (v := ?_) rfl (by kernel_rfl) (by kernel_rfl) (by kernel_rfl) (fun _ _ _ h => h) (Or.inl ⟨by rfl, ?_⟩) (by assumption) ?_
              rotate_left
              · (intro w hSw; (try dsimp only at hSw); go_simp); with_reducible rfl
              simp only [Act.put, List.setIfInBounds_toArray, List.set_cons_zero, List.set_cons_succ]
              refine wpAnyH_take (i := 18) (oi := ⟨_, _, _, _, _, _⟩) (v := ?_) rfl (by kernel_rfl) (by kernel_rfl) (by kernel_rfl) (fun _ _ _ h => h) (Or.inl ⟨by rfl, ?_⟩) (by assumption) ?_
              rotate_left
              · (intro w hSw; (try dsimp only at hSw); go_simp); with_reducible rfl
              simp only [Act.put, List.setIfInBounds_toArray, List.set_cons_zero, List.set_cons_succ]
              refine wpAnyH_ready (rs := [20]) (by kernel_rfl) (by simp) ?_
              refine AllReadyH.cons (o := ⟨_, _, _, _, _, _⟩) rfl (fun K hK => ?_) (AllReadyH.nil)
              go_simp
              refine hK.out _ _ trivial (fun hHeld => ?_)
              clear hK K
              refine wpAnyH_done (by kernel_rfl) (NoPanic.normal ?_) _
              go_wp2_with fail
              go_meet
              rw [etw]
              exact ⟨rfl, blk_alloc k0 _, blk_new' _ (by simp), (b0.alloc b0.size _).drew⟩
          · go_simp
            refine hK.out _ _ trivial (fun hHeld => ?_)
            clear hK K
            refine wpAnyH_ready (rs := [5]) (by kernel_rfl) (by simp) ?_
            refine AllReadyH.cons (o := ⟨_, _, _, _, _, _⟩) rfl (fun K hK => ?_) (AllReadyH.nil)
            go_simp
            refine (bit_any b6 1 (by omega) O.r6.1 O.r6.2 _).mono ?_
            rw [← HBA.out]
            rintro e w' ⟨rfl, rfl⟩
            refine hK.out _ _ trivial (fun hHeld => ?_)
            clear hK K
            refine wpAnyH_ready (rs := [8]) (by kernel_rfl) (by simp) ?_
            refine AllReadyH.cons (o := ⟨_, _, _, _, _, _⟩) rfl (fun K hK => ?_) (AllReadyH.nil)
            go_simp
            refine (bit_any b6 3 (by omega) O.r6.1 O.r6.2 _).mono ?_
            rw [← HFO.out]
            rintro e w' ⟨rfl, rfl⟩
            refine hK.out _ _ trivial (fun hHeld => ?_)
            clear hK K
            refine wpAnyH_ready (rs := [11]) (by kernel_rfl) (by simp) ?_
            refine AllReadyH.cons (o := ⟨_, _, _, _, _, _⟩) rfl (fun K hK => ?_) (AllReadyH.nil)
            go_simp
            refine (bit_any b7 3 (by omega) O.r7.1 O.r7.2 _).mono ?_
            rw [T3.out]
            rintro e w' ⟨rfl, rfl⟩
            refine hK.out _ _ trivial (fun hHeld => ?_)
            clear hK K
            refine wpAnyH_take (i := 12) (oi := ⟨_, _, _, _, _, _⟩) (v := ?_) rfl (by kernel_rfl) (by kernel_rfl) (by kernel_rfl) (fun _ _ _ h => h) (Or.inl ⟨by rfl, ?_⟩) (by assumption) ?_
            rotate_left
            · (intro w hSw; (try dsimp only at hSw); go_simp); with_reducible rfl
            simp only [Act.put, List.setIfInBounds_toArray, List.set_cons_zero, List.set_cons_succ]
            refine wpAnyH_take (i := 13) (oi := ⟨_, _, _, _, _, _⟩) (v := ?_) rfl (by kernel_rfl) (by kernel_rfl) (by kernel_rfl) (fun _ _ _ h => h) (Or.inl ⟨by rfl, ?_⟩) (by assumption) ?_
            rotate_left
            · (intro w hSw; (try dsimp only at hSw); go_simp); with_reducible rfl
            simp only [Act.put, List.setIfInBounds_toArray, List.set_cons_zero, List.set_cons_succ]
            refine wpAnyH_take (i := 14) (oi := ⟨_, _, _, _, _, _⟩) (v := ?_) rfl (by kernel_rfl) (by kernel_rfl) (by kernel_rfl) (fun _ _ _ h => h) (Or.inl ⟨by rfl, ?_⟩) (by assumption) ?_
            rotate_left
            · (intro w hSw; (try dsimp only at hSw); go_simp); with_reducible rfl
            simp only [Act.put, List.setIfInBounds_toArray, List.set_cons_zero, List.set_cons_succ]
            refine wpAnyH_ready (rs := [15]) (by kernel_rfl) (by simp) ?_
            refine AllReadyH.cons (o := ⟨_, _, _, _, _, _⟩) rfl (fun K hK => ?_) (AllReadyH.nil)
            go_simp
            refine (bit_any b7 2 (by omega) O.r7.1 O.r7.2 _).mono ?_
            rw [T2.out]
            rintro e w' ⟨rfl, rfl⟩
            refine hK.out _ _ trivial (fun hHeld => ?_)
            clear hK K
            refine wpAnyH_take (i := 16) (oi := ⟨_, _, _, _, _, _⟩) (v := ?_) rfl (by kernel_rfl) (by kernel_rfl) (by kernel_rfl) (fun _ _ _ h => h) (Or.inl ⟨by rfl, ?_⟩) (by assumption) ?_
            rotate_left
            · (intro w hSw; (try dsimp only at hSw); go_simp); with_reducible rfl
            simp only [Act.put, List.setIfInBounds_toArray, List.set_cons_zero, List.set_cons_succ]
            refine wpAnyH_take (i := 17) (oi := ⟨_, _, _, _, _, _⟩) (v := ?_) rfl (by kernel_rfl) (by kernel_rfl) (by kernel_rfl) (fun _ _ _ h => h) (Or.inl ⟨by rfl, ?_⟩) (by assumption) ?_
            rotate_left
            · (intro w hSw; (try dsimp only at hSw); go_simp); with_reducible rfl
            simp only [Act.put, List.setIfInBounds_toArray, List.set_cons_zero, List.set_cons_succ]
            refine wpAnyH_take (i := 18) (oi := ⟨_, _, _, _, _, _⟩) (v := ?_) rfl (by kernel_rfl) (by kernel_rfl) (by kernel_rfl) (fun _ _ _ h => h) (Or.inl ⟨by rfl, ?_⟩) (by assumption) ?_
            rotate_left
            · (intro w hSw; (try dsimp only at hSw); go_simp); with_reducible rfl
            simp only [Act.put, List.setIfInBounds_toArray, List.set_cons_zero, List.set_cons_succ]
            refine wpAnyH_ready (rs := [20]) (by kernel_rfl) (by simp) ?_
            refine AllReadyH.cons (o := ⟨_, _, _, _, _, _⟩) rfl (fun K hK => ?_) (AllReadyH.nil)
            go_simp
            refine hK.out _ _ trivial (fun hHeld => ?_)
            clear hK K
            refine wpAnyH_done (by kernel_rfl) (NoPanic.normal ?_) _
            go_wp2_with fail
            go_meet
            rw [etw]
            exact ⟨rfl, blk_alloc k0 _, blk_new' _ (by simp), (b0.alloc b0.size _).drew⟩
        · go_simp
          refine hK.out _ _ trivial (fun hHeld => ?_)
          clear hK K
          refine wpAnyH_ready (rs := [2]) (by kernel_rfl) (by simp) ?_
          refine AllReadyH.cons (o := ⟨_, _, _, _, _, _⟩) rfl (fun K hK => ?_) (AllReadyH.nil)
          go_simp
          refine (bit_any b6 0 (by omega) O.r6.1 O.r6.2 _).mono ?_
          rw [← HVE.out]
          rintro e w' ⟨rfl, rfl⟩
          refine hK.out _ _ trivial (fun hHeld => ?_)
          clear hK K
          refine wpAnyH_ready (rs := [5]) (by kernel_rfl) (by simp) ?_
          refine AllReadyH.cons (o := ⟨_, _, _, _, _, _⟩) rfl (fun K hK => ?_) (AllReadyH.nil)
          go_simp
          refine (bit_any b6 1 (by omega) O.r6.1 O.r6.2 _).mono ?_
          rw [← HBA.out]
          rintro e w' ⟨rfl, rfl⟩
          refine hK.out _ _ trivial (fun hHeld => ?_)
          clear hK K
          refine wpAnyH_ready (rs := [8]) (by kernel_rfl) (by simp) ?_
          refine AllReadyH.cons (o := ⟨_, _, _, _, _, _⟩) rfl (fun K hK => ?_) (AllReadyH.nil)
          go_simp
          refine (bit_any b6 3 (by omega) O.r6.1 O.r6.2 _).mono ?_
          rw [← HFO.out]
          rintro e w' ⟨rfl, rfl⟩
          refine hK.out _ _ trivial (fun hHeld => ?_)
          clear hK K
          refine wpAnyH_ready (rs := [11]) (by kernel_rfl) (by simp) ?_
          refine AllReadyH.cons (o := ⟨_, _, _, _, _, _⟩) rfl (fun K hK => ?_) (AllReadyH.nil)
          go_simp
          refine (bit_any b7 3 (by omega) O.r7.1 O.r7.2 _).mono ?_
          rw [T3.out]
          rintro e w' ⟨rfl, rfl⟩
          refine hK.out _ _ trivial (fun hHeld => ?_)
          clear hK K
          refine wpAnyH_take (i := 12) (oi := ⟨_, _, _, _, _, _⟩) (v := ?_) rfl (by kernel_rfl) (by kernel_rfl) (by kernel_rfl) (fun _ _ _ h => h) (Or.inl ⟨by rfl, ?_⟩) (by assumption) ?_
          rotate_left
          · (intro w hSw; (try dsimp only at hSw); go_simp); with_reducible rfl
          simp only [Act.put, List.setIfInBounds_toArray, List.set_cons_zero, List.set_cons_succ]
          refine wpAnyH_take (i := 13) (oi := ⟨_, _, _, _, _, _⟩) (v := ?_) rfl (by kernel_rfl) (by kernel_rfl) (by kernel_rfl) (fun _ _ _ h => h) (Or.inl ⟨by rfl, ?_⟩) (by assumption) ?_
          rotate_left
          · (intro w hSw; (try dsimp only at hSw); go_simp); with_reducible rfl
          simp only [Act.put, List.setIfInBounds_toArray, List.set_cons_zero, List.set_cons_succ]
          refine wpAnyH_take (i := 14) (oi := ⟨_, _, _, _, _, _⟩) (v := ?_) rfl (by kernel_rfl) (by kernel_rfl) (by kernel_rfl) (fun _ _ _ h => h) (Or.inl ⟨by rfl, ?_⟩) (by assumption) ?_
          rotate_left
          · (intro w hSw; (try dsimp only at hSw); go_simp); with_reducible rfl
          simp only [Act.put, List.setIfInBounds_toArray, List.set_cons_zero, List.set_cons_succ]
          refine wpAnyH_ready (rs := [15]) (by kernel_rfl) (by simp) ?_
          refine AllReadyH.cons (o := ⟨_, _, _, _, _, _⟩) rfl (fun K hK => ?_) (AllReadyH.nil)
          go_simp
          refine (bit_any b7 2 (by omega) O.r7.1 O.r7.2 _).mono ?_
          rw [T2.out]
          rintro e w' ⟨rfl, rfl⟩
          refine hK.out _ _ trivial (fun hHeld => ?_)
          clear hK K
          refine wpAnyH_take (i := 16) (oi := ⟨_, _, _, _, _, _⟩) (v := ?_) rfl (by kernel_rfl) (by kernel_rfl) (by kernel_rfl) (fun _ _ _ h => h) (Or.inl ⟨by rfl, ?_⟩) (by assumption) ?_
          rotate_left
          · (intro w hSw; (try dsimp only at hSw); go_simp); with_reducible rfl
          simp only [Act.put, List.setIfInBounds_toArray, List.set_cons_zero, List.set_cons_succ]
          refine wpAnyH_take (i := 17) (oi := ⟨_, _, _, _, _, _⟩) (v := ?_) rfl (by kernel_rfl) (by kernel_rfl) (by kernel_rfl) (fun _ _ _ h => h) (Or.inl ⟨by rfl, ?_⟩) (by assumption) ?_
          rotate_left
          · (intro w hSw; (try dsimp only at hSw); go_simp); with_reducible rfl
          simp only [Act.put, List.setIfInBounds_toArray, List.set_cons_zero, List.set_cons_succ]
          refine wpAnyH_take (i := 18) (oi := ⟨_, _, _, _, _, _⟩) (v := ?_) rfl (by kernel_rfl) (by kernel_rfl) (by kernel_rfl) (fun _ _ _ h => h) (Or.inl ⟨by rfl, ?_⟩) (by assumption) ?_
          rotate_left
          · (intro w hSw; (try dsimp only at hSw); go_simp); with_reducible rfl
          simp only [Act.put, List.setIfInBounds_toArray, List.set_cons_zero, List.set_cons_succ]
          refine wpAnyH_ready (rs := [20]) (by kernel_rfl) (by simp) ?_
          refine AllReadyH.cons (o := ⟨_, _, _, _, _, _⟩) rfl (fun K hK => ?_) (AllReadyH.nil)
          go_simp
          refine hK.out _ _ trivial (fun hHeld => ?_)
          clear hK K
          refine wpAnyH_done (by kernel_rfl) (NoPanic.normal ?_) _
          go_wp2_with fail
          go_meet
          rw [etw]
          exact ⟨rfl, blk_alloc k0 _, blk_new' _ (by simp), (b0.alloc b0.size _).drew⟩
  case rest =>
  clear b0 k0
  obtain ⟨rfl, T1⟩ := hcut
  have i6 := O.i6 h6
  have i7 := O.i7 h7
  obtain ⟨r60, r61⟩ := O.r6
  obtain ⟨r70, r71⟩ := O.r7
  obtain ⟨M0, hM0⟩ : ∃ m, m = b6 / 16 + b7 / 16 * 16 := ⟨_, rfl⟩
  have HM0 := hidI hM0
  have eM := hM0.symm
  have rM0 : 0 ≤ M0 ∧ M0 ≤ 255 := by omega
  obtain ⟨rM1, rM2⟩ := rM0
  clear hM0
  have c0 : wc.cell? ⟨w.heap.size + 1, 0, none⟩ = some (.int .i64 0) := blk_cell T1.B 0
  have f0 : wc.frozen? ⟨w.heap.size + 1, 0, none⟩ = false := blk_free T1.B 0
  have a1 : IntKind.i64.wrap b6 = b6 := by rw [IntKind.wrap_i64]; omega
  have a2 : b6.tdiv 16 = b6 / 16 := Int.tdiv_eq_ediv_of_nonneg (by omega)
  have a3 : IntKind.i64.wrap (b6 / 16) = b6 / 16 := by rw [IntKind.wrap_i64]; omega
  have a4 : IntKind.i64.wrap b7 = b7 := by rw [IntKind.wrap_i64]; omega
  have a5 : b7.tdiv 16 = b7 / 16 := Int.tdiv_eq_ediv_of_nonneg (by omega)
  have a6 : IntKind.i64.wrap (b7 / 16) = b7 / 16 := by rw [IntKind.wrap_i64]; omega
  have a7 : IntKind.i64.wrap (b7 / 16 * 16) = b7 / 16 * 16 := by rw [IntKind.wrap_i64]; omega
  have a8 : IntKind.i64.wrap M0 = M0 := by rw [IntKind.wrap_i64]; omega
  go_upto_region 4 with fail
  refine wp_region_noPanic ?_
  refine wp_region_held_drew (S := (fun _ => True)) (by kernel_rfl) trivial (fun hHeld => ?_)
  refine wpAnyH_take (i := 0) (oi := ⟨_, _, _, _, _, _⟩) (v := ?_) rfl (by kernel_rfl) (by kernel_rfl) (by kernel_rfl) (fun _ _ _ h => h) (Or.inl ⟨by rfl, ?_⟩) (by assumption) ?_
  rotate_left
  · (intro w hSw; (try dsimp only at hSw); go_simp); with_reducible rfl
  simp only [Act.put, List.setIfInBounds_toArray, List.set_cons_zero, List.set_cons_succ]
  refine wpAnyH_take (i := 1) (oi := ⟨_, _, _, _, _, _⟩) (v := ?_) rfl (by kernel_rfl) (by kernel_rfl) (by kernel_rfl) (fun _ _ _ h => h) (Or.inl ⟨by rfl, ?_⟩) (by assumption) ?_
  rotate_left
  · (intro w hSw; (try dsimp only at hSw); go_simp); with_reducible rfl
  simp only [Act.put, List.setIfInBounds_toArray, List.set_cons_zero, List.set_cons_succ]
  refine wpAnyH_take (i := 2) (oi := ⟨_, _, _, _, _, _⟩) (v := ?_) rfl (by kernel_rfl) (by kernel_rfl) (by kernel_rfl) (fun _ _ _ h => h) (Or.inl ⟨by rfl, ?_⟩) (by assumption) ?_
  rotate_left
  · (intro w hSw; (try dsimp only at hSw); go_simp); with_reducible rfl
  simp only [Act.put, List.setIfInBounds_toArray, List.set_cons_zero, List.set_cons_succ]
  refine wpAnyH_take (i := 3) (oi := ⟨_, _, _, _, _, _⟩) (v := ?_) rfl (by kernel_rfl) (by kernel_rfl) (by kernel_rfl) (fun _ _ _ h => h) (Or.inl ⟨by rfl, ?_⟩) (by assumption) ?_
  rotate_left
  · (intro w hSw; (try dsimp only at hSw); go_simp); with_reducible rfl
  simp only [Act.put, List.setIfInBounds_toArray, List.set_cons_zero, List.set_cons_succ]
  refine wpAnyH_take (i := 4) (oi := ⟨_, _, _, _, _, _⟩) (v := ?_) rfl (by kernel_rfl) (by kernel_rfl) (by kernel_rfl) (fun _ _ _ h => h) (Or.inl ⟨by rfl, ?_⟩) (by assumption) ?_
  rotate_left
  · (intro w hSw; (try dsimp only at hSw); go_simp); with_reducible rfl
  simp only [Act.put, List.setIfInBounds_toArray, List.set_cons_zero, List.set_cons_succ]
  refine wpAnyH_take (i := 5) (oi := ⟨_, _, _, _, _, _⟩) (v := ?_) rfl (by kernel_rfl) (by kernel_rfl) (by kernel_rfl) (fun _ _ _ h => h) (Or.inl ⟨by rfl, ?_⟩) (by assumption) ?_
  rotate_left
  · (intro w hSw; (try dsimp only at hSw); go_simp); with_reducible rfl
  simp only [Act.put, List.setIfInBounds_toArray, List.set_cons_zero, List.set_cons_succ]
  refine wpAnyH_take (i := 6) (oi := ⟨_, _, _, _, _, _⟩) (v := ?_) rfl (by kernel_rfl) (by kernel_rfl) (by kernel_rfl) (fun _ _ _ h => h) (Or.inl ⟨by rfl, ?_⟩) (by assumption) ?_
  rotate_left
  · (intro w hSw; (try dsimp only at hSw); go_simp); with_reducible rfl
  simp only [Act.put, List.setIfInBounds_toArray, List.set_cons_zero, List.set_cons_succ]
  refine wpAnyH_take (i := 7) (oi := ⟨_, _, _, _, _, _⟩) (v := ?_) rfl (by kernel_rfl) (by kernel_rfl) (by kernel_rfl) (fun _ _ _ h => h) (Or.inl ⟨by rfl, ?_⟩) (by assumption) ?_
  rotate_left
  · (intro w hSw; (try dsimp only at hSw); go_simp); with_reducible rfl
  simp only [Act.put, List.setIfInBounds_toArray, List.set_cons_zero, List.set_cons_succ]
  refine wpAnyH_take (i := 8) (oi := ⟨_, _, _, _, _, _⟩) (v := ?_) rfl (by kernel_rfl) (by kernel_rfl) (by kernel_rfl) (fun _ _ _ h => h) (Or.inl ⟨by rfl, ?_⟩) (by assumption) ?_
  rotate_left
  · (intro w hSw; (try dsimp only at hSw); go_simp); with_reducible rfl
  simp only [Act.put, List.setIfInBounds_toArray, List.set_cons_zero, List.set_cons_succ]
  refine wpAnyH_take (i := 9) (oi := ⟨_, _, _, _, _, _⟩) (v := ?_) rfl (by kernel_rfl) (by kernel_rfl) (by kernel_rfl) (fun _ _ _ h => h) (Or.inl ⟨by rfl, ?_⟩) (by assumption) ?_
  rotate_left
  · (intro w hSw; (try dsimp only at hSw); go_simp); with_reducible rfl
  simp only [Act.put, List.setIfInBounds_toArray, List.set_cons_zero, List.set_cons_succ]
  refine wpAnyH_take (i := 10) (oi := ⟨_, _, _, _, _, _⟩) (v := ?_) rfl (by kernel_rfl) (by kernel_rfl) (by kernel_rfl) (fun _ _ _ h => h) (Or.inl ⟨by rfl, ?_⟩) (by assumption) ?_
  rotate_left
  · (intro w hSw; (try dsimp only at hSw); go_simp); with_reducible rfl
  simp only [Act.put, List.setIfInBounds_toArray, List.set_cons_zero, List.set_cons_succ]
  refine wpAnyH_ready (rs := [11]) (by kernel_rfl) (by simp) ?_
  refine AllReadyH.cons (o := ⟨_, _, _, _, _, _⟩) rfl (fun K hK => ?_) (AllReadyH.nil)
  go_simp
  refine hK.out _ _ trivial (fun hHeld => ?_)
  clear hK K
  refine wpAnyH_done (by kernel_rfl) (NoPanic.normal ?_) _
  have kB : CB ((wc.setCell ⟨w.heap.size + 1, 0, none⟩ (.int .i64 M0)).drew) (w.heap.size + 1) M0 0 0 0 ba fo ve tw false := by
    have := blk_set T1.B 0 (.int .i64 M0)
    simp at this
    exact this
  have kZ : CB ((wc.setCell ⟨w.heap.size + 1, 0, none⟩ (.int .i64 M0)).drew) w.heap.size 0 0 0 0 false false false false false := (blk_other (w := wc) (a := ⟨w.heap.size + 1, 0, none⟩) (by show w.heap.size + 1 ≠ w.heap.size; omega) _).trans T1.Z
  have kl : Below w.heap.size w ((wc.setCell ⟨w.heap.size + 1, 0, none⟩ (.int .i64 M0)).drew) := (T1.bl.setCell (p := ⟨w.heap.size + 1, 0, none⟩) (by show w.heap.size ≤ w.heap.size + 1; omega) _).drew
  go_upto_region 5 with fail
  obtain ⟨w3, hw3⟩ : ∃ w3, w3 = (wc.setCell ⟨w.heap.size + 1, 0, none⟩ (.int .i64 M0)).drew := ⟨_, rfl⟩
  rw [← hw3] at kZ kB kl ⊢
  clear a1 a2 a3 a4 a5 a6 a7 a8
  clear hw3 c0 f0 T1 i6 i7 eM
  have c7 : w3.cell? ⟨w.heap.size + 1, 7, none⟩ = some (.bool tw) := blk_cell kB 7
  obtain ⟨H, hH⟩ : ∃ H, H = if tw then b9 else 0 := ⟨_, rfl⟩
  have HH := hidI hH
  have rH : 0 ≤ H ∧ H ≤ 255 := by have := O.r9; rw [hH]; split <;> omega
  obtain ⟨rH0, rH1⟩ := rH
  have eH1 : H % 16 = hpB b7 b9 := by rw [hH]; unfold hpB; rw [← HTW.out]; cases tw <;> simp
  have eH2 : H / 16 = hcB b7 b9 := by rw [hH]; unfold hcB; rw [← HTW.out]; cases tw <;> simp
  have HE1 := hidI eH1; have HE2 := hidI eH2
  clear hH eH1 eH2
  go_upto_if 65 with fail
  go_cut [6] (fun t6 wx => t6 = .int .i64 H ∧ St1 w wx M S ba fo ve tw)
  case first =>
    cases tw
    · go_wp2_with fail
      go_meet
      have eM : M = M0 := by rw [HM.out, HM0.out]; unfold mpB; rw [← HTW.out]; simp
      have eS : S = 0 := by rw [HS.out]; unfold sbB; rw [← HTW.out]; simp
      exact ⟨by rw [HH.out]; simp, ⟨kZ, by rw [eM, eS]; exact kB, kl⟩⟩
    · have r80 := O.r8.1
      have r81 := O.r8.2
      have c0 : w3.cell? ⟨w.heap.size + 1, 0, none⟩ = some (.int .i64 M0) := blk_cell kB 0
      have c1 : w3.cell? ⟨w.heap.size + 1, 1, none⟩ = some (.int .i64 0) := blk_cell kB 1
      have f0 : w3.frozen? ⟨w.heap.size + 1, 0, none⟩ = false := blk_free kB 0
      have f1 : w3.frozen? ⟨w.heap.size + 1, 1, none⟩ = false := blk_free kB 1
      have i8 := O.i8 h8
      have i9 := O.i9 h9
      have r90 := O.r9.1
      have r91 := O.r9.2
      have a1 : IntKind.i64.wrap b8 = b8 := by rw [IntKind.wrap_i64]; omega
      have a2 : b8.tmod 16 = b8 % 16 := Int.tmod_eq_emod_of_nonneg (by omega)
      have a3 : IntKind.i64.wrap (b8 % 16) = b8 % 16 := by rw [IntKind.wrap_i64]; omega
      have a4 : IntKind.i64.wrap (b8 % 16 * 256) = b8 % 16 * 256 := by rw [IntKind.wrap_i64]; omega
      have a5 : IntKind.i64.wrap (M0 + b8 % 16 * 256) = M0 + b8 % 16 * 256 := by rw [IntKind.wrap_i64]; omega
      go_upto_region 7 with fail
      refine wp_region_noPanic ?_
      refine wp_region_held_drew (S := (fun _ => True)) (by kernel_rfl) trivial (fun hHeld => ?_)
      refine wpAnyH_take (i := 0) (oi := ⟨_, _, _, _, _, _⟩) (v := ?_) rfl (by kernel_rfl) (by kernel_rfl) (by kernel_rfl) (fun _ _ _ h => h) (Or.inl ⟨by rfl, ?_⟩) (by assumption) ?_
      rotate_left
      · (intro w hSw; (try dsimp only at hSw); go_simp); with_reducible rfl
      simp only [Act.put, List.setIfInBounds_toArray, List.set_cons_zero, List.set_cons_succ]
      refine wpAnyH_take (i := 2) (oi := ⟨_, _, _, _, _, _⟩) (v := ?_) rfl (by kernel_rfl) (by kernel_rfl) (by kernel_rfl) (fun _ _ _ h => h) (Or.inl ⟨by rfl, ?_⟩) (by assumption) ?_
      rotate_left
      · (intro w hSw; (try dsimp only at hSw); go_simp); with_reducible rfl
      simp only [Act.put, List.setIfInBounds_toArray, List.set_cons_zero, List.set_cons_succ]
      refine wpAnyH_take (i := 3) (oi := ⟨_, _, _, _, _, _⟩) (v := ?_) rfl (by kernel_rfl) (by kernel_rfl) (by kernel_rfl) (fun _ _ _ h => h) (Or.inl ⟨by rfl, ?_⟩) (by assumption) ?_
      rotate_left
      · (intro w hSw; (try dsimp only at hSw); go_simp); with_reducible rfl
      simp only [Act.put, List.setIfInBounds_toArray, List.set_cons_zero, List.set_cons_succ]
      refine wpAnyH_take (i := 4) (oi := ⟨_, _, _, _, _, _⟩) (v := ?_) rfl (by kernel_rfl) (by kernel_rfl) (by kernel_rfl) (fun _ _ _ h => h) (Or.inl ⟨by rfl, ?_⟩) (by assumption) ?_
      rotate_left
      · (intro w hSw; (try dsimp only at hSw); go_simp); with_reducible rfl
      simp only [Act.put, List.setIfInBounds_toArray, List.set_cons_zero, List.set_cons_succ]
      refine wpAnyH_take (i := 5) (oi := ⟨_, _, _, _, _, _⟩) (v := ?_) rfl (by kernel_rfl) (by kernel_rfl) (by kernel_rfl) (fun _ _ _ h => h) (Or.inl ⟨by rfl, ?_⟩) (by assumption) ?_
      rotate_left
      · (intro w hSw; (try dsimp only at hSw); go_simp); with_reducible rfl
      simp only [Act.put, List.setIfInBounds_toArray, List.set_cons_zero, List.set_cons_succ]
      refine wpAnyH_take (i := 6) (oi := ⟨_, _, _, _, _, _⟩) (v := ?_) rfl (by kernel_rfl) (by kernel_rfl) (by kernel_rfl) (fun _ _ _ h => h) (Or.inl ⟨by rfl, ?_⟩) (by assumption) ?_
      rotate_left
      · (intro w hSw; (try dsimp only at hSw); go_simp); with_reducible rfl
      simp only [Act.put, List.setIfInBounds_toArray, List.set_cons_zero, List.set_cons_succ]
      refine wpAnyH_ready (rs := [1]) (by kernel_rfl) (by simp) ?_
      refine AllReadyH.cons (o := ⟨_, _, _, _, _, _⟩) rfl (fun K hK => ?_) (AllReadyH.nil)
      go_simp
      refine hK.out _ _ trivial (fun hHeld => ?_)
      clear hK K
      refine wpAnyH_take (i := 7) (oi := ⟨_, _, _, _, _, _⟩) (v := ?_) rfl (by kernel_rfl) (by kernel_rfl) (by kernel_rfl) (fun _ _ _ h => h) (Or.inl ⟨by rfl, ?_⟩) (by assumption) ?_
      rotate_left
      · (intro w hSw; (try dsimp only at hSw); go_simp); with_reducible rfl
      simp only [Act.put, List.setIfInBounds_toArray, List.set_cons_zero, List.set_cons_succ]
      refine wpAnyH_take (i := 8) (oi := ⟨_, _, _, _, _, _⟩) (v := ?_) rfl (by kernel_rfl) (by kernel_rfl) (by kernel_rfl) (fun _ _ _ h => h) (Or.inl ⟨by rfl, ?_⟩) (by assumption) ?_
      rotate_left
      · (intro w hSw; (try dsimp only at hSw); go_simp); with_reducible rfl
      simp only [Act.put, List.setIfInBounds_toArray, List.set_cons_zero, List.set_cons_succ]
      refine wpAnyH_ready (rs := [9]) (by kernel_rfl) (by simp) ?_
      refine AllReadyH.cons (o := ⟨_, _, _, _, _, _⟩) rfl (fun K hK => ?_) (AllReadyH.nil)
      go_simp
      refine hK.out _ _ trivial (fun hHeld => ?_)
      clear hK K
      refine wpAnyH_done (by kernel_rfl) (NoPanic.normal ?_) _
      go_wp2_with fail
      go_meet
      have eM : M = M0 + b8 % 16 * 256 := by rw [HM.out, HM0.out]; unfold mpB; rw [← HTW.out]; simp
      have eS : S = b8 / 16 := by rw [HS.out]; unfold sbB; rw [← HTW.out]; simp
      refine ⟨by rw [HH.out]; simp, ⟨?_, ?_, ?_⟩⟩
      · exact (blk_other (by show w.heap.size + 1 ≠ w.heap.size; omega) _).trans ((blk_other (by show w.heap.size + 1 ≠ w.heap.size; omega) _).trans kZ)
      · have := blk_set (blk_set kB 0 (.int .i64 (M0 + b8 % 16 * 256))) 1 (.int .i64 (b8 / 16))
        rw [eM, eS]
        simp at this
        exact this
      · exact ((kl.setCell (p := ⟨w.heap.size + 1, 0, none⟩) (by show w.heap.size ≤ w.heap.size + 1; omega) _).setCell (p := ⟨w.heap.size + 1, 1, none⟩) (by show w.heap.size ≤ w.heap.size + 1; omega) _).drew
  case rest =>
  obtain ⟨rfl, T1⟩ := hcut
  clear kZ kB kl c7
  have rh : 0 ≤ hpB b7 b9 ∧ hpB b7 b9 ≤ 15 := by have := O.r9; unfold hpB; split <;> omega
  have rc : 0 ≤ hcB b7 b9 ∧ hcB b7 b9 ≤ 15 := by have := O.r9; unfold hcB; split <;> omega
  obtain ⟨rh0, rh1⟩ := rh
  obtain ⟨rc0, rc1⟩ := rc
  have rP : 0 ≤ P ∧ P ≤ 100000000 := by rw [HP.out]; exact amtR_range _ _ _ O.r4.1 O.r4.2 rh0 rh1 (.inl rfl)
  have rC : 0 ≤ C ∧ C ≤ 100000000 := by rw [HC.out]; exact amtR_range _ _ _ O.r5.1 O.r5.2 rc0 rc1 (.inr rfl)
  obtain ⟨rP0, rP1⟩ := rP
  obtain ⟨rC0, rC1⟩ := rC
  obtain ⟨r40, r41⟩ := O.r4
  obtain ⟨r50, r51⟩ := O.r5
  have eH1 := HE1.out
  have eH2 := HE2.out
  have i4 := O.i4 h4
  have i5 := O.i5 h5
  have c2 : World.cell? wc ⟨w.heap.size + 1, 2, none⟩ = some (.int .i64 0) := blk_cell T1.B 2
  have f2 : World.frozen? wc ⟨w.heap.size + 1, 2, none⟩ = false := blk_free T1.B 2
  have c3 : World.cell? wc ⟨w.heap.size + 1, 3, none⟩ = some (.int .i64 0) := blk_cell T1.B 3
  have f3 : World.frozen? wc ⟨w.heap.size + 1, 3, none⟩ = false := blk_free T1.B 3
  go_wp2_with fail
  refine (ramount_any b4 (hpB b7 b9) 16384 r40 r41 rh0 rh1 (.inl rfl) _).mono ?_
  rw [← HP.out]
  rintro e w' ⟨rfl, rfl⟩
  go_wp2_with fail
  refine (ramount_any b5 (hcB b7 b9) 8192 r50 r51 rc0 rc1 (.inr rfl) _).mono ?_
  rw [← HC.out]
  rintro e w' ⟨rfl, rfl⟩
  go_upto_region 12 with fail
  have kB2 : CB ((wc.setCell ⟨w.heap.size + 1, 2, none⟩ (.int .i64 P)).setCell ⟨w.heap.size + 1, 3, none⟩ (.int .i64 C)) (w.heap.size + 1) M S P C ba fo ve tw false := by
    have := blk_set (blk_set T1.B 2 (.int .i64 P)) 3 (.int .i64 C)
    simp at this
    exact this
  have kZ2 : CB ((wc.setCell ⟨w.heap.size + 1, 2, none⟩ (.int .i64 P)).setCell ⟨w.heap.size + 1, 3, none⟩ (.int .i64 C)) w.heap.size 0 0 0 0 false false false false false := (blk_other (by show w.heap.size + 1 ≠ w.heap.size; omega) _).trans ((blk_other (by show w.heap.size + 1 ≠ w.heap.size; omega) _).trans T1.Z)
  have kl2 : Below w.heap.size w ((wc.setCell ⟨w.heap.size + 1, 2, none⟩ (.int .i64 P)).setCell ⟨w.heap.size + 1, 3, none⟩ (.int .i64 C)) := ((T1.bl.setCell (p := ⟨w.heap.size + 1, 2, none⟩) (by show w.heap.size ≤ w.heap.size + 1; omega) _).setCell (p := ⟨w.heap.size + 1, 3, none⟩) (by show w.heap.size ≤ w.heap.size + 1; omega) _)
  clear i4 i5 f2 f3 c2 c3 eH1 eH2
  obtain ⟨w4, hw4⟩ : ∃ w4, w4 = ((wc.setCell ⟨w.heap.size + 1, 2, none⟩ (.int .i64 P)).setCell ⟨w.heap.size + 1, 3, none⟩ (.int .i64 C)) := ⟨_, rfl⟩
  rw [← hw4] at kB2 kZ2 kl2 ⊢
  clear hw4 T1
  have c2 : w4.cell? ⟨w.heap.size + 1, 2, none⟩ = some (.int .i64 P) := blk_cell kB2 2
  have c3 : w4.cell? ⟨w.heap.size + 1, 3, none⟩ = some (.int .i64 C) := blk_cell kB2 3
  go_upto_if 104 with fail
  go_cut [] (fun wx => CB wx (w.heap.size + 1) M S P C' ba fo ve tw ow ∧ CB wx w.heap.size 0 0 0 0 false false false false false ∧ Below w.heap.size w wx)
  case first =>
    have c8 : w4.cell? ⟨w.heap.size + 1, 8, none⟩ = some (.bool false) := blk_cell kB2 8
    have f3 : w4.frozen? ⟨w.heap.size + 1, 3, none⟩ = false := blk_free kB2 3
    have f8 : w4.frozen? ⟨w.heap.size + 1, 8, none⟩ = false := blk_free kB2 8
    by_cases hC0 : C = 0
    · have e0 : (C == 0) = true := by simpa using hC0
      have eo : ow = true := HOW.out.trans e0
      have eC : C' = 8192 := by rw [HC'.out, if_pos hC0]
      clear hC0
      go_wp2_with fail
      go_meet
      refine ⟨?_, ?_, ?_⟩
      · have := blk_set (blk_set kB2 8 (.bool true)) 3 (.int .i64 8192)
        rw [eo, eC]
        simpa using this
      · exact (blk_other (by show w.heap.size + 1 ≠ w.heap.size; omega) _).trans ((blk_other (by show w.heap.size + 1 ≠ w.heap.size; omega) _).trans kZ2)
      · exact (kl2.setCell (p := ⟨w.heap.size + 1, 8, none⟩) (by show w.heap.size ≤ w.heap.size + 1; omega) _).setCell (p := ⟨w.heap.size + 1, 3, none⟩) (by show w.heap.size ≤ w.heap.size + 1; omega) _
    · have e0 : (C == 0) = false := by simpa using hC0
      have eo : ow = false := HOW.out.trans e0
      have eC : C' = C := by rw [HC'.out, if_neg hC0]
      clear hC0
      go_wp2_with fail
      go_meet
      rw [eo, eC]
      exact ⟨kB2, kZ2, kl2⟩
  case rest =>
  clear kB2 kZ2 kl2 c2 c3
  obtain ⟨kB, kZ, kl⟩ := hcut
  have c0 : World.cell? wc ⟨w.heap.size + 1, 0, none⟩ = some (.int .i64 M) := blk_cell kB 0
  have c1 : World.cell? wc ⟨w.heap.size + 1, 1, none⟩ = some (.int .i64 S) := blk_cell kB 1
  have c2 : World.cell? wc ⟨w.heap.size + 1, 2, none⟩ = some (.int .i64 P) := blk_cell kB 2
  have c3 : World.cell? wc ⟨w.heap.size + 1, 3, none⟩ = some (.int .i64 C') := blk_cell kB 3
  have c4 : World.cell? wc ⟨w.heap.size + 1, 4, none⟩ = some (.bool ba) := blk_cell kB 4
  have c5 : World.cell? wc ⟨w.heap.size + 1, 5, none⟩ = some (.bool fo) := blk_cell kB 5
  have c6 : World.cell? wc ⟨w.heap.size + 1, 6, none⟩ = some (.bool ve) := blk_cell kB 6
  have c7 : World.cell? wc ⟨w.heap.size + 1, 7, none⟩ = some (.bool tw) := blk_cell kB 7
  have c8 : World.cell? wc ⟨w.heap.size + 1, 8, none⟩ = some (.bool ow) := blk_cell kB 8
  go_wp2_with fail
  refine (rcheck_any M S P C' ba fo ve tw ow _).mono ?_
  rw [← HK.out]
  rintro e w5 ⟨rfl, b5⟩
  have kB5 : CB w5 (w.heap.size + 1) M S P C' ba fo ve tw ow := (b5.block _ (blk_lt kB)).trans kB
  have kZ5 : CB w5 w.heap.size 0 0 0 0 false false false false false := (b5.block _ (blk_lt kZ)).trans kZ
  have kl5 := kl.trans (b5.mono kl.size)
  clear c0 c1 c2 c3 c4 c5 c6 c7 c8 kB kZ kl b5
  have z0 : World.cell? w5 ⟨w.heap.size, 0, none⟩ = some (.int .i64 0) := blk_cell kZ5 0
  have f0 : World.frozen? w5 ⟨w.heap.size, 0, none⟩ = false := blk_free kZ5 0
  have z1 : World.cell? w5 ⟨w.heap.size, 1, none⟩ = some (.int .i64 0) := blk_cell kZ5 1
  have f1 : World.frozen? w5 ⟨w.heap.size, 1, none⟩ = false := blk_free kZ5 1
  have z2 : World.cell? w5 ⟨w.heap.size, 2, none⟩ = some (.int .i64 0) := blk_cell kZ5 2
  have f2 : World.frozen? w5 ⟨w.heap.size, 2, none⟩ = false := blk_free kZ5 2
  have z3 : World.cell? w5 ⟨w.heap.size, 3, none⟩ = some (.int .i64 0) := blk_cell kZ5 3
  have f3 : World.frozen? w5 ⟨w.heap.size, 3, none⟩ = false := blk_free kZ5 3
  have z4 : World.cell? w5 ⟨w.heap.size, 4, none⟩ = some (.bool false) := blk_cell kZ5 4
  have f4 : World.frozen? w5 ⟨w.heap.size, 4, none⟩ = false := blk_free kZ5 4
  have z5 : World.cell? w5 ⟨w.heap.size, 5, none⟩ = some (.bool false) := blk_cell kZ5 5
  have f5 : World.frozen? w5 ⟨w.heap.size, 5, none⟩ = false := blk_free kZ5 5
  have z6 : World.cell? w5 ⟨w.heap.size, 6, none⟩ = some (.bool false) := blk_cell kZ5 6
  have f6 : World.frozen? w5 ⟨w.heap.size, 6, none⟩ = false := blk_free kZ5 6
  have z7 : World.cell? w5 ⟨w.heap.size, 7, none⟩ = some (.bool false) := blk_cell kZ5 7
  have f7 : World.frozen? w5 ⟨w.heap.size, 7, none⟩ = false := blk_free kZ5 7
  have z8 : World.cell? w5 ⟨w.heap.size, 8, none⟩ = some (.bool false) := blk_cell kZ5 8
  have f8 : World.frozen? w5 ⟨w.heap.size, 8, none⟩ = false := blk_free kZ5 8
  by_cases hk0 : k = 0
  · have ek : (k != 0) = false := by simpa using hk0
    have HK0 := hidI hk0; clear hk0
    have i6 := O.i6 h6
    go_wp2_with fail
    refine (bit_any b6 2 (by omega) O.r6.1 O.r6.2 _).mono ?_
    rw [← HTR.out]
    rintro e w' ⟨rfl, rfl⟩
    cases tr
    · have hW2 : Wh = 16 + (P + C) := by rw [HWH.out]; simp; omega
      have HW2 := hidI hW2; clear hW2
      by_cases hl : (x.size : Int) < 16 + (P + C)
      · have HL := hidI hl
        go_wp2_with fail
        have hl2 : (x.size : Int) < Wh := by rw [HW2.out]; first | exact HL.out | (have := HL.out; omega)
        obtain ⟨ws, hws⟩ : ∃ ws, ws = (((((((((w5.setCell ⟨w.heap.size, 0, none⟩ (.int .i64 0)).setCell ⟨w.heap.size, 1, none⟩ (.int .i64 0)).setCell ⟨w.heap.size, 2, none⟩ (.int .i64 0)).setCell ⟨w.heap.size, 3, none⟩ (.int .i64 0)).setCell ⟨w.heap.size, 4, none⟩ (.bool false)).setCell ⟨w.heap.size, 5, none⟩ (.bool false)).setCell ⟨w.heap.size, 6, none⟩ (.bool false)).setCell ⟨w.heap.size, 7, none⟩ (.bool false)).setCell ⟨w.heap.size, 8, none⟩ (.bool false)) := ⟨_, rfl⟩
        rw [← hws]
        have kR : CB ws w.heap.size 0 0 0 0 false false false false false := by rw [hws]; exact cb_set9 kZ5 (.int .i64 0) (.int .i64 0) (.int .i64 0) (.int .i64 0) (.bool false) (.bool false) (.bool false) (.bool false) (.bool false)
        have kL : Below w.heap.size w ws := by rw [hws]; exact b9s kl5 (Nat.le_refl _) (.int .i64 0) (.int .i64 0) (.int .i64 0) (.int .i64 0) (.bool false) (.bool false) (.bool false) (.bool false) (.bool false)
        clear hws z0 z1 z2 z3 z4 z5 z6 z7 z8 f0 f1 f2 f3 f4 f5 f6 f7 f8
        have y0 : World.cell? ws ⟨w.heap.size, 0, none⟩ = some (.int .i64 0) := blk_cell kR 0
        have y1 : World.cell? ws ⟨w.heap.size, 1, none⟩ = some (.int .i64 0) := blk_cell kR 1
        have y2 : World.cell? ws ⟨w.heap.size, 2, none⟩ = some (.int .i64 0) := blk_cell kR 2
        have y3 : World.cell? ws ⟨w.heap.size, 3, none⟩ = some (.int .i64 0) := blk_cell kR 3
        have y4 : World.cell? ws ⟨w.heap.size, 4, none⟩ = some (.bool false) := blk_cell kR 4
        have y5 : World.cell? ws ⟨w.heap.size, 5, none⟩ = some (.bool false) := blk_cell kR 5
        have y6 : World.cell? ws ⟨w.heap.size, 6, none⟩ = some (.bool false) := blk_cell kR 6
        have y7 : World.cell? ws ⟨w.heap.size, 7, none⟩ = some (.bool false) := blk_cell kR 7
        have y8 : World.cell? ws ⟨w.heap.size, 8, none⟩ = some (.bool false) := blk_cell kR 8
        exact bodyPost_ret (v := .tuple #[.int .i64 0, cartV 0 0 0 0 false false false false false, .int .i64 5]) (by simp [results, Try.results18, go_sem, y0, y1, y2, y3, y4, y5, y6, y7, y8]) rfl ⟨by rw [HR0.out, HR1.out, HR2.out, if_neg (fun h => h HK0.out), if_pos hl2, if_neg (fun h => h HK0.out), if_pos hl2, if_neg (fun h => h HK0.out), if_pos hl2], kL⟩
      · have HL := hidI hl
        have c0 : World.cell? w5 ⟨w.heap.size + 1, 0, none⟩ = some (.int .i64 M) := blk_cell kB5 0
        have c1 : World.cell? w5 ⟨w.heap.size + 1, 1, none⟩ = some (.int .i64 S) := blk_cell kB5 1
        have c2 : World.cell? w5 ⟨w.heap.size + 1, 2, none⟩ = some (.int .i64 P) := blk_cell kB5 2
        have c3 : World.cell? w5 ⟨w.heap.size + 1, 3, none⟩ = some (.int .i64 C') := blk_cell kB5 3
        have c4 : World.cell? w5 ⟨w.heap.size + 1, 4, none⟩ = some (.bool ba) := blk_cell kB5 4
        have c5 : World.cell? w5 ⟨w.heap.size + 1, 5, none⟩ = some (.bool fo) := blk_cell kB5 5
        have c6 : World.cell? w5 ⟨w.heap.size + 1, 6, none⟩ = some (.bool ve) := blk_cell kB5 6
        have c7 : World.cell? w5 ⟨w.heap.size + 1, 7, none⟩ = some (.bool tw) := blk_cell kB5 7
        have c8 : World.cell? w5 ⟨w.heap.size + 1, 8, none⟩ = some (.bool ow) := blk_cell kB5 8
        go_upto_region 24 with fail
        refine wp_region_noPanic ?_
        refine wp_region_held_drew (S := (fun _ => True)) (by kernel_rfl) trivial (fun hHeld => ?_)
        refine wpAnyH_take (i := 0) (oi := ⟨_, _, _, _, _, _⟩) (v := ?_) rfl (by kernel_rfl) (by kernel_rfl) (by kernel_rfl) (fun _ _ _ h => h) (Or.inl ⟨by rfl, ?_⟩) (by assumption) ?_
        rotate_left
        · (intro w hSw; (try dsimp only at hSw); go_simp); with_reducible rfl
        simp only [Act.put, List.setIfInBounds_toArray, List.set_cons_zero, List.set_cons_succ]
        refine wpAnyH_take (i := 2) (oi := ⟨_, _, _, _, _, _⟩) (v := ?_) rfl (by kernel_rfl) (by kernel_rfl) (by kernel_rfl) (fun _ _ _ h => h) (Or.inl ⟨by rfl, ?_⟩) (by assumption) ?_
        rotate_left
        · (intro w hSw; (try dsimp only at hSw); go_simp); with_reducible rfl
        simp only [Act.put, List.setIfInBounds_toArray, List.set_cons_zero, List.set_cons_succ]
        refine wpAnyH_ready (rs := [1]) (by kernel_rfl) (by simp) ?_
        refine AllReadyH.cons (o := ⟨_, _, _, _, _, _⟩) rfl (fun K hK => ?_) (AllReadyH.nil)
        go_simp
        refine hK.out _ _ trivial (fun hHeld => ?_)
        clear hK K
        refine wpAnyH_ready (rs := [3]) (by kernel_rfl) (by simp) ?_
        refine AllReadyH.cons (o := ⟨_, _, _, _, _, _⟩) rfl (fun K hK => ?_) (AllReadyH.nil)
        go_simp
        refine hK.out _ _ trivial (fun hHeld => ?_)
        clear hK K
        refine wpAnyH_take (i := 4) (oi := ⟨_, _, _, _, _, _⟩) (v := ?_) rfl (by kernel_rfl) (by kernel_rfl) (by kernel_rfl) (fun _ _ _ h => h) (Or.inl ⟨by rfl, ?_⟩) (by assumption) ?_
        rotate_left
        · (intro w hSw; (try dsimp only at hSw); go_simp); with_reducible rfl
        simp only [Act.put, List.setIfInBounds_toArray, List.set_cons_zero, List.set_cons_succ]
        refine wpAnyH_done (by kernel_rfl) (NoPanic.normal ?_) _
        go_wp2_with fail
        have hl2 : ¬ ((x.size : Int) < Wh) := by rw [HW2.out]; first | exact HL.out | (have := HL.out; omega)
        obtain ⟨ws, hws⟩ : ∃ ws, ws = (((((((((w5.setCell ⟨w.heap.size, 0, none⟩ (.int .i64 M)).setCell ⟨w.heap.size, 1, none⟩ (.int .i64 S)).setCell ⟨w.heap.size, 2, none⟩ (.int .i64 P)).setCell ⟨w.heap.size, 3, none⟩ (.int .i64 C')).setCell ⟨w.heap.size, 4, none⟩ (.bool ba)).setCell ⟨w.heap.size, 5, none⟩ (.bool fo)).setCell ⟨w.heap.size, 6, none⟩ (.bool ve)).setCell ⟨w.heap.size, 7, none⟩ (.bool tw)).setCell ⟨w.heap.size, 8, none⟩ (.bool ow)).drew := ⟨_, rfl⟩
        rw [← hws]
        have kR : CB ws w.heap.size M S P C' ba fo ve tw ow := by rw [hws]; exact (drew_heap _ _).trans (cb_set9 kZ5 (.int .i64 M) (.int .i64 S) (.int .i64 P) (.int .i64 C') (.bool ba) (.bool fo) (.bool ve) (.bool tw) (.bool ow))
        have kL : Below w.heap.size w ws := by rw [hws]; exact (b9s kl5 (Nat.le_refl _) (.int .i64 M) (.int .i64 S) (.int .i64 P) (.int .i64 C') (.bool ba) (.bool fo) (.bool ve) (.bool tw) (.bool ow)).drew
        clear hws z0 z1 z2 z3 z4 z5 z6 z7 z8 f0 f1 f2 f3 f4 f5 f6 f7 f8 c0 c1 c2 c3 c4 c5 c6 c7 c8
        have y0 : World.cell? ws ⟨w.heap.size, 0, none⟩ = some (.int .i64 M) := blk_cell kR 0
        have y1 : World.cell? ws ⟨w.heap.size, 1, none⟩ = some (.int .i64 S) := blk_cell kR 1
        have y2 : World.cell? ws ⟨w.heap.size, 2, none⟩ = some (.int .i64 P) := blk_cell kR 2
        have y3 : World.cell? ws ⟨w.heap.size, 3, none⟩ = some (.int .i64 C') := blk_cell kR 3
        have y4 : World.cell? ws ⟨w.heap.size, 4, none⟩ = some (.bool ba) := blk_cell kR 4
        have y5 : World.cell? ws ⟨w.heap.size, 5, none⟩ = some (.bool fo) := blk_cell kR 5
        have y6 : World.cell? ws ⟨w.heap.size, 6, none⟩ = some (.bool ve) := blk_cell kR 6
        have y7 : World.cell? ws ⟨w.heap.size, 7, none⟩ = some (.bool tw) := blk_cell kR 7
        have y8 : World.cell? ws ⟨w.heap.size, 8, none⟩ = some (.bool ow) := blk_cell kR 8
        have e0 : r0 = 16 := by rw [HR0.out, if_neg (fun h => h HK0.out), if_neg hl2]; rfl
        exact bodyPost_ret (v := .tuple #[.int .i64 16, cartV M S P C' ba fo ve tw ow, .int .i64 0]) (by simp [results, Try.results18, go_sem, y0, y1, y2, y3, y4, y5, y6, y7, y8]) rfl ⟨by rw [e0, HR1.out, HR2.out, if_neg (fun h => h HK0.out), if_neg hl2, if_neg (fun h => h HK0.out), if_neg hl2], kL⟩
    · have hW2 : Wh = 528 + (P + C) := by rw [HWH.out]; simp; omega
      have HW2 := hidI hW2; clear hW2
      by_cases hl : (x.size : Int) < 528 + (P + C)
      · have HL := hidI hl
        go_wp2_with fail
        have hl2 : (x.size : Int) < Wh := by rw [HW2.out]; first | exact HL.out | (have := HL.out; omega)
        obtain ⟨ws, hws⟩ : ∃ ws, ws = (((((((((w5.setCell ⟨w.heap.size, 0, none⟩ (.int .i64 0)).setCell ⟨w.heap.size, 1, none⟩ (.int .i64 0)).setCell ⟨w.heap.size, 2, none⟩ (.int .i64 0)).setCell ⟨w.heap.size, 3, none⟩ (.int .i64 0)).setCell ⟨w.heap.size, 4, none⟩ (.bool false)).setCell ⟨w.heap.size, 5, none⟩ (.bool false)).setCell ⟨w.heap.size, 6, none⟩ (.bool false)).setCell ⟨w.heap.size, 7, none⟩ (.bool false)).setCell ⟨w.heap.size, 8, none⟩ (.bool false)) := ⟨_, rfl⟩
        rw [← hws]
        have kR : CB ws w.heap.size 0 0 0 0 false false false false false := by rw [hws]; exact cb_set9 kZ5 (.int .i64 0) (.int .i64 0) (.int .i64 0) (.int .i64 0) (.bool false) (.bool false) (.bool false) (.bool false) (.bool false)
        have kL : Below w.heap.size w ws := by rw [hws]; exact b9s kl5 (Nat.le_refl _) (.int .i64 0) (.int .i64 0) (.int .i64 0) (.int .i64 0) (.bool false) (.bool false) (.bool false) (.bool false) (.bool false)
        clear hws z0 z1 z2 z3 z4 z5 z6 z7 z8 f0 f1 f2 f3 f4 f5 f6 f7 f8
        have y0 : World.cell? ws ⟨w.heap.size, 0, none⟩ = some (.int .i64 0) := blk_cell kR 0
        have y1 : World.cell? ws ⟨w.heap.size, 1, none⟩ = some (.int .i64 0) := blk_cell kR 1
        have y2 : World.cell? ws ⟨w.heap.size, 2, none⟩ = some (.int .i64 0) := blk_cell kR 2
        have y3 : World.cell? ws ⟨w.heap.size, 3, none⟩ = some (.int .i64 0) := blk_cell kR 3
        have y4 : World.cell? ws ⟨w.heap.size, 4, none⟩ = some (.bool false) := blk_cell kR 4
        have y5 : World.cell? ws ⟨w.heap.size, 5, none⟩ = some (.bool false) := blk_cell kR 5
        have y6 : World.cell? ws ⟨w.heap.size, 6, none⟩ = some (.bool false) := blk_cell kR 6
        have y7 : World.cell? ws ⟨w.heap.size, 7, none⟩ = some (.bool false) := blk_cell kR 7
        have y8 : World.cell? ws ⟨w.heap.size, 8, none⟩ = some (.bool false) := blk_cell kR 8
        exact bodyPost_ret (v := .tuple #[.int .i64 0, cartV 0 0 0 0 false false false false false, .int .i64 5]) (by simp [results, Try.results18, go_sem, y0, y1, y2, y3, y4, y5, y6, y7, y8]) rfl ⟨by rw [HR0.out, HR1.out, HR2.out, if_neg (fun h => h HK0.out), if_pos hl2, if_neg (fun h => h HK0.out), if_pos hl2, if_neg (fun h => h HK0.out), if_pos hl2], kL⟩
      · have HL := hidI hl
        have c0 : World.cell? w5 ⟨w.heap.size + 1, 0, none⟩ = some (.int .i64 M) := blk_cell kB5 0
        have c1 : World.cell? w5 ⟨w.heap.size + 1, 1, none⟩ = some (.int .i64 S) := blk_cell kB5 1
        have c2 : World.cell? w5 ⟨w.heap.size + 1, 2, none⟩ = some (.int .i64 P) := blk_cell kB5 2
        have c3 : World.cell? w5 ⟨w.heap.size + 1, 3, none⟩ = some (.int .i64 C') := blk_cell kB5 3
        have c4 : World.cell? w5 ⟨w.heap.size + 1, 4, none⟩ = some (.bool ba) := blk_cell kB5 4
        have c5 : World.cell? w5 ⟨w.heap.size + 1, 5, none⟩ = some (.bool fo) := blk_cell kB5 5
        have c6 : World.cell? w5 ⟨w.heap.size + 1, 6, none⟩ = some (.bool ve) := blk_cell kB5 6
        have c7 : World.cell? w5 ⟨w.heap.size + 1, 7, none⟩ = some (.bool tw) := blk_cell kB5 7
        have c8 : World.cell? w5 ⟨w.heap.size + 1, 8, none⟩ = some (.bool ow) := blk_cell kB5 8
        go_upto_region 24 with fail
        refine wp_region_noPanic ?_
        refine wp_region_held_drew (S := (fun _ => True)) (by kernel_rfl) trivial (fun hHeld => ?_)
        refine wpAnyH_take (i := 0) (oi := ⟨_, _, _, _, _, _⟩) (v := ?_) rfl (by kernel_rfl) (by kernel_rfl) (by kernel_rfl) (fun _ _ _ h => h) (Or.inl ⟨by rfl, ?_⟩) (by assumption) ?_
        rotate_left
        · (intro w hSw; (try dsimp only at hSw); go_simp); with_reducible rfl
        simp only [Act.put, List.setIfInBounds_toArray, List.set_cons_zero, List.set_cons_succ]
        refine wpAnyH_take (i := 2) (oi := ⟨_, _, _, _, _, _⟩) (v := ?_) rfl (by kernel_rfl) (by kernel_rfl) (by kernel_rfl) (fun _ _ _ h => h) (Or.inl ⟨by rfl, ?_⟩) (by assumption) ?_
        rotate_left
        · (intro w hSw; (try dsimp only at hSw); go_simp); with_reducible rfl
        simp only [Act.put, List.setIfInBounds_toArray, List.set_cons_zero, List.set_cons_succ]
        refine wpAnyH_ready (rs := [1]) (by kernel_rfl) (by simp) ?_
        refine AllReadyH.cons (o := ⟨_, _, _, _, _, _⟩) rfl (fun K hK => ?_) (AllReadyH.nil)
        go_simp
        refine hK.out _ _ trivial (fun hHeld => ?_)
        clear hK K
        refine wpAnyH_ready (rs := [3]) (by kernel_rfl) (by simp) ?_
        refine AllReadyH.cons (o := ⟨_, _, _, _, _, _⟩) rfl (fun K hK => ?_) (AllReadyH.nil)
        go_simp
        refine hK.out _ _ trivial (fun hHeld => ?_)
        clear hK K
        refine wpAnyH_take (i := 4) (oi := ⟨_, _, _, _, _, _⟩) (v := ?_) rfl (by kernel_rfl) (by kernel_rfl) (by kernel_rfl) (fun _ _ _ h => h) (Or.inl ⟨by rfl, ?_⟩) (by assumption) ?_
        rotate_left
        · (intro w hSw; (try dsimp only at hSw); go_simp); with_reducible rfl
        simp only [Act.put, List.setIfInBounds_toArray, List.set_cons_zero, List.set_cons_succ]
        refine wpAnyH_done (by kernel_rfl) (NoPanic.normal ?_) _
        go_wp2_with fail
        have hl2 : ¬ ((x.size : Int) < Wh) := by rw [HW2.out]; first | exact HL.out | (have := HL.out; omega)
        obtain ⟨ws, hws⟩ : ∃ ws, ws = (((((((((w5.setCell ⟨w.heap.size, 0, none⟩ (.int .i64 M)).setCell ⟨w.heap.size, 1, none⟩ (.int .i64 S)).setCell ⟨w.heap.size, 2, none⟩ (.int .i64 P)).setCell ⟨w.heap.size, 3, none⟩ (.int .i64 C')).setCell ⟨w.heap.size, 4, none⟩ (.bool ba)).setCell ⟨w.heap.size, 5, none⟩ (.bool fo)).setCell ⟨w.heap.size, 6, none⟩ (.bool ve)).setCell ⟨w.heap.size, 7, none⟩ (.bool tw)).setCell ⟨w.heap.size, 8, none⟩ (.bool ow)).drew := ⟨_, rfl⟩
        rw [← hws]
        have kR : CB ws w.heap.size M S P C' ba fo ve tw ow := by rw [hws]; exact (drew_heap _ _).trans (cb_set9 kZ5 (.int .i64 M) (.int .i64 S) (.int .i64 P) (.int .i64 C') (.bool ba) (.bool fo) (.bool ve) (.bool tw) (.bool ow))
        have kL : Below w.heap.size w ws := by rw [hws]; exact (b9s kl5 (Nat.le_refl _) (.int .i64 M) (.int .i64 S) (.int .i64 P) (.int .i64 C') (.bool ba) (.bool fo) (.bool ve) (.bool tw) (.bool ow)).drew
        clear hws z0 z1 z2 z3 z4 z5 z6 z7 z8 f0 f1 f2 f3 f4 f5 f6 f7 f8 c0 c1 c2 c3 c4 c5 c6 c7 c8
        have y0 : World.cell? ws ⟨w.heap.size, 0, none⟩ = some (.int .i64 M) := blk_cell kR 0
        have y1 : World.cell? ws ⟨w.heap.size, 1, none⟩ = some (.int .i64 S) := blk_cell kR 1
        have y2 : World.cell? ws ⟨w.heap.size, 2, none⟩ = some (.int .i64 P) := blk_cell kR 2
        have y3 : World.cell? ws ⟨w.heap.size, 3, none⟩ = some (.int .i64 C') := blk_cell kR 3
        have y4 : World.cell? ws ⟨w.heap.size, 4, none⟩ = some (.bool ba) := blk_cell kR 4
        have y5 : World.cell? ws ⟨w.heap.size, 5, none⟩ = some (.bool fo) := blk_cell kR 5
        have y6 : World.cell? ws ⟨w.heap.size, 6, none⟩ = some (.bool ve) := blk_cell kR 6
        have y7 : World.cell? ws ⟨w.heap.size, 7, none⟩ = some (.bool tw) := blk_cell kR 7
        have y8 : World.cell? ws ⟨w.heap.size, 8, none⟩ = some (.bool ow) := blk_cell kR 8
        have e0 : r0 = 528 := by rw [HR0.out, if_neg (fun h => h HK0.out), if_neg hl2]; rfl
        exact bodyPost_ret (v := .tuple #[.int .i64 528, cartV M S P C' ba fo ve tw ow, .int .i64 0]) (by simp [results, Try.results18, go_sem, y0, y1, y2, y3, y4, y5, y6, y7, y8]) rfl ⟨by rw [e0, HR1.out, HR2.out, if_neg (fun h => h HK0.out), if_neg hl2, if_neg (fun h => h HK0.out), if_neg hl2], kL⟩
  · have ek : (k != 0) = true := by simpa using hk0
    have HK0 := hidI hk0; clear hk0
    go_wp2_with fail
    obtain ⟨ws, hws⟩ : ∃ ws, ws = (((((((((w5.setCell ⟨w.heap.size, 0, none⟩ (.int .i64 0)).setCell ⟨w.heap.size, 1, none⟩ (.int .i64 0)).setCell ⟨w.heap.size, 2, none⟩ (.int .i64 0)).setCell ⟨w.heap.size, 3, none⟩ (.int .i64 0)).setCell ⟨w.heap.size, 4, none⟩ (.bool false)).setCell ⟨w.heap.size, 5, none⟩ (.bool false)).setCell ⟨w.heap.size, 6, none⟩ (.bool false)).setCell ⟨w.heap.size, 7, none⟩ (.bool false)).setCell ⟨w.heap.size, 8, none⟩ (.bool false)) := ⟨_, rfl⟩
    rw [← hws]
    have kR : CB ws w.heap.size 0 0 0 0 false false false false false := by rw [hws]; exact cb_set9 kZ5 (.int .i64 0) (.int .i64 0) (.int .i64 0) (.int .i64 0) (.bool false) (.bool false) (.bool false) (.bool false) (.bool false)
    have kL : Below w.heap.size w ws := by rw [hws]; exact b9s kl5 (Nat.le_refl _) (.int .i64 0) (.int .i64 0) (.int .i64 0) (.int .i64 0) (.bool false) (.bool false) (.bool false) (.bool false) (.bool false)
    clear hws z0 z1 z2 z3 z4 z5 z6 z7 z8 f0 f1 f2 f3 f4 f5 f6 f7 f8
    have y0 : World.cell? ws ⟨w.heap.size, 0, none⟩ = some (.int .i64 0) := blk_cell kR 0
    have y1 : World.cell? ws ⟨w.heap.size, 1, none⟩ = some (.int .i64 0) := blk_cell kR 1
    have y2 : World.cell? ws ⟨w.heap.size, 2, none⟩ = some (.int .i64 0) := blk_cell kR 2
    have y3 : World.cell? ws ⟨w.heap.size, 3, none⟩ = some (.int .i64 0) := blk_cell kR 3
    have y4 : World.cell? ws ⟨w.heap.size, 4, none⟩ = some (.bool false) := blk_cell kR 4
    have y5 : World.cell? ws ⟨w.heap.size, 5, none⟩ = some (.bool false) := blk_cell kR 5
    have y6 : World.cell? ws ⟨w.heap.size, 6, none⟩ = some (.bool false) := blk_cell kR 6
    have y7 : World.cell? ws ⟨w.heap.size, 7, none⟩ = some (.bool false) := blk_cell kR 7
    have y8 : World.cell? ws ⟨w.heap.size, 8, none⟩ = some (.bool false) := blk_cell kR 8
    exact bodyPost_ret (v := .tuple #[.int .i64 0, cartV 0 0 0 0 false false false false false, .int .i64 k]) (by simp [results, Try.results18, go_sem, y0, y1, y2, y3, y4, y5, y6, y7, y8]) rfl ⟨by rw [HR0.out, HR1.out, HR2.out, if_pos HK0.out, if_pos HK0.out, if_pos HK0.out], kL⟩
end Go.Proofs.Ytolennlpkpkhhaa
