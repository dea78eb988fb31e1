import Derived.Test.YtolennlpkpkhhaaHa10
namespace Go.Proofs.Ytolennlpkpkhhaa
open Go.RowKit Go.Sx
set_option maxRecDepth 100000 in
set_option maxHeartbeats 1600000 in
theorem split_no (x : ByteArray) (hx : x.size ≤ 2000000) (w : World) (k : Int) (hk : k ≠ 0) (he : errB x (pP x) (cP x) = k) : Calls Try.prog 19 #[.string x] w fun e w' => e = .returned (.tuple #[zeroC, .string ⟨#[]⟩, .string ⟨#[]⟩, .int .i64 k]) ∧ Below w.heap.size w w' := by
  have hcar : carB x (pP x) (cP x) = zeroC := by unfold carB; rw [if_neg (by rw [he]; exact hk)]
  have HCAR := hidI hcar; have HE := hidI he; clear hcar he
  have b0 : Below w.heap.size w (w.alloc (.cells #[.int .i64 0, .int .i64 0, .int .i64 0, .int .i64 0, .bool false, .bool false, .bool false, .bool false, .bool false] 23)) := (Below.refl _ _).alloc (Nat.le_refl _) _
  have k0 : CB (w.alloc (.cells #[.int .i64 0, .int .i64 0, .int .i64 0, .int .i64 0, .bool false, .bool false, .bool false, .bool false, .bool false] 23)) w.heap.size 0 0 0 0 false false false false false := blk_new _ _
  have ek : (k != 0) = true := by simpa using hk
  clear hk
  go_enter Try.func19, Try.ntmps19
  go_wp2_with fail
  refine (parse_any x hx _).mono ?_
  rw [HCAR.out, HE.out]
  rintro e w2 ⟨rfl, b2⟩
  have kZ := (b2.block _ (blk_lt k0)).trans k0
  have kl := b0.trans (b2.mono b0.size)
  have hlt := blk_lt kZ
  have nz : w2.heap.size ≠ w.heap.size := by omega
  clear b0 k0 b2
  have z0 : World.cell? w2 ⟨w.heap.size, 0, none⟩ = some (.int .i64 0) := blk_cell kZ 0
  have f0 : World.frozen? w2 ⟨w.heap.size, 0, none⟩ = false := blk_free kZ 0
  have z1 : World.cell? w2 ⟨w.heap.size, 1, none⟩ = some (.int .i64 0) := blk_cell kZ 1
  have f1 : World.frozen? w2 ⟨w.heap.size, 1, none⟩ = false := blk_free kZ 1
  have z2 : World.cell? w2 ⟨w.heap.size, 2, none⟩ = some (.int .i64 0) := blk_cell kZ 2
  have f2 : World.frozen? w2 ⟨w.heap.size, 2, none⟩ = false := blk_free kZ 2
  have z3 : World.cell? w2 ⟨w.heap.size, 3, none⟩ = some (.int .i64 0) := blk_cell kZ 3
  have f3 : World.frozen? w2 ⟨w.heap.size, 3, none⟩ = false := blk_free kZ 3
  have z4 : World.cell? w2 ⟨w.heap.size, 4, none⟩ = some (.bool false) := blk_cell kZ 4
  have f4 : World.frozen? w2 ⟨w.heap.size, 4, none⟩ = false := blk_free kZ 4
  have z5 : World.cell? w2 ⟨w.heap.size, 5, none⟩ = some (.bool false) := blk_cell kZ 5
  have f5 : World.frozen? w2 ⟨w.heap.size, 5, none⟩ = false := blk_free kZ 5
  have z6 : World.cell? w2 ⟨w.heap.size, 6, none⟩ = some (.bool false) := blk_cell kZ 6
  have f6 : World.frozen? w2 ⟨w.heap.size, 6, none⟩ = false := blk_free kZ 6
  have z7 : World.cell? w2 ⟨w.heap.size, 7, none⟩ = some (.bool false) := blk_cell kZ 7
  have f7 : World.frozen? w2 ⟨w.heap.size, 7, none⟩ = false := blk_free kZ 7
  have z8 : World.cell? w2 ⟨w.heap.size, 8, none⟩ = some (.bool false) := blk_cell kZ 8
  have f8 : World.frozen? w2 ⟨w.heap.size, 8, none⟩ = false := blk_free kZ 8
  go_wp2_with fail
  obtain ⟨ws, hws⟩ : ∃ ws, ws = (((((((((w2.setCell ⟨w.heap.size, 0, none⟩ (.int .i64 0)).setCell ⟨w.heap.size, 1, none⟩ (.int .i64 0)).setCell ⟨w.heap.size, 2, none⟩ (.int .i64 0)).setCell ⟨w.heap.size, 3, none⟩ (.int .i64 0)).setCell ⟨w.heap.size, 4, none⟩ (.bool false)).setCell ⟨w.heap.size, 5, none⟩ (.bool false)).setCell ⟨w.heap.size, 6, none⟩ (.bool false)).setCell ⟨w.heap.size, 7, none⟩ (.bool false)).setCell ⟨w.heap.size, 8, none⟩ (.bool false)).alloc (.cells #[.int .i64 0, .int .i64 0, .int .i64 0, .int .i64 0, .bool false, .bool false, .bool false, .bool false, .bool false] 23) := ⟨_, rfl⟩
  rw [← hws]
  have kR : CB ws w.heap.size 0 0 0 0 false false false false false := by rw [hws]; exact blk_alloc (cb_set9 kZ (.int .i64 0) (.int .i64 0) (.int .i64 0) (.int .i64 0) (.bool false) (.bool false) (.bool false) (.bool false) (.bool false)) _
  have kL : Below w.heap.size w ws := by rw [hws]; exact (b9s kl (Nat.le_refl _) (.int .i64 0) (.int .i64 0) (.int .i64 0) (.int .i64 0) (.bool false) (.bool false) (.bool false) (.bool false) (.bool false)).alloc (by simp; omega) _
  clear hws z0 z1 z2 z3 z4 z5 z6 z7 z8 f0 f1 f2 f3 f4 f5 f6 f7 f8
  have y0 : World.cell? ws ⟨w.heap.size, 0, none⟩ = some (.int .i64 0) := blk_cell kR 0
  have y1 : World.cell? ws ⟨w.heap.size, 1, none⟩ = some (.int .i64 0) := blk_cell kR 1
  have y2 : World.cell? ws ⟨w.heap.size, 2, none⟩ = some (.int .i64 0) := blk_cell kR 2
  have y3 : World.cell? ws ⟨w.heap.size, 3, none⟩ = some (.int .i64 0) := blk_cell kR 3
  have y4 : World.cell? ws ⟨w.heap.size, 4, none⟩ = some (.bool false) := blk_cell kR 4
  have y5 : World.cell? ws ⟨w.heap.size, 5, none⟩ = some (.bool false) := blk_cell kR 5
  have y6 : World.cell? ws ⟨w.heap.size, 6, none⟩ = some (.bool false) := blk_cell kR 6
  have y7 : World.cell? ws ⟨w.heap.size, 7, none⟩ = some (.bool false) := blk_cell kR 7
  have y8 : World.cell? ws ⟨w.heap.size, 8, none⟩ = some (.bool false) := blk_cell kR 8
  exact bodyPost_ret (v := .tuple #[zeroC, .string ⟨#[]⟩, .string ⟨#[]⟩, .int .i64 k]) (by simp [results, Try.results19, go_sem, y0, y1, y2, y3, y4, y5, y6, y7, y8]) rfl ⟨rfl, kL⟩
set_option maxRecDepth 100000 in
set_option maxHeartbeats 3200000 in
theorem split_yes (x : ByteArray) (b6 : Int) (h6 : 6 < x.size) (i6 : ((x[6]'h6).toNat : Int) = b6) (r6 : 0 ≤ b6 ∧ b6 ≤ 255) (hx : x.size ≤ 2000000) (w : World) (M S P C' : Int) (ba fo ve tw tr ow : Bool) (htr : tr = (b6 / 2 ^ 2 % 2 == 1)) (he : errB x (pP x) (cP x) = 0) (hc : carB x (pP x) (cP x) = cartV M S P C' ba fo ve tw ow)
    (A : Int) (hA : A = 16 + (if tr then 512 else 0)) (hP : 0 ≤ P) (hAP : A + P ≤ x.size) (hC : 0 ≤ C') (hAC : ow = false → A + P + C' ≤ x.size) (q : ByteArray) (hq : q = if ow then ⟨#[]⟩ else x.extract (A + P).toNat (A + P + C').toNat) :
    Calls Try.prog 19 #[.string x] w fun e w' => e = .returned (.tuple #[cartV M S P C' ba fo ve tw ow, .string (x.extract A.toNat (A + P).toNat), .string q, .int .i64 0]) ∧ Below w.heap.size w w' := by
  have HCAR := hidI hc; have HE := hidI he; clear hc he
  have HQ := hidI hq; have HA := hidI hA; clear hq hA
  have g6 : (6 : Int) < (x.size : Int) := by omega
  obtain ⟨q4, hq4⟩ : ∃ q, q = bits BinOp.and IntKind.u8 b6 4 := ⟨_, rfl⟩
  have e4 : decide (0 < q4) = tr := by rw [hq4, htr]; exact by_4 b6 r6
  replace hq4 := hq4.symm
  obtain ⟨r60, r61⟩ := r6
  clear htr
  have b0 : Below w.heap.size w (w.alloc (.cells #[.int .i64 0, .int .i64 0, .int .i64 0, .int .i64 0, .bool false, .bool false, .bool false, .bool false, .bool false] 23)) := (Below.refl _ _).alloc (Nat.le_refl _) _
  have k0 : CB (w.alloc (.cells #[.int .i64 0, .int .i64 0, .int .i64 0, .int .i64 0, .bool false, .bool false, .bool false, .bool false, .bool false] 23)) w.heap.size 0 0 0 0 false false false false false := blk_new _ _
  go_enter Try.func19, Try.ntmps19
  go_wp2_with fail
  refine (parse_any x hx _).mono ?_
  rw [HCAR.out, HE.out]
  rintro e w2 ⟨rfl, b2⟩
  have kZ := (b2.block _ (blk_lt k0)).trans k0
  have kl := b0.trans (b2.mono b0.size)
  have hlt := blk_lt kZ
  have nz : w2.heap.size ≠ w.heap.size := by omega
  clear b0 k0 b2
  cases tr <;> cases ow
  · have eA : A = 16 := by rw [HA.out]; rfl
    have eQ : q = x.extract (A + P).toNat (A + P + C').toNat := by rw [HQ.out]; simp
    have hAP : 16 + P ≤ (x.size : Int) := by rw [← eA]; exact hAP
    have hAC : 16 + P + C' ≤ (x.size : Int) := by rw [← eA]; exact hAC rfl
    have EA := hidI eA; have EQ := hidI eQ; clear eA eQ
    have v1 : IntKind.i64.wrap (16 + P) = 16 + P := by rw [IntKind.wrap_i64]; omega
    have v2 : (0 : Int) ≤ 16 + P := by omega
    have v3 : (16 : Int) ≤ 16 + P := by omega
    have v4 : IntKind.i64.wrap (16 + P + C') = 16 + P + C' := by rw [IntKind.wrap_i64]; omega
    have v5 : (0 : Int) ≤ 16 + P + C' := by omega
    have v6 : 16 + P ≤ 16 + P + C' := by omega
    have kZ3 : CB (w2.alloc (.cells #[.int .i64 M, .int .i64 S, .int .i64 P, .int .i64 C', .bool ba, .bool fo, .bool ve, .bool tw, .bool false] 23)) w.heap.size 0 0 0 0 false false false false false := blk_alloc kZ _
    have kC3 : CB (w2.alloc (.cells #[.int .i64 M, .int .i64 S, .int .i64 P, .int .i64 C', .bool ba, .bool fo, .bool ve, .bool tw, .bool false] 23)) w2.heap.size M S P C' ba fo ve tw false := blk_new _ _
    have kl3 : Below w.heap.size w (w2.alloc (.cells #[.int .i64 M, .int .i64 S, .int .i64 P, .int .i64 C', .bool ba, .bool fo, .bool ve, .bool tw, .bool false] 23)) := kl.alloc kl.size _
    have z0 : World.cell? w2 ⟨w.heap.size, 0, none⟩ = some (.int .i64 0) := blk_cell kZ 0
    have f0 : World.frozen? w2 ⟨w.heap.size, 0, none⟩ = false := blk_free kZ 0
    have z1 : World.cell? w2 ⟨w.heap.size, 1, none⟩ = some (.int .i64 0) := blk_cell kZ 1
    have f1 : World.frozen? w2 ⟨w.heap.size, 1, none⟩ = false := blk_free kZ 1
    have z2 : World.cell? w2 ⟨w.heap.size, 2, none⟩ = some (.int .i64 0) := blk_cell kZ 2
    have f2 : World.frozen? w2 ⟨w.heap.size, 2, none⟩ = false := blk_free kZ 2
    have z3 : World.cell? w2 ⟨w.heap.size, 3, none⟩ = some (.int .i64 0) := blk_cell kZ 3
    have f3 : World.frozen? w2 ⟨w.heap.size, 3, none⟩ = false := blk_free kZ 3
    have z4 : World.cell? w2 ⟨w.heap.size, 4, none⟩ = some (.bool false) := blk_cell kZ 4
    have f4 : World.frozen? w2 ⟨w.heap.size, 4, none⟩ = false := blk_free kZ 4
    have z5 : World.cell? w2 ⟨w.heap.size, 5, none⟩ = some (.bool false) := blk_cell kZ 5
    have f5 : World.frozen? w2 ⟨w.heap.size, 5, none⟩ = false := blk_free kZ 5
    have z6 : World.cell? w2 ⟨w.heap.size, 6, none⟩ = some (.bool false) := blk_cell kZ 6
    have f6 : World.frozen? w2 ⟨w.heap.size, 6, none⟩ = false := blk_free kZ 6
    have z7 : World.cell? w2 ⟨w.heap.size, 7, none⟩ = some (.bool false) := blk_cell kZ 7
    have f7 : World.frozen? w2 ⟨w.heap.size, 7, none⟩ = false := blk_free kZ 7
    have z8 : World.cell? w2 ⟨w.heap.size, 8, none⟩ = some (.bool false) := blk_cell kZ 8
    have f8 : World.frozen? w2 ⟨w.heap.size, 8, none⟩ = false := blk_free kZ 8
    go_upto_region 9 with fail
    have kS : CB (((((((((((w2.setCell ⟨w.heap.size, 0, none⟩ (.int .i64 M)).setCell ⟨w.heap.size, 1, none⟩ (.int .i64 S)).setCell ⟨w.heap.size, 2, none⟩ (.int .i64 P)).setCell ⟨w.heap.size, 3, none⟩ (.int .i64 C')).setCell ⟨w.heap.size, 4, none⟩ (.bool ba)).setCell ⟨w.heap.size, 5, none⟩ (.bool fo)).setCell ⟨w.heap.size, 6, none⟩ (.bool ve)).setCell ⟨w.heap.size, 7, none⟩ (.bool tw)).setCell ⟨w.heap.size, 8, none⟩ (.bool false)).alloc (.cells #[.int .i64 M, .int .i64 S, .int .i64 P, .int .i64 C', .bool ba, .bool fo, .bool ve, .bool tw, .bool false] 23)).drew) w2.heap.size M S P C' ba fo ve tw false := (drew_heap _ _).trans (blk_new' _ (by simp))
    refine wp_region_noPanic ?_
    refine wp_region_held_drew (S := (fun w' => w'.cell? ⟨w2.heap.size, 0, none⟩ = some (.int .i64 M) ∧ w'.cell? ⟨w2.heap.size, 1, none⟩ = some (.int .i64 S) ∧ w'.cell? ⟨w2.heap.size, 2, none⟩ = some (.int .i64 P) ∧ w'.cell? ⟨w2.heap.size, 3, none⟩ = some (.int .i64 C') ∧ w'.cell? ⟨w2.heap.size, 4, none⟩ = some (.bool ba) ∧ w'.cell? ⟨w2.heap.size, 5, none⟩ = some (.bool fo) ∧ w'.cell? ⟨w2.heap.size, 6, none⟩ = some (.bool ve) ∧ w'.cell? ⟨w2.heap.size, 7, none⟩ = some (.bool tw) ∧ w'.cell? ⟨w2.heap.size, 8, none⟩ = some (.bool false))) (by kernel_rfl) ⟨blk_cell kC3 0, blk_cell kC3 1, blk_cell kC3 2, blk_cell kC3 3, blk_cell kC3 4, blk_cell kC3 5, blk_cell kC3 6, blk_cell kC3 7, blk_cell kC3 8⟩ (fun hHeld => ?_)
    refine wpAnyH_take (i := 0) (oi := ⟨_, _, _, _, _, _⟩) (v := ?_) rfl (by kernel_rfl) (by kernel_rfl) (by kernel_rfl) (fun _ _ _ h => h) (Or.inl ⟨by rfl, ?_⟩) (by assumption) ?_
    rotate_left
    · (intro w hSw; (try dsimp only at hSw); go_simp); with_reducible rfl
    simp only [Act.put, List.setIfInBounds_toArray, List.set_cons_zero, List.set_cons_succ]
    refine wpAnyH_take (i := 1) (oi := ⟨_, _, _, _, _, _⟩) (v := ?_) rfl (by kernel_rfl) (by kernel_rfl) (by kernel_rfl) (fun _ _ _ h => h) (Or.inl ⟨by rfl, ?_⟩) (by assumption) ?_
    rotate_left
    · (intro w hSw; (try dsimp only at hSw); go_simp); with_reducible rfl
    simp only [Act.put, List.setIfInBounds_toArray, List.set_cons_zero, List.set_cons_succ]
    refine wpAnyH_take (i := 2) (oi := ⟨_, _, _, _, _, _⟩) (v := ?_) rfl (by kernel_rfl) (by kernel_rfl) (by kernel_rfl) (fun _ _ _ h => h) (Or.inl ⟨by rfl, ?_⟩) (by assumption) ?_
    rotate_left
    · (intro w hSw; (try dsimp only at hSw); go_simp); with_reducible rfl
    simp only [Act.put, List.setIfInBounds_toArray, List.set_cons_zero, List.set_cons_succ]
    refine wpAnyH_take (i := 3) (oi := ⟨_, _, _, _, _, _⟩) (v := ?_) rfl (by kernel_rfl) (by kernel_rfl) (by kernel_rfl) (fun _ _ _ h => h) (Or.inl ⟨by rfl, ?_⟩) (by assumption) ?_
    rotate_left
    · (intro w hSw; (try dsimp only at hSw); go_simp); with_reducible rfl
    simp only [Act.put, List.setIfInBounds_toArray, List.set_cons_zero, List.set_cons_succ]
    refine wpAnyH_take (i := 4) (oi := ⟨_, _, _, _, _, _⟩) (v := ?_) rfl (by kernel_rfl) (by kernel_rfl) (by kernel_rfl) (fun _ _ _ h => h) (Or.inl ⟨by rfl, ?_⟩) (by assumption) ?_
    rotate_left
    · (intro w hSw; (try dsimp only at hSw); go_simp); with_reducible rfl
    simp only [Act.put, List.setIfInBounds_toArray, List.set_cons_zero, List.set_cons_succ]
    refine wpAnyH_take (i := 5) (oi := ⟨_, _, _, _, _, _⟩) (v := ?_) rfl (by kernel_rfl) (by kernel_rfl) (by kernel_rfl) (fun _ _ _ h => h) (Or.inl ⟨by rfl, ?_⟩) (by assumption) ?_
    rotate_left
    · (intro w hSw; (try dsimp only at hSw); go_simp); with_reducible rfl
    simp only [Act.put, List.setIfInBounds_toArray, List.set_cons_zero, List.set_cons_succ]
    refine wpAnyH_take (i := 6) (oi := ⟨_, _, _, _, _, _⟩) (v := ?_) rfl (by kernel_rfl) (by kernel_rfl) (by kernel_rfl) (fun _ _ _ h => h) (Or.inl ⟨by rfl, ?_⟩) (by assumption) ?_
    rotate_left
    · (intro w hSw; (try dsimp only at hSw); go_simp); with_reducible rfl
    simp only [Act.put, List.setIfInBounds_toArray, List.set_cons_zero, List.set_cons_succ]
    refine wpAnyH_take (i := 7) (oi := ⟨_, _, _, _, _, _⟩) (v := ?_) rfl (by kernel_rfl) (by kernel_rfl) (by kernel_rfl) (fun _ _ _ h => h) (Or.inl ⟨by rfl, ?_⟩) (by assumption) ?_
    rotate_left
    · (intro w hSw; (try dsimp only at hSw); go_simp); with_reducible rfl
    simp only [Act.put, List.setIfInBounds_toArray, List.set_cons_zero, List.set_cons_succ]
    refine wpAnyH_take (i := 8) (oi := ⟨_, _, _, _, _, _⟩) (v := ?_) rfl (by kernel_rfl) (by kernel_rfl) (by kernel_rfl) (fun _ _ _ h => h) (Or.inl ⟨by rfl, ?_⟩) (by assumption) ?_
    rotate_left
    · (intro w hSw; (try dsimp only at hSw); go_simp); with_reducible rfl
    simp only [Act.put, List.setIfInBounds_toArray, List.set_cons_zero, List.set_cons_succ]
    refine wpAnyH_take (i := 9) (oi := ⟨_, _, _, _, _, _⟩) (v := ?_) rfl (by kernel_rfl) (by kernel_rfl) (by kernel_rfl) (fun _ _ _ h => h) (Or.inl ⟨by rfl, ?_⟩) (by assumption) ?_
    rotate_left
    · (intro w hSw; (try dsimp only at hSw); go_simp); with_reducible rfl
    simp only [Act.put, List.setIfInBounds_toArray, List.set_cons_zero, List.set_cons_succ]
    refine wpAnyH_take (i := 10) (oi := ⟨_, _, _, _, _, _⟩) (v := ?_) rfl (by kernel_rfl) (by kernel_rfl) (by kernel_rfl) (fun _ _ _ h => h) (Or.inl ⟨by rfl, ?_⟩) (by assumption) ?_
    rotate_left
    · (intro w hSw; (try dsimp only at hSw); go_simp); with_reducible rfl
    simp only [Act.put, List.setIfInBounds_toArray, List.set_cons_zero, List.set_cons_succ]
    refine wpAnyH_take (i := 11) (oi := ⟨_, _, _, _, _, _⟩) (v := ?_) rfl (by kernel_rfl) (by kernel_rfl) (by kernel_rfl) (fun _ _ _ h => h) (Or.inl ⟨by rfl, ?_⟩) (by assumption) ?_
    rotate_left
    · (intro w hSw; (try dsimp only at hSw); go_simp); with_reducible rfl
    simp only [Act.put, List.setIfInBounds_toArray, List.set_cons_zero, List.set_cons_succ]
    refine wpAnyH_take (i := 12) (oi := ⟨_, _, _, _, _, _⟩) (v := ?_) rfl (by kernel_rfl) (by kernel_rfl) (by kernel_rfl) (fun _ _ _ h => h) (Or.inl ⟨by rfl, ?_⟩) (by assumption) ?_
    rotate_left
    · (intro w hSw; (try dsimp only at hSw); go_simp); with_reducible rfl
    simp only [Act.put, List.setIfInBounds_toArray, List.set_cons_zero, List.set_cons_succ]
    refine wpAnyH_take (i := 13) (oi := ⟨_, _, _, _, _, _⟩) (v := ?_) rfl (by kernel_rfl) (by kernel_rfl) (by kernel_rfl) (fun _ _ _ h => h) (Or.inl ⟨by rfl, ?_⟩) (by assumption) ?_
    rotate_left
    · (intro w hSw; (try dsimp only at hSw); go_simp); with_reducible rfl
    simp only [Act.put, List.setIfInBounds_toArray, List.set_cons_zero, List.set_cons_succ]
    refine wpAnyH_take (i := 14) (oi := ⟨_, _, _, _, _, _⟩) (v := ?_) rfl (by kernel_rfl) (by kernel_rfl) (by kernel_rfl) (fun _ _ _ h => h) (Or.inl ⟨by rfl, ?_⟩) (by assumption) ?_
    rotate_left
    · (intro w hSw; (try dsimp only at hSw); go_simp); with_reducible rfl
    simp only [Act.put, List.setIfInBounds_toArray, List.set_cons_zero, List.set_cons_succ]
    refine wpAnyH_take (i := 15) (oi := ⟨_, _, _, _, _, _⟩) (v := ?_) rfl (by kernel_rfl) (by kernel_rfl) (by kernel_rfl) (fun _ _ _ h => h) (Or.inl ⟨by rfl, ?_⟩) (by assumption) ?_
    rotate_left
    · (intro w hSw; (try dsimp only at hSw); go_simp); with_reducible rfl
    simp only [Act.put, List.setIfInBounds_toArray, List.set_cons_zero, List.set_cons_succ]
    refine wpAnyH_take (i := 16) (oi := ⟨_, _, _, _, _, _⟩) (v := ?_) rfl (by kernel_rfl) (by kernel_rfl) (by kernel_rfl) (fun _ _ _ h => h) (Or.inl ⟨by rfl, ?_⟩) (by assumption) ?_
    rotate_left
    · (intro w hSw; (try dsimp only at hSw); go_simp); with_reducible rfl
    simp only [Act.put, List.setIfInBounds_toArray, List.set_cons_zero, List.set_cons_succ]
    refine wpAnyH_take (i := 17) (oi := ⟨_, _, _, _, _, _⟩) (v := ?_) rfl (by kernel_rfl) (by kernel_rfl) (by kernel_rfl) (fun _ _ _ h => h) (Or.inl ⟨by rfl, ?_⟩) (by assumption) ?_
    rotate_left
    · (intro w hSw; (try dsimp only at hSw); go_simp); with_reducible rfl
    simp only [Act.put, List.setIfInBounds_toArray, List.set_cons_zero, List.set_cons_succ]
    refine wpAnyH_take (i := 18) (oi := ⟨_, _, _, _, _, _⟩) (v := ?_) rfl (by kernel_rfl) (by kernel_rfl) (by kernel_rfl) (fun _ _ _ h => h) (Or.inl ⟨by rfl, ?_⟩) (by assumption) ?_
    rotate_left
    · (intro w hSw; (try dsimp only at hSw); go_simp); with_reducible rfl
    simp only [Act.put, List.setIfInBounds_toArray, List.set_cons_zero, List.set_cons_succ]
    refine wpAnyH_take (i := 19) (oi := ⟨_, _, _, _, _, _⟩) (v := ?_) rfl (by kernel_rfl) (by kernel_rfl) (by kernel_rfl) (fun _ _ _ h => h) (Or.inl ⟨by rfl, ?_⟩) (by assumption) ?_
    rotate_left
    · (intro w hSw; (try dsimp only at hSw); go_simp); with_reducible rfl
    simp only [Act.put, List.setIfInBounds_toArray, List.set_cons_zero, List.set_cons_succ]
    refine wpAnyH_take (i := 20) (oi := ⟨_, _, _, _, _, _⟩) (v := ?_) rfl (by kernel_rfl) (by kernel_rfl) (by kernel_rfl) (fun _ _ _ h => h) (Or.inl ⟨by rfl, ?_⟩) (by assumption) ?_
    rotate_left
    · (intro w hSw; (try dsimp only at hSw); go_simp); with_reducible rfl
    simp only [Act.put, List.setIfInBounds_toArray, List.set_cons_zero, List.set_cons_succ]
    refine wpAnyH_ready (rs := [21]) (by kernel_rfl) (by simp) ?_
    refine AllReadyH.cons (o := ⟨_, _, _, _, _, _⟩) rfl (fun K hK => ?_) (AllReadyH.nil)
    go_simp
    refine hK.out _ _ ⟨blk_cell kS 0, blk_cell kS 1, blk_cell kS 2, blk_cell kS 3, blk_cell kS 4, blk_cell kS 5, blk_cell kS 6, blk_cell kS 7, blk_cell kS 8⟩ (fun hHeld => ?_)
    clear hK K
    refine wpAnyH_take (i := 22) (oi := ⟨_, _, _, _, _, _⟩) (v := ?_) rfl (by kernel_rfl) (by kernel_rfl) (by kernel_rfl) (fun _ _ _ h => h) (Or.inl ⟨by rfl, ?_⟩) (by assumption) ?_
    rotate_left
    · (intro w hSw; (try dsimp only at hSw); go_simp); with_reducible rfl
    simp only [Act.put, List.setIfInBounds_toArray, List.set_cons_zero, List.set_cons_succ]
    refine wpAnyH_take (i := 23) (oi := ⟨_, _, _, _, _, _⟩) (v := ?_) rfl (by kernel_rfl) (by kernel_rfl) (by kernel_rfl) (fun _ _ _ h => h) (Or.inl ⟨by rfl, ?_⟩) (by assumption) ?_
    rotate_left
    · (intro w hSw; (try dsimp only at hSw); go_simp); with_reducible rfl
    simp only [Act.put, List.setIfInBounds_toArray, List.set_cons_zero, List.set_cons_succ]
    refine wpAnyH_take (i := 24) (oi := ⟨_, _, _, _, _, _⟩) (v := ?_) rfl (by kernel_rfl) (by kernel_rfl) (by kernel_rfl) (fun _ _ _ h => h) (Or.inl ⟨by rfl, ?_⟩) (by assumption) ?_
    rotate_left
    · (intro w hSw; (try dsimp only at hSw); go_simp); with_reducible rfl
    simp only [Act.put, List.setIfInBounds_toArray, List.set_cons_zero, List.set_cons_succ]
    refine wpAnyH_done (by kernel_rfl) (NoPanic.normal ?_) _
    go_wp2_with fail
    obtain ⟨ws, hws⟩ : ∃ ws, ws = ((((((((((w2.setCell ⟨w.heap.size, 0, none⟩ (.int .i64 M)).setCell ⟨w.heap.size, 1, none⟩ (.int .i64 S)).setCell ⟨w.heap.size, 2, none⟩ (.int .i64 P)).setCell ⟨w.heap.size, 3, none⟩ (.int .i64 C')).setCell ⟨w.heap.size, 4, none⟩ (.bool ba)).setCell ⟨w.heap.size, 5, none⟩ (.bool fo)).setCell ⟨w.heap.size, 6, none⟩ (.bool ve)).setCell ⟨w.heap.size, 7, none⟩ (.bool tw)).setCell ⟨w.heap.size, 8, none⟩ (.bool false)).alloc (.cells #[.int .i64 M, .int .i64 S, .int .i64 P, .int .i64 C', .bool ba, .bool fo, .bool ve, .bool tw, .bool false] 23)).drew := ⟨_, rfl⟩
    rw [← hws]
    have kR : CB ws w.heap.size M S P C' ba fo ve tw false := by rw [hws]; exact (drew_heap _ _).trans (blk_alloc (cb_set9 kZ (.int .i64 M) (.int .i64 S) (.int .i64 P) (.int .i64 C') (.bool ba) (.bool fo) (.bool ve) (.bool tw) (.bool false)) _)
    have kL : Below w.heap.size w ws := by rw [hws]; exact ((b9s kl (Nat.le_refl _) (.int .i64 M) (.int .i64 S) (.int .i64 P) (.int .i64 C') (.bool ba) (.bool fo) (.bool ve) (.bool tw) (.bool false)).alloc (by simp; omega) _).drew
    clear hws kS z0 z1 z2 z3 z4 z5 z6 z7 z8 f0 f1 f2 f3 f4 f5 f6 f7 f8
    have y0 : World.cell? ws ⟨w.heap.size, 0, none⟩ = some (.int .i64 M) := blk_cell kR 0
    have y1 : World.cell? ws ⟨w.heap.size, 1, none⟩ = some (.int .i64 S) := blk_cell kR 1
    have y2 : World.cell? ws ⟨w.heap.size, 2, none⟩ = some (.int .i64 P) := blk_cell kR 2
    have y3 : World.cell? ws ⟨w.heap.size, 3, none⟩ = some (.int .i64 C') := blk_cell kR 3
    have y4 : World.cell? ws ⟨w.heap.size, 4, none⟩ = some (.bool ba) := blk_cell kR 4
    have y5 : World.cell? ws ⟨w.heap.size, 5, none⟩ = some (.bool fo) := blk_cell kR 5
    have y6 : World.cell? ws ⟨w.heap.size, 6, none⟩ = some (.bool ve) := blk_cell kR 6
    have y7 : World.cell? ws ⟨w.heap.size, 7, none⟩ = some (.bool tw) := blk_cell kR 7
    have y8 : World.cell? ws ⟨w.heap.size, 8, none⟩ = some (.bool false) := blk_cell kR 8
    exact bodyPost_ret (v := .tuple #[cartV M S P C' ba fo ve tw false, .string (x.extract A.toNat (A + P).toNat), .string q, .int .i64 0]) (by rw [EQ.out, EA.out]; simp [results, Try.results19, go_sem, y0, y1, y2, y3, y4, y5, y6, y7, y8]) rfl ⟨rfl, kL⟩
  · have eA : A = 16 := by rw [HA.out]; rfl
    have eQ : q = ⟨#[]⟩ := by rw [HQ.out]; simp
    have hAP : 16 + P ≤ (x.size : Int) := by rw [← eA]; exact hAP
  
    have EA := hidI eA; have EQ := hidI eQ; clear eA eQ
    have v1 : IntKind.i64.wrap (16 + P) = 16 + P := by rw [IntKind.wrap_i64]; omega
    have v2 : (0 : Int) ≤ 16 + P := by omega
    have v3 : (16 : Int) ≤ 16 + P := by omega
  
  
  
    have kZ3 : CB (w2.alloc (.cells #[.int .i64 M, .int .i64 S, .int .i64 P, .int .i64 C', .bool ba, .bool fo, .bool ve, .bool tw, .bool true] 23)) w.heap.size 0 0 0 0 false false false false false := blk_alloc kZ _
    have kC3 : CB (w2.alloc (.cells #[.int .i64 M, .int .i64 S, .int .i64 P, .int .i64 C', .bool ba, .bool fo, .bool ve, .bool tw, .bool true] 23)) w2.heap.size M S P C' ba fo ve tw true := blk_new _ _
    have kl3 : Below w.heap.size w (w2.alloc (.cells #[.int .i64 M, .int .i64 S, .int .i64 P, .int .i64 C', .bool ba, .bool fo, .bool ve, .bool tw, .bool true] 23)) := kl.alloc kl.size _
    have z0 : World.cell? w2 ⟨w.heap.size, 0, none⟩ = some (.int .i64 0) := blk_cell kZ 0
    have f0 : World.frozen? w2 ⟨w.heap.size, 0, none⟩ = false := blk_free kZ 0
    have z1 : World.cell? w2 ⟨w.heap.size, 1, none⟩ = some (.int .i64 0) := blk_cell kZ 1
    have f1 : World.frozen? w2 ⟨w.heap.size, 1, none⟩ = false := blk_free kZ 1
    have z2 : World.cell? w2 ⟨w.heap.size, 2, none⟩ = some (.int .i64 0) := blk_cell kZ 2
    have f2 : World.frozen? w2 ⟨w.heap.size, 2, none⟩ = false := blk_free kZ 2
    have z3 : World.cell? w2 ⟨w.heap.size, 3, none⟩ = some (.int .i64 0) := blk_cell kZ 3
    have f3 : World.frozen? w2 ⟨w.heap.size, 3, none⟩ = false := blk_free kZ 3
    have z4 : World.cell? w2 ⟨w.heap.size, 4, none⟩ = some (.bool false) := blk_cell kZ 4
    have f4 : World.frozen? w2 ⟨w.heap.size, 4, none⟩ = false := blk_free kZ 4
    have z5 : World.cell? w2 ⟨w.heap.size, 5, none⟩ = some (.bool false) := blk_cell kZ 5
    have f5 : World.frozen? w2 ⟨w.heap.size, 5, none⟩ = false := blk_free kZ 5
    have z6 : World.cell? w2 ⟨w.heap.size, 6, none⟩ = some (.bool false) := blk_cell kZ 6
    have f6 : World.frozen? w2 ⟨w.heap.size, 6, none⟩ = false := blk_free kZ 6
    have z7 : World.cell? w2 ⟨w.heap.size, 7, none⟩ = some (.bool false) := blk_cell kZ 7
    have f7 : World.frozen? w2 ⟨w.heap.size, 7, none⟩ = false := blk_free kZ 7
    have z8 : World.cell? w2 ⟨w.heap.size, 8, none⟩ = some (.bool false) := blk_cell kZ 8
    have f8 : World.frozen? w2 ⟨w.heap.size, 8, none⟩ = false := blk_free kZ 8
    go_upto_region 8 with fail
    have kS : CB (((((((((((w2.setCell ⟨w.heap.size, 0, none⟩ (.int .i64 M)).setCell ⟨w.heap.size, 1, none⟩ (.int .i64 S)).setCell ⟨w.heap.size, 2, none⟩ (.int .i64 P)).setCell ⟨w.heap.size, 3, none⟩ (.int .i64 C')).setCell ⟨w.heap.size, 4, none⟩ (.bool ba)).setCell ⟨w.heap.size, 5, none⟩ (.bool fo)).setCell ⟨w.heap.size, 6, none⟩ (.bool ve)).setCell ⟨w.heap.size, 7, none⟩ (.bool tw)).setCell ⟨w.heap.size, 8, none⟩ (.bool true)).alloc (.cells #[.int .i64 M, .int .i64 S, .int .i64 P, .int .i64 C', .bool ba, .bool fo, .bool ve, .bool tw, .bool true] 23)).drew) w2.heap.size M S P C' ba fo ve tw true := (drew_heap _ _).trans (blk_new' _ (by simp))
    refine wp_region_noPanic ?_
    refine wp_region_held_drew (S := (fun w' => w'.cell? ⟨w2.heap.size, 0, none⟩ = some (.int .i64 M) ∧ w'.cell? ⟨w2.heap.size, 1, none⟩ = some (.int .i64 S) ∧ w'.cell? ⟨w2.heap.size, 2, none⟩ = some (.int .i64 P) ∧ w'.cell? ⟨w2.heap.size, 3, none⟩ = some (.int .i64 C') ∧ w'.cell? ⟨w2.heap.size, 4, none⟩ = some (.bool ba) ∧ w'.cell? ⟨w2.heap.size, 5, none⟩ = some (.bool fo) ∧ w'.cell? ⟨w2.heap.size, 6, none⟩ = some (.bool ve) ∧ w'.cell? ⟨w2.heap.size, 7, none⟩ = some (.bool tw) ∧ w'.cell? ⟨w2.heap.size, 8, none⟩ = some (.bool true))) (by kernel_rfl) ⟨blk_cell kC3 0, blk_cell kC3 1, blk_cell kC3 2, blk_cell kC3 3, blk_cell kC3 4, blk_cell kC3 5, blk_cell kC3 6, blk_cell kC3 7, blk_cell kC3 8⟩ (fun hHeld => ?_)
    refine wpAnyH_take (i := 0) (oi := ⟨_, _, _, _, _, _⟩) (v := ?_) rfl (by kernel_rfl) (by kernel_rfl) (by kernel_rfl) (fun _ _ _ h => h) (Or.inl ⟨by rfl, ?_⟩) (by assumption) ?_
    rotate_left
    · (intro w hSw; (try dsimp only at hSw); go_simp); with_reducible rfl
    simp only [Act.put, List.setIfInBounds_toArray, List.set_cons_zero, List.set_cons_succ]
    refine wpAnyH_take (i := 1) (oi := ⟨_, _, _, _, _, _⟩) (v := ?_) rfl (by kernel_rfl) (by kernel_rfl) (by kernel_rfl) (fun _ _ _ h => h) (Or.inl ⟨by rfl, ?_⟩) (by assumption) ?_
    rotate_left
    · (intro w hSw; (try dsimp only at hSw); go_simp); with_reducible rfl
    simp only [Act.put, List.setIfInBounds_toArray, List.set_cons_zero, List.set_cons_succ]
    refine wpAnyH_take (i := 2) (oi := ⟨_, _, _, _, _, _⟩) (v := ?_) rfl (by kernel_rfl) (by kernel_rfl) (by kernel_rfl) (fun _ _ _ h => h) (Or.inl ⟨by rfl, ?_⟩) (by assumption) ?_
    rotate_left
    · (intro w hSw; (try dsimp only at hSw); go_simp); with_reducible rfl
    simp only [Act.put, List.setIfInBounds_toArray, List.set_cons_zero, List.set_cons_succ]
    refine wpAnyH_take (i := 3) (oi := ⟨_, _, _, _, _, _⟩) (v := ?_) rfl (by kernel_rfl) (by kernel_rfl) (by kernel_rfl) (fun _ _ _ h => h) (Or.inl ⟨by rfl, ?_⟩) (by assumption) ?_
    rotate_left
    · (intro w hSw; (try dsimp only at hSw); go_simp); with_reducible rfl
    simp only [Act.put, List.setIfInBounds_toArray, List.set_cons_zero, List.set_cons_succ]
    refine wpAnyH_take (i := 4) (oi := ⟨_, _, _, _, _, _⟩) (v := ?_) rfl (by kernel_rfl) (by kernel_rfl) (by kernel_rfl) (fun _ _ _ h => h) (Or.inl ⟨by rfl, ?_⟩) (by assumption) ?_
    rotate_left
    · (intro w hSw; (try dsimp only at hSw); go_simp); with_reducible rfl
    simp only [Act.put, List.setIfInBounds_toArray, List.set_cons_zero, List.set_cons_succ]
    refine wpAnyH_take (i := 5) (oi := ⟨_, _, _, _, _, _⟩) (v := ?_) rfl (by kernel_rfl) (by kernel_rfl) (by kernel_rfl) (fun _ _ _ h => h) (Or.inl ⟨by rfl, ?_⟩) (by assumption) ?_
    rotate_left
    · (intro w hSw; (try dsimp only at hSw); go_simp); with_reducible rfl
    simp only [Act.put, List.setIfInBounds_toArray, List.set_cons_zero, List.set_cons_succ]
    refine wpAnyH_take (i := 6) (oi := ⟨_, _, _, _, _, _⟩) (v := ?_) rfl (by kernel_rfl) (by kernel_rfl) (by kernel_rfl) (fun _ _ _ h => h) (Or.inl ⟨by rfl, ?_⟩) (by assumption) ?_
    rotate_left
    · (intro w hSw; (try dsimp only at hSw); go_simp); with_reducible rfl
    simp only [Act.put, List.setIfInBounds_toArray, List.set_cons_zero, List.set_cons_succ]
    refine wpAnyH_take (i := 7) (oi := ⟨_, _, _, _, _, _⟩) (v := ?_) rfl (by kernel_rfl) (by kernel_rfl) (by kernel_rfl) (fun _ _ _ h => h) (Or.inl ⟨by rfl, ?_⟩) (by assumption) ?_
    rotate_left
    · (intro w hSw; (try dsimp only at hSw); go_simp); with_reducible rfl
    simp only [Act.put, List.setIfInBounds_toArray, List.set_cons_zero, List.set_cons_succ]
    refine wpAnyH_ready (rs := [8]) (by kernel_rfl) (by simp) ?_
    refine AllReadyH.cons (o := ⟨_, _, _, _, _, _⟩) rfl (fun K hK => ?_) (AllReadyH.nil)
    go_simp
    refine hK.out _ _ ⟨blk_cell kS 0, blk_cell kS 1, blk_cell kS 2, blk_cell kS 3, blk_cell kS 4, blk_cell kS 5, blk_cell kS 6, blk_cell kS 7, blk_cell kS 8⟩ (fun hHeld => ?_)
    clear hK K
    refine wpAnyH_take (i := 9) (oi := ⟨_, _, _, _, _, _⟩) (v := ?_) rfl (by kernel_rfl) (by kernel_rfl) (by kernel_rfl) (fun _ _ _ h => h) (Or.inl ⟨by rfl, ?_⟩) (by assumption) ?_
    rotate_left
    · (intro w hSw; (try dsimp only at hSw); go_simp); with_reducible rfl
    simp only [Act.put, List.setIfInBounds_toArray, List.set_cons_zero, List.set_cons_succ]
    refine wpAnyH_take (i := 10) (oi := ⟨_, _, _, _, _, _⟩) (v := ?_) rfl (by kernel_rfl) (by kernel_rfl) (by kernel_rfl) (fun _ _ _ h => h) (Or.inl ⟨by rfl, ?_⟩) (by assumption) ?_
    rotate_left
    · (intro w hSw; (try dsimp only at hSw); go_simp); with_reducible rfl
    simp only [Act.put, List.setIfInBounds_toArray, List.set_cons_zero, List.set_cons_succ]
    refine wpAnyH_take (i := 11) (oi := ⟨_, _, _, _, _, _⟩) (v := ?_) rfl (by kernel_rfl) (by kernel_rfl) (by kernel_rfl) (fun _ _ _ h => h) (Or.inl ⟨by rfl, ?_⟩) (by assumption) ?_
    rotate_left
    · (intro w hSw; (try dsimp only at hSw); go_simp); with_reducible rfl
    simp only [Act.put, List.setIfInBounds_toArray, List.set_cons_zero, List.set_cons_succ]
    refine wpAnyH_done (by kernel_rfl) (NoPanic.normal ?_) _
    go_wp2_with fail
    obtain ⟨ws, hws⟩ : ∃ ws, ws = ((((((((((w2.setCell ⟨w.heap.size, 0, none⟩ (.int .i64 M)).setCell ⟨w.heap.size, 1, none⟩ (.int .i64 S)).setCell ⟨w.heap.size, 2, none⟩ (.int .i64 P)).setCell ⟨w.heap.size, 3, none⟩ (.int .i64 C')).setCell ⟨w.heap.size, 4, none⟩ (.bool ba)).setCell ⟨w.heap.size, 5, none⟩ (.bool fo)).setCell ⟨w.heap.size, 6, none⟩ (.bool ve)).setCell ⟨w.heap.size, 7, none⟩ (.bool tw)).setCell ⟨w.heap.size, 8, none⟩ (.bool true)).alloc (.cells #[.int .i64 M, .int .i64 S, .int .i64 P, .int .i64 C', .bool ba, .bool fo, .bool ve, .bool tw, .bool true] 23)).drew := ⟨_, rfl⟩
    rw [← hws]
    have kR : CB ws w.heap.size M S P C' ba fo ve tw true := by rw [hws]; exact (drew_heap _ _).trans (blk_alloc (cb_set9 kZ (.int .i64 M) (.int .i64 S) (.int .i64 P) (.int .i64 C') (.bool ba) (.bool fo) (.bool ve) (.bool tw) (.bool true)) _)
    have kL : Below w.heap.size w ws := by rw [hws]; exact ((b9s kl (Nat.le_refl _) (.int .i64 M) (.int .i64 S) (.int .i64 P) (.int .i64 C') (.bool ba) (.bool fo) (.bool ve) (.bool tw) (.bool true)).alloc (by simp; omega) _).drew
    clear hws kS z0 z1 z2 z3 z4 z5 z6 z7 z8 f0 f1 f2 f3 f4 f5 f6 f7 f8
    have y0 : World.cell? ws ⟨w.heap.size, 0, none⟩ = some (.int .i64 M) := blk_cell kR 0
    have y1 : World.cell? ws ⟨w.heap.size, 1, none⟩ = some (.int .i64 S) := blk_cell kR 1
    have y2 : World.cell? ws ⟨w.heap.size, 2, none⟩ = some (.int .i64 P) := blk_cell kR 2
    have y3 : World.cell? ws ⟨w.heap.size, 3, none⟩ = some (.int .i64 C') := blk_cell kR 3
    have y4 : World.cell? ws ⟨w.heap.size, 4, none⟩ = some (.bool ba) := blk_cell kR 4
    have y5 : World.cell? ws ⟨w.heap.size, 5, none⟩ = some (.bool fo) := blk_cell kR 5
    have y6 : World.cell? ws ⟨w.heap.size, 6, none⟩ = some (.bool ve) := blk_cell kR 6
    have y7 : World.cell? ws ⟨w.heap.size, 7, none⟩ = some (.bool tw) := blk_cell kR 7
    have y8 : World.cell? ws ⟨w.heap.size, 8, none⟩ = some (.bool true) := blk_cell kR 8
    exact bodyPost_ret (v := .tuple #[cartV M S P C' ba fo ve tw true, .string (x.extract A.toNat (A + P).toNat), .string q, .int .i64 0]) (by rw [EQ.out, EA.out]; simp [results, Try.results19, go_sem, y0, y1, y2, y3, y4, y5, y6, y7, y8]) rfl ⟨rfl, kL⟩
  · have eA : A = 528 := by rw [HA.out]; rfl
    have eQ : q = x.extract (A + P).toNat (A + P + C').toNat := by rw [HQ.out]; simp
    have hAP : 528 + P ≤ (x.size : Int) := by rw [← eA]; exact hAP
    have hAC : 528 + P + C' ≤ (x.size : Int) := by rw [← eA]; exact hAC rfl
    have EA := hidI eA; have EQ := hidI eQ; clear eA eQ
    have v1 : IntKind.i64.wrap (528 + P) = 528 + P := by rw [IntKind.wrap_i64]; omega
    have v2 : (0 : Int) ≤ 528 + P := by omega
    have v3 : (528 : Int) ≤ 528 + P := by omega
    have v4 : IntKind.i64.wrap (528 + P + C') = 528 + P + C' := by rw [IntKind.wrap_i64]; omega
    have v5 : (0 : Int) ≤ 528 + P + C' := by omega
    have v6 : 528 + P ≤ 528 + P + C' := by omega
    have kZ3 : CB (w2.alloc (.cells #[.int .i64 M, .int .i64 S, .int .i64 P, .int .i64 C', .bool ba, .bool fo, .bool ve, .bool tw, .bool false] 23)) w.heap.size 0 0 0 0 false false false false false := blk_alloc kZ _
    have kC3 : CB (w2.alloc (.cells #[.int .i64 M, .int .i64 S, .int .i64 P, .int .i64 C', .bool ba, .bool fo, .bool ve, .bool tw, .bool false] 23)) w2.heap.size M S P C' ba fo ve tw false := blk_new _ _
    have kl3 : Below w.heap.size w (w2.alloc (.cells #[.int .i64 M, .int .i64 S, .int .i64 P, .int .i64 C', .bool ba, .bool fo, .bool ve, .bool tw, .bool false] 23)) := kl.alloc kl.size _
    have z0 : World.cell? w2 ⟨w.heap.size, 0, none⟩ = some (.int .i64 0) := blk_cell kZ 0
    have f0 : World.frozen? w2 ⟨w.heap.size, 0, none⟩ = false := blk_free kZ 0
    have z1 : World.cell? w2 ⟨w.heap.size, 1, none⟩ = some (.int .i64 0) := blk_cell kZ 1
    have f1 : World.frozen? w2 ⟨w.heap.size, 1, none⟩ = false := blk_free kZ 1
    have z2 : World.cell? w2 ⟨w.heap.size, 2, none⟩ = some (.int .i64 0) := blk_cell kZ 2
    have f2 : World.frozen? w2 ⟨w.heap.size, 2, none⟩ = false := blk_free kZ 2
    have z3 : World.cell? w2 ⟨w.heap.size, 3, none⟩ = some (.int .i64 0) := blk_cell kZ 3
    have f3 : World.frozen? w2 ⟨w.heap.size, 3, none⟩ = false := blk_free kZ 3
    have z4 : World.cell? w2 ⟨w.heap.size, 4, none⟩ = some (.bool false) := blk_cell kZ 4
    have f4 : World.frozen? w2 ⟨w.heap.size, 4, none⟩ = false := blk_free kZ 4
    have z5 : World.cell? w2 ⟨w.heap.size, 5, none⟩ = some (.bool false) := blk_cell kZ 5
    have f5 : World.frozen? w2 ⟨w.heap.size, 5, none⟩ = false := blk_free kZ 5
    have z6 : World.cell? w2 ⟨w.heap.size, 6, none⟩ = some (.bool false) := blk_cell kZ 6
    have f6 : World.frozen? w2 ⟨w.heap.size, 6, none⟩ = false := blk_free kZ 6
    have z7 : World.cell? w2 ⟨w.heap.size, 7, none⟩ = some (.bool false) := blk_cell kZ 7
    have f7 : World.frozen? w2 ⟨w.heap.size, 7, none⟩ = false := blk_free kZ 7
    have z8 : World.cell? w2 ⟨w.heap.size, 8, none⟩ = some (.bool false) := blk_cell kZ 8
    have f8 : World.frozen? w2 ⟨w.heap.size, 8, none⟩ = false := blk_free kZ 8
    go_upto_region 9 with fail
    have kS : CB (((((((((((w2.setCell ⟨w.heap.size, 0, none⟩ (.int .i64 M)).setCell ⟨w.heap.size, 1, none⟩ (.int .i64 S)).setCell ⟨w.heap.size, 2, none⟩ (.int .i64 P)).setCell ⟨w.heap.size, 3, none⟩ (.int .i64 C')).setCell ⟨w.heap.size, 4, none⟩ (.bool ba)).setCell ⟨w.heap.size, 5, none⟩ (.bool fo)).setCell ⟨w.heap.size, 6, none⟩ (.bool ve)).setCell ⟨w.heap.size, 7, none⟩ (.bool tw)).setCell ⟨w.heap.size, 8, none⟩ (.bool false)).alloc (.cells #[.int .i64 M, .int .i64 S, .int .i64 P, .int .i64 C', .bool ba, .bool fo, .bool ve, .bool tw, .bool false] 23)).drew) w2.heap.size M S P C' ba fo ve tw false := (drew_heap _ _).trans (blk_new' _ (by simp))
    refine wp_region_noPanic ?_
    refine wp_region_held_drew (S := (fun w' => w'.cell? ⟨w2.heap.size, 0, none⟩ = some (.int .i64 M) ∧ w'.cell? ⟨w2.heap.size, 1, none⟩ = some (.int .i64 S) ∧ w'.cell? ⟨w2.heap.size, 2, none⟩ = some (.int .i64 P) ∧ w'.cell? ⟨w2.heap.size, 3, none⟩ = some (.int .i64 C') ∧ w'.cell? ⟨w2.heap.size, 4, none⟩ = some (.bool ba) ∧ w'.cell? ⟨w2.heap.size, 5, none⟩ = some (.bool fo) ∧ w'.cell? ⟨w2.heap.size, 6, none⟩ = some (.bool ve) ∧ w'.cell? ⟨w2.heap.size, 7, none⟩ = some (.bool tw) ∧ w'.cell? ⟨w2.heap.size, 8, none⟩ = some (.bool false))) (by kernel_rfl) ⟨blk_cell kC3 0, blk_cell kC3 1, blk_cell kC3 2, blk_cell kC3 3, blk_cell kC3 4, blk_cell kC3 5, blk_cell kC3 6, blk_cell kC3 7, blk_cell kC3 8⟩ (fun hHeld => ?_)
    refine wpAnyH_take (i := 0) (oi := ⟨_, _, _, _, _, _⟩) (v := ?_) rfl (by kernel_rfl) (by kernel_rfl) (by kernel_rfl) (fun _ _ _ h => h) (Or.inl ⟨by rfl, ?_⟩) (by assumption) ?_
    rotate_left
    · (intro w hSw; (try dsimp only at hSw); go_simp); with_reducible rfl
    simp only [Act.put, List.setIfInBounds_toArray, List.set_cons_zero, List.set_cons_succ]
    refine wpAnyH_take (i := 1) (oi := ⟨_, _, _, _, _, _⟩) (v := ?_) rfl (by kernel_rfl) (by kernel_rfl) (by kernel_rfl) (fun _ _ _ h => h) (Or.inl ⟨by rfl, ?_⟩) (by assumption) ?_
    rotate_left
    · (intro w hSw; (try dsimp only at hSw); go_simp); with_reducible rfl
    simp only [Act.put, List.setIfInBounds_toArray, List.set_cons_zero, List.set_cons_succ]
    refine wpAnyH_take (i := 2) (oi := ⟨_, _, _, _, _, _⟩) (v := ?_) rfl (by kernel_rfl) (by kernel_rfl) (by kernel_rfl) (fun _ _ _ h => h) (Or.inl ⟨by rfl, ?_⟩) (by assumption) ?_
    rotate_left
    · (intro w hSw; (try dsimp only at hSw); go_simp); with_reducible rfl
    simp only [Act.put, List.setIfInBounds_toArray, List.set_cons_zero, List.set_cons_succ]
    refine wpAnyH_take (i := 3) (oi := ⟨_, _, _, _, _, _⟩) (v := ?_) rfl (by kernel_rfl) (by kernel_rfl) (by kernel_rfl) (fun _ _ _ h => h) (Or.inl ⟨by rfl, ?_⟩) (by assumption) ?_
    rotate_left
    · (intro w hSw; (try dsimp only at hSw); go_simp); with_reducible rfl
    simp only [Act.put, List.setIfInBounds_toArray, List.set_cons_zero, List.set_cons_succ]
    refine wpAnyH_take (i := 4) (oi := ⟨_, _, _, _, _, _⟩) (v := ?_) rfl (by kernel_rfl) (by kernel_rfl) (by kernel_rfl) (fun _ _ _ h => h) (Or.inl ⟨by rfl, ?_⟩) (by assumption) ?_
    rotate_left
    · (intro w hSw; (try dsimp only at hSw); go_simp); with_reducible rfl
    simp only [Act.put, List.setIfInBounds_toArray, List.set_cons_zero, List.set_cons_succ]
    refine wpAnyH_take (i := 5) (oi := ⟨_, _, _, _, _, _⟩) (v := ?_) rfl (by kernel_rfl) (by kernel_rfl) (by kernel_rfl) (fun _ _ _ h => h) (Or.inl ⟨by rfl, ?_⟩) (by assumption) ?_
    rotate_left
    · (intro w hSw; (try dsimp only at hSw); go_simp); with_reducible rfl
    simp only [Act.put, List.setIfInBounds_toArray, List.set_cons_zero, List.set_cons_succ]
    refine wpAnyH_take (i := 6) (oi := ⟨_, _, _, _, _, _⟩) (v := ?_) rfl (by kernel_rfl) (by kernel_rfl) (by kernel_rfl) (fun _ _ _ h => h) (Or.inl ⟨by rfl, ?_⟩) (by assumption) ?_
    rotate_left
    · (intro w hSw; (try dsimp only at hSw); go_simp); with_reducible rfl
    simp only [Act.put, List.setIfInBounds_toArray, List.set_cons_zero, List.set_cons_succ]
    refine wpAnyH_take (i := 7) (oi := ⟨_, _, _, _, _, _⟩) (v := ?_) rfl (by kernel_rfl) (by kernel_rfl) (by kernel_rfl) (fun _ _ _ h => h) (Or.inl ⟨by rfl, ?_⟩) (by assumption) ?_
    rotate_left
    · (intro w hSw; (try dsimp only at hSw); go_simp); with_reducible rfl
    simp only [Act.put, List.setIfInBounds_toArray, List.set_cons_zero, List.set_cons_succ]
    refine wpAnyH_take (i := 8) (oi := ⟨_, _, _, _, _, _⟩) (v := ?_) rfl (by kernel_rfl) (by kernel_rfl) (by kernel_rfl) (fun _ _ _ h => h) (Or.inl ⟨by rfl, ?_⟩) (by assumption) ?_
    rotate_left
    · (intro w hSw; (try dsimp only at hSw); go_simp); with_reducible rfl
    simp only [Act.put, List.setIfInBounds_toArray, List.set_cons_zero, List.set_cons_succ]
    refine wpAnyH_take (i := 9) (oi := ⟨_, _, _, _, _, _⟩) (v := ?_) rfl (by kernel_rfl) (by kernel_rfl) (by kernel_rfl) (fun _ _ _ h => h) (Or.inl ⟨by rfl, ?_⟩) (by assumption) ?_
    rotate_left
    · (intro w hSw; (try dsimp only at hSw); go_simp); with_reducible rfl
    simp only [Act.put, List.setIfInBounds_toArray, List.set_cons_zero, List.set_cons_succ]
    refine wpAnyH_take (i := 10) (oi := ⟨_, _, _, _, _, _⟩) (v := ?_) rfl (by kernel_rfl) (by kernel_rfl) (by kernel_rfl) (fun _ _ _ h => h) (Or.inl ⟨by rfl, ?_⟩) (by assumption) ?_
    rotate_left
    · (intro w hSw; (try dsimp only at hSw); go_simp); with_reducible rfl
    simp only [Act.put, List.setIfInBounds_toArray, List.set_cons_zero, List.set_cons_succ]
    refine wpAnyH_take (i := 11) (oi := ⟨_, _, _, _, _, _⟩) (v := ?_) rfl (by kernel_rfl) (by kernel_rfl) (by kernel_rfl) (fun _ _ _ h => h) (Or.inl ⟨by rfl, ?_⟩) (by assumption) ?_
    rotate_left
    · (intro w hSw; (try dsimp only at hSw); go_simp); with_reducible rfl
    simp only [Act.put, List.setIfInBounds_toArray, List.set_cons_zero, List.set_cons_succ]
    refine wpAnyH_take (i := 12) (oi := ⟨_, _, _, _, _, _⟩) (v := ?_) rfl (by kernel_rfl) (by kernel_rfl) (by kernel_rfl) (fun _ _ _ h => h) (Or.inl ⟨by rfl, ?_⟩) (by assumption) ?_
    rotate_left
    · (intro w hSw; (try dsimp only at hSw); go_simp); with_reducible rfl
    simp only [Act.put, List.setIfInBounds_toArray, List.set_cons_zero, List.set_cons_succ]
    refine wpAnyH_take (i := 13) (oi := ⟨_, _, _, _, _, _⟩) (v := ?_) rfl (by kernel_rfl) (by kernel_rfl) (by kernel_rfl) (fun _ _ _ h => h) (Or.inl ⟨by rfl, ?_⟩) (by assumption) ?_
    rotate_left
    · (intro w hSw; (try dsimp only at hSw); go_simp); with_reducible rfl
    simp only [Act.put, List.setIfInBounds_toArray, List.set_cons_zero, List.set_cons_succ]
    refine wpAnyH_take (i := 14) (oi := ⟨_, _, _, _, _, _⟩) (v := ?_) rfl (by kernel_rfl) (by kernel_rfl) (by kernel_rfl) (fun _ _ _ h => h) (Or.inl ⟨by rfl, ?_⟩) (by assumption) ?_
    rotate_left
    · (intro w hSw; (try dsimp only at hSw); go_simp); with_reducible rfl
    simp only [Act.put, List.setIfInBounds_toArray, List.set_cons_zero, List.set_cons_succ]
    refine wpAnyH_take (i := 15) (oi := ⟨_, _, _, _, _, _⟩) (v := ?_) rfl (by kernel_rfl) (by kernel_rfl) (by kernel_rfl) (fun _ _ _ h => h) (Or.inl ⟨by rfl, ?_⟩) (by assumption) ?_
    rotate_left
    · (intro w hSw; (try dsimp only at hSw); go_simp); with_reducible rfl
    simp only [Act.put, List.setIfInBounds_toArray, List.set_cons_zero, List.set_cons_succ]
    refine wpAnyH_take (i := 16) (oi := ⟨_, _, _, _, _, _⟩) (v := ?_) rfl (by kernel_rfl) (by kernel_rfl) (by kernel_rfl) (fun _ _ _ h => h) (Or.inl ⟨by rfl, ?_⟩) (by assumption) ?_
    rotate_left
    · (intro w hSw; (try dsimp only at hSw); go_simp); with_reducible rfl
    simp only [Act.put, List.setIfInBounds_toArray, List.set_cons_zero, List.set_cons_succ]
    refine wpAnyH_take (i := 17) (oi := ⟨_, _, _, _, _, _⟩) (v := ?_) rfl (by kernel_rfl) (by kernel_rfl) (by kernel_rfl) (fun _ _ _ h => h) (Or.inl ⟨by rfl, ?_⟩) (by assumption) ?_
    rotate_left
    · (intro w hSw; (try dsimp only at hSw); go_simp); with_reducible rfl
    simp only [Act.put, List.setIfInBounds_toArray, List.set_cons_zero, List.set_cons_succ]
    refine wpAnyH_take (i := 18) (oi := ⟨_, _, _, _, _, _⟩) (v := ?_) rfl (by kernel_rfl) (by kernel_rfl) (by kernel_rfl) (fun _ _ _ h => h) (Or.inl ⟨by rfl, ?_⟩) (by assumption) ?_
    rotate_left
    · (intro w hSw; (try dsimp only at hSw); go_simp); with_reducible rfl
    simp only [Act.put, List.setIfInBounds_toArray, List.set_cons_zero, List.set_cons_succ]
    refine wpAnyH_take (i := 19) (oi := ⟨_, _, _, _, _, _⟩) (v := ?_) rfl (by kernel_rfl) (by kernel_rfl) (by kernel_rfl) (fun _ _ _ h => h) (Or.inl ⟨by rfl, ?_⟩) (by assumption) ?_
    rotate_left
    · (intro w hSw; (try dsimp only at hSw); go_simp); with_reducible rfl
    simp only [Act.put, List.setIfInBounds_toArray, List.set_cons_zero, List.set_cons_succ]
    refine wpAnyH_take (i := 20) (oi := ⟨_, _, _, _, _, _⟩) (v := ?_) rfl (by kernel_rfl) (by kernel_rfl) (by kernel_rfl) (fun _ _ _ h => h) (Or.inl ⟨by rfl, ?_⟩) (by assumption) ?_
    rotate_left
    · (intro w hSw; (try dsimp only at hSw); go_simp); with_reducible rfl
    simp only [Act.put, List.setIfInBounds_toArray, List.set_cons_zero, List.set_cons_succ]
    refine wpAnyH_ready (rs := [21]) (by kernel_rfl) (by simp) ?_
    refine AllReadyH.cons (o := ⟨_, _, _, _, _, _⟩) rfl (fun K hK => ?_) (AllReadyH.nil)
    go_simp
    refine hK.out _ _ ⟨blk_cell kS 0, blk_cell kS 1, blk_cell kS 2, blk_cell kS 3, blk_cell kS 4, blk_cell kS 5, blk_cell kS 6, blk_cell kS 7, blk_cell kS 8⟩ (fun hHeld => ?_)
    clear hK K
    refine wpAnyH_take (i := 22) (oi := ⟨_, _, _, _, _, _⟩) (v := ?_) rfl (by kernel_rfl) (by kernel_rfl) (by kernel_rfl) (fun _ _ _ h => h) (Or.inl ⟨by rfl, ?_⟩) (by assumption) ?_
    rotate_left
    · (intro w hSw; (try dsimp only at hSw); go_simp); with_reducible rfl
    simp only [Act.put, List.setIfInBounds_toArray, List.set_cons_zero, List.set_cons_succ]
    refine wpAnyH_take (i := 23) (oi := ⟨_, _, _, _, _, _⟩) (v := ?_) rfl (by kernel_rfl) (by kernel_rfl) (by kernel_rfl) (fun _ _ _ h => h) (Or.inl ⟨by rfl, ?_⟩) (by assumption) ?_
    rotate_left
    · (intro w hSw; (try dsimp only at hSw); go_simp); with_reducible rfl
    simp only [Act.put, List.setIfInBounds_toArray, List.set_cons_zero, List.set_cons_succ]
    refine wpAnyH_take (i := 24) (oi := ⟨_, _, _, _, _, _⟩) (v := ?_) rfl (by kernel_rfl) (by kernel_rfl) (by kernel_rfl) (fun _ _ _ h => h) (Or.inl ⟨by rfl, ?_⟩) (by assumption) ?_
    rotate_left
    · (intro w hSw; (try dsimp only at hSw); go_simp); with_reducible rfl
    simp only [Act.put, List.setIfInBounds_toArray, List.set_cons_zero, List.set_cons_succ]
    refine wpAnyH_done (by kernel_rfl) (NoPanic.normal ?_) _
    go_wp2_with fail
    obtain ⟨ws, hws⟩ : ∃ ws, ws = ((((((((((w2.setCell ⟨w.heap.size, 0, none⟩ (.int .i64 M)).setCell ⟨w.heap.size, 1, none⟩ (.int .i64 S)).setCell ⟨w.heap.size, 2, none⟩ (.int .i64 P)).setCell ⟨w.heap.size, 3, none⟩ (.int .i64 C')).setCell ⟨w.heap.size, 4, none⟩ (.bool ba)).setCell ⟨w.heap.size, 5, none⟩ (.bool fo)).setCell ⟨w.heap.size, 6, none⟩ (.bool ve)).setCell ⟨w.heap.size, 7, none⟩ (.bool tw)).setCell ⟨w.heap.size, 8, none⟩ (.bool false)).alloc (.cells #[.int .i64 M, .int .i64 S, .int .i64 P, .int .i64 C', .bool ba, .bool fo, .bool ve, .bool tw, .bool false] 23)).drew := ⟨_, rfl⟩
    rw [← hws]
    have kR : CB ws w.heap.size M S P C' ba fo ve tw false := by rw [hws]; exact (drew_heap _ _).trans (blk_alloc (cb_set9 kZ (.int .i64 M) (.int .i64 S) (.int .i64 P) (.int .i64 C') (.bool ba) (.bool fo) (.bool ve) (.bool tw) (.bool false)) _)
    have kL : Below w.heap.size w ws := by rw [hws]; exact ((b9s kl (Nat.le_refl _) (.int .i64 M) (.int .i64 S) (.int .i64 P) (.int .i64 C') (.bool ba) (.bool fo) (.bool ve) (.bool tw) (.bool false)).alloc (by simp; omega) _).drew
    clear hws kS z0 z1 z2 z3 z4 z5 z6 z7 z8 f0 f1 f2 f3 f4 f5 f6 f7 f8
    have y0 : World.cell? ws ⟨w.heap.size, 0, none⟩ = some (.int .i64 M) := blk_cell kR 0
    have y1 : World.cell? ws ⟨w.heap.size, 1, none⟩ = some (.int .i64 S) := blk_cell kR 1
    have y2 : World.cell? ws ⟨w.heap.size, 2, none⟩ = some (.int .i64 P) := blk_cell kR 2
    have y3 : World.cell? ws ⟨w.heap.size, 3, none⟩ = some (.int .i64 C') := blk_cell kR 3
    have y4 : World.cell? ws ⟨w.heap.size, 4, none⟩ = some (.bool ba) := blk_cell kR 4
    have y5 : World.cell? ws ⟨w.heap.size, 5, none⟩ = some (.bool fo) := blk_cell kR 5
    have y6 : World.cell? ws ⟨w.heap.size, 6, none⟩ = some (.bool ve) := blk_cell kR 6
    have y7 : World.cell? ws ⟨w.heap.size, 7, none⟩ = some (.bool tw) := blk_cell kR 7
    have y8 : World.cell? ws ⟨w.heap.size, 8, none⟩ = some (.bool false) := blk_cell kR 8
    exact bodyPost_ret (v := .tuple #[cartV M S P C' ba fo ve tw false, .string (x.extract A.toNat (A + P).toNat), .string q, .int .i64 0]) (by rw [EQ.out, EA.out]; simp [results, Try.results19, go_sem, y0, y1, y2, y3, y4, y5, y6, y7, y8]) rfl ⟨rfl, kL⟩
  · have eA : A = 528 := by rw [HA.out]; rfl
    have eQ : q = ⟨#[]⟩ := by rw [HQ.out]; simp
    have hAP : 528 + P ≤ (x.size : Int) := by rw [← eA]; exact hAP
  
    have EA := hidI eA; have EQ := hidI eQ; clear eA eQ
    have v1 : IntKind.i64.wrap (528 + P) = 528 + P := by rw [IntKind.wrap_i64]; omega
    have v2 : (0 : Int) ≤ 528 + P := by omega
    have v3 : (528 : Int) ≤ 528 + P := by omega
  
  
  
    have kZ3 : CB (w2.alloc (.cells #[.int .i64 M, .int .i64 S, .int .i64 P, .int .i64 C', .bool ba, .bool fo, .bool ve, .bool tw, .bool true] 23)) w.heap.size 0 0 0 0 false false false false false := blk_alloc kZ _
    have kC3 : CB (w2.alloc (.cells #[.int .i64 M, .int .i64 S, .int .i64 P, .int .i64 C', .bool ba, .bool fo, .bool ve, .bool tw, .bool true] 23)) w2.heap.size M S P C' ba fo ve tw true := blk_new _ _
    have kl3 : Below w.heap.size w (w2.alloc (.cells #[.int .i64 M, .int .i64 S, .int .i64 P, .int .i64 C', .bool ba, .bool fo, .bool ve, .bool tw, .bool true] 23)) := kl.alloc kl.size _
    have z0 : World.cell? w2 ⟨w.heap.size, 0, none⟩ = some (.int .i64 0) := blk_cell kZ 0
    have f0 : World.frozen? w2 ⟨w.heap.size, 0, none⟩ = false := blk_free kZ 0
    have z1 : World.cell? w2 ⟨w.heap.size, 1, none⟩ = some (.int .i64 0) := blk_cell kZ 1
    have f1 : World.frozen? w2 ⟨w.heap.size, 1, none⟩ = false := blk_free kZ 1
    have z2 : World.cell? w2 ⟨w.heap.size, 2, none⟩ = some (.int .i64 0) := blk_cell kZ 2
    have f2 : World.frozen? w2 ⟨w.heap.size, 2, none⟩ = false := blk_free kZ 2
    have z3 : World.cell? w2 ⟨w.heap.size, 3, none⟩ = some (.int .i64 0) := blk_cell kZ 3
    have f3 : World.frozen? w2 ⟨w.heap.size, 3, none⟩ = false := blk_free kZ 3
    have z4 : World.cell? w2 ⟨w.heap.size, 4, none⟩ = some (.bool false) := blk_cell kZ 4
    have f4 : World.frozen? w2 ⟨w.heap.size, 4, none⟩ = false := blk_free kZ 4
    have z5 : World.cell? w2 ⟨w.heap.size, 5, none⟩ = some (.bool false) := blk_cell kZ 5
    have f5 : World.frozen? w2 ⟨w.heap.size, 5, none⟩ = false := blk_free kZ 5
    have z6 : World.cell? w2 ⟨w.heap.size, 6, none⟩ = some (.bool false) := blk_cell kZ 6
    have f6 : World.frozen? w2 ⟨w.heap.size, 6, none⟩ = false := blk_free kZ 6
    have z7 : World.cell? w2 ⟨w.heap.size, 7, none⟩ = some (.bool false) := blk_cell kZ 7
    have f7 : World.frozen? w2 ⟨w.heap.size, 7, none⟩ = false := blk_free kZ 7
    have z8 : World.cell? w2 ⟨w.heap.size, 8, none⟩ = some (.bool false) := blk_cell kZ 8
    have f8 : World.frozen? w2 ⟨w.heap.size, 8, none⟩ = false := blk_free kZ 8
    go_upto_region 8 with fail
    have kS : CB (((((((((((w2.setCell ⟨w.heap.size, 0, none⟩ (.int .i64 M)).setCell ⟨w.heap.size, 1, none⟩ (.int .i64 S)).setCell ⟨w.heap.size, 2, none⟩ (.int .i64 P)).setCell ⟨w.heap.size, 3, none⟩ (.int .i64 C')).setCell ⟨w.heap.size, 4, none⟩ (.bool ba)).setCell ⟨w.heap.size, 5, none⟩ (.bool fo)).setCell ⟨w.heap.size, 6, none⟩ (.bool ve)).setCell ⟨w.heap.size, 7, none⟩ (.bool tw)).setCell ⟨w.heap.size, 8, none⟩ (.bool true)).alloc (.cells #[.int .i64 M, .int .i64 S, .int .i64 P, .int .i64 C', .bool ba, .bool fo, .bool ve, .bool tw, .bool true] 23)).drew) w2.heap.size M S P C' ba fo ve tw true := (drew_heap _ _).trans (blk_new' _ (by simp))
    refine wp_region_noPanic ?_
    refine wp_region_held_drew (S := (fun w' => w'.cell? ⟨w2.heap.size, 0, none⟩ = some (.int .i64 M) ∧ w'.cell? ⟨w2.heap.size, 1, none⟩ = some (.int .i64 S) ∧ w'.cell? ⟨w2.heap.size, 2, none⟩ = some (.int .i64 P) ∧ w'.cell? ⟨w2.heap.size, 3, none⟩ = some (.int .i64 C') ∧ w'.cell? ⟨w2.heap.size, 4, none⟩ = some (.bool ba) ∧ w'.cell? ⟨w2.heap.size, 5, none⟩ = some (.bool fo) ∧ w'.cell? ⟨w2.heap.size, 6, none⟩ = some (.bool ve) ∧ w'.cell? ⟨w2.heap.size, 7, none⟩ = some (.bool tw) ∧ w'.cell? ⟨w2.heap.size, 8, none⟩ = some (.bool true))) (by kernel_rfl) ⟨blk_cell kC3 0, blk_cell kC3 1, blk_cell kC3 2, blk_cell kC3 3, blk_cell kC3 4, blk_cell kC3 5, blk_cell kC3 6, blk_cell kC3 7, blk_cell kC3 8⟩ (fun hHeld => ?_)
    refine wpAnyH_take (i := 0) (oi := ⟨_, _, _, _, _, _⟩) (v := ?_) rfl (by kernel_rfl) (by kernel_rfl) (by kernel_rfl) (fun _ _ _ h => h) (Or.inl ⟨by rfl, ?_⟩) (by assumption) ?_
    rotate_left
    · (intro w hSw; (try dsimp only at hSw); go_simp); with_reducible rfl
    simp only [Act.put, List.setIfInBounds_toArray, List.set_cons_zero, List.set_cons_succ]
    refine wpAnyH_take (i := 1) (oi := ⟨_, _, _, _, _, _⟩) (v := ?_) rfl (by kernel_rfl) (by kernel_rfl) (by kernel_rfl) (fun _ _ _ h => h) (Or.inl ⟨by rfl, ?_⟩) (by assumption) ?_
    rotate_left
    · (intro w hSw; (try dsimp only at hSw); go_simp); with_reducible rfl
    simp only [Act.put, List.setIfInBounds_toArray, List.set_cons_zero, List.set_cons_succ]
    refine wpAnyH_take (i := 2) (oi := ⟨_, _, _, _, _, _⟩) (v := ?_) rfl (by kernel_rfl) (by kernel_rfl) (by kernel_rfl) (fun _ _ _ h => h) (Or.inl ⟨by rfl, ?_⟩) (by assumption) ?_
    rotate_left
    · (intro w hSw; (try dsimp only at hSw); go_simp); with_reducible rfl
    simp only [Act.put, List.setIfInBounds_toArray, List.set_cons_zero, List.set_cons_succ]
    refine wpAnyH_take (i := 3) (oi := ⟨_, _, _, _, _, _⟩) (v := ?_) rfl (by kernel_rfl) (by kernel_rfl) (by kernel_rfl) (fun _ _ _ h => h) (Or.inl ⟨by rfl, ?_⟩) (by assumption) ?_
    rotate_left
    · (intro w hSw; (try dsimp only at hSw); go_simp); with_reducible rfl
    simp only [Act.put, List.setIfInBounds_toArray, List.set_cons_zero, List.set_cons_succ]
    refine wpAnyH_take (i := 4) (oi := ⟨_, _, _, _, _, _⟩) (v := ?_) rfl (by kernel_rfl) (by kernel_rfl) (by kernel_rfl) (fun _ _ _ h => h) (Or.inl ⟨by rfl, ?_⟩) (by assumption) ?_
    rotate_left
    · (intro w hSw; (try dsimp only at hSw); go_simp); with_reducible rfl
    simp only [Act.put, List.setIfInBounds_toArray, List.set_cons_zero, List.set_cons_succ]
    refine wpAnyH_take (i := 5) (oi := ⟨_, _, _, _, _, _⟩) (v := ?_) rfl (by kernel_rfl) (by kernel_rfl) (by kernel_rfl) (fun _ _ _ h => h) (Or.inl ⟨by rfl, ?_⟩) (by assumption) ?_
    rotate_left
    · (intro w hSw; (try dsimp only at hSw); go_simp); with_reducible rfl
    simp only [Act.put, List.setIfInBounds_toArray, List.set_cons_zero, List.set_cons_succ]
    refine wpAnyH_take (i := 6) (oi := ⟨_, _, _, _, _, _⟩) (v := ?_) rfl (by kernel_rfl) (by kernel_rfl) (by kernel_rfl) (fun _ _ _ h => h) (Or.inl ⟨by rfl, ?_⟩) (by assumption) ?_
    rotate_left
    · (intro w hSw; (try dsimp only at hSw); go_simp); with_reducible rfl
    simp only [Act.put, List.setIfInBounds_toArray, List.set_cons_zero, List.set_cons_succ]
    refine wpAnyH_take (i := 7) (oi := ⟨_, _, _, _, _, _⟩) (v := ?_) rfl (by kernel_rfl) (by kernel_rfl) (by kernel_rfl) (fun _ _ _ h => h) (Or.inl ⟨by rfl, ?_⟩) (by assumption) ?_
    rotate_left
    · (intro w hSw; (try dsimp only at hSw); go_simp); with_reducible rfl
    simp only [Act.put, List.setIfInBounds_toArray, List.set_cons_zero, List.set_cons_succ]
    refine wpAnyH_ready (rs := [8]) (by kernel_rfl) (by simp) ?_
    refine AllReadyH.cons (o := ⟨_, _, _, _, _, _⟩) rfl (fun K hK => ?_) (AllReadyH.nil)
    go_simp
    refine hK.out _ _ ⟨blk_cell kS 0, blk_cell kS 1, blk_cell kS 2, blk_cell kS 3, blk_cell kS 4, blk_cell kS 5, blk_cell kS 6, blk_cell kS 7, blk_cell kS 8⟩ (fun hHeld => ?_)
    clear hK K
    refine wpAnyH_take (i := 9) (oi := ⟨_, _, _, _, _, _⟩) (v := ?_) rfl (by kernel_rfl) (by kernel_rfl) (by kernel_rfl) (fun _ _ _ h => h) (Or.inl ⟨by rfl, ?_⟩) (by assumption) ?_
    rotate_left
    · (intro w hSw; (try dsimp only at hSw); go_simp); with_reducible rfl
    simp only [Act.put, List.setIfInBounds_toArray, List.set_cons_zero, List.set_cons_succ]
    refine wpAnyH_take (i := 10) (oi := ⟨_, _, _, _, _, _⟩) (v := ?_) rfl (by kernel_rfl) (by kernel_rfl) (by kernel_rfl) (fun _ _ _ h => h) (Or.inl ⟨by rfl, ?_⟩) (by assumption) ?_
    rotate_left
    · (intro w hSw; (try dsimp only at hSw); go_simp); with_reducible rfl
    simp only [Act.put, List.setIfInBounds_toArray, List.set_cons_zero, List.set_cons_succ]
    refine wpAnyH_take (i := 11) (oi := ⟨_, _, _, _, _, _⟩) (v := ?_) rfl (by kernel_rfl) (by kernel_rfl) (by kernel_rfl) (fun _ _ _ h => h) (Or.inl ⟨by rfl, ?_⟩) (by assumption) ?_
    rotate_left
    · (intro w hSw; (try dsimp only at hSw); go_simp); with_reducible rfl
    simp only [Act.put, List.setIfInBounds_toArray, List.set_cons_zero, List.set_cons_succ]
    refine wpAnyH_done (by kernel_rfl) (NoPanic.normal ?_) _
    go_wp2_with fail
    obtain ⟨ws, hws⟩ : ∃ ws, ws = ((((((((((w2.setCell ⟨w.heap.size, 0, none⟩ (.int .i64 M)).setCell ⟨w.heap.size, 1, none⟩ (.int .i64 S)).setCell ⟨w.heap.size, 2, none⟩ (.int .i64 P)).setCell ⟨w.heap.size, 3, none⟩ (.int .i64 C')).setCell ⟨w.heap.size, 4, none⟩ (.bool ba)).setCell ⟨w.heap.size, 5, none⟩ (.bool fo)).setCell ⟨w.heap.size, 6, none⟩ (.bool ve)).setCell ⟨w.heap.size, 7, none⟩ (.bool tw)).setCell ⟨w.heap.size, 8, none⟩ (.bool true)).alloc (.cells #[.int .i64 M, .int .i64 S, .int .i64 P, .int .i64 C', .bool ba, .bool fo, .bool ve, .bool tw, .bool true] 23)).drew := ⟨_, rfl⟩
    rw [← hws]
    have kR : CB ws w.heap.size M S P C' ba fo ve tw true := by rw [hws]; exact (drew_heap _ _).trans (blk_alloc (cb_set9 kZ (.int .i64 M) (.int .i64 S) (.int .i64 P) (.int .i64 C') (.bool ba) (.bool fo) (.bool ve) (.bool tw) (.bool true)) _)
    have kL : Below w.heap.size w ws := by rw [hws]; exact ((b9s kl (Nat.le_refl _) (.int .i64 M) (.int .i64 S) (.int .i64 P) (.int .i64 C') (.bool ba) (.bool fo) (.bool ve) (.bool tw) (.bool true)).alloc (by simp; omega) _).drew
    clear hws kS z0 z1 z2 z3 z4 z5 z6 z7 z8 f0 f1 f2 f3 f4 f5 f6 f7 f8
    have y0 : World.cell? ws ⟨w.heap.size, 0, none⟩ = some (.int .i64 M) := blk_cell kR 0
    have y1 : World.cell? ws ⟨w.heap.size, 1, none⟩ = some (.int .i64 S) := blk_cell kR 1
    have y2 : World.cell? ws ⟨w.heap.size, 2, none⟩ = some (.int .i64 P) := blk_cell kR 2
    have y3 : World.cell? ws ⟨w.heap.size, 3, none⟩ = some (.int .i64 C') := blk_cell kR 3
    have y4 : World.cell? ws ⟨w.heap.size, 4, none⟩ = some (.bool ba) := blk_cell kR 4
    have y5 : World.cell? ws ⟨w.heap.size, 5, none⟩ = some (.bool fo) := blk_cell kR 5
    have y6 : World.cell? ws ⟨w.heap.size, 6, none⟩ = some (.bool ve) := blk_cell kR 6
    have y7 : World.cell? ws ⟨w.heap.size, 7, none⟩ = some (.bool tw) := blk_cell kR 7
    have y8 : World.cell? ws ⟨w.heap.size, 8, none⟩ = some (.bool true) := blk_cell kR 8
    exact bodyPost_ret (v := .tuple #[cartV M S P C' ba fo ve tw true, .string (x.extract A.toNat (A + P).toNat), .string q, .int .i64 0]) (by rw [EQ.out, EA.out]; simp [results, Try.results19, go_sem, y0, y1, y2, y3, y4, y5, y6, y7, y8]) rfl ⟨rfl, kL⟩
end Go.Proofs.Ytolennlpkpkhhaa
