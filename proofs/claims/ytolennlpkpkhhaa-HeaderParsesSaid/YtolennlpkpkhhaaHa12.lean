import Derived.Test.YtolennlpkpkhhaaHa11
namespace Go.Proofs.Ytolennlpkpkhhaa
open Go.RowKit Go.Sx
theorem e0_of {K : Int} {c : Prop} [Decidable c] (h : (if K ≠ 0 then K else if c then (5 : Int) else 0) = 0) : K = 0 ∧ ¬ c := by
  by_cases h1 : K = 0
  · subst h1
    by_cases h2 : c
    · simp [h2] at h
    · exact ⟨rfl, h2⟩
  · simp [h1] at h
theorem err_zero {x : ByteArray} {P C : Int} (h : errB x P C = 0) : mgB x = true ∧ powB P 16384 = true ∧ powB (if C = 0 then 8192 else C) 8192 = true ∧ 16 + P + C + (if (bt x 6 / 2 ^ 2 % 2 == 1) then 512 else 0) ≤ (x.size : Int) := by
  cases hm : mgB x
  · have e : errB x P C = 4 := by unfold errB; rw [hm]; simp
    rw [e] at h; cases h
  · have e : errB x P C = if chk (mpB (bt x 6) (bt x 7) (bt x 8)) (sbB (bt x 7) (bt x 8)) P (if C = 0 then 8192 else C) (twB (bt x 7)) (C == 0) ≠ 0 then chk (mpB (bt x 6) (bt x 7) (bt x 8)) (sbB (bt x 7) (bt x 8)) P (if C = 0 then 8192 else C) (twB (bt x 7)) (C == 0) else if (x.size : Int) < 16 + P + C + (if (bt x 6 / 2 ^ 2 % 2 == 1) then 512 else 0) then 5 else 0 := by
      unfold errB; rw [if_pos hm]
    rw [e] at h
    obtain ⟨hk0, hl⟩ := e0_of h
    by_cases hk : 0 ≤ mpB (bt x 6) (bt x 7) (bt x 8) ∧ mpB (bt x 6) (bt x 7) (bt x 8) ≤ 4 ∨ mpB (bt x 6) (bt x 7) (bt x 8) = 7
    · refine ⟨rfl, ?_, ?_, by omega⟩
      · cases hp : powB P 16384 with
        | true => rfl
        | false => rw [chk5 _ _ _ _ _ _ hk (.inl hp)] at hk0; exact absurd hk0 (by decide)
      · cases hp : powB (if C = 0 then 8192 else C) 8192 with
        | true => rfl
        | false => rw [chk5 _ _ _ _ _ _ hk (.inr hp)] at hk0; exact absurd hk0 (by decide)
    · rw [chk6 _ _ _ _ _ _ hk] at hk0; exact absurd hk0 (by decide)
theorem pow_pos {n u : Int} (hu : u = 16384 ∨ u = 8192) (h : powB n u = true) : 0 < n ∧ n ≤ 1000000 := by
  unfold powB at h
  rw [decide_eq_true_eq] at h
  rcases hu with rfl | rfl <;> omega
theorem split_ok (x : ByteArray) (hx : x.size ≤ 2000000) (w : World) (he : errB x (pP x) (cP x) = 0) (M S P C' : Int) (ba fo ve tw ow : Bool) (hc : carB x (pP x) (cP x) = cartV M S P C' ba fo ve tw ow) (q : ByteArray) (hq : q = if ow then ⟨#[]⟩ else x.extract (atB x + P).toNat (atB x + P + C').toNat)
    (hM : M = mpB (bt x 6) (bt x 7) (bt x 8)) (hS : S = sbB (bt x 7) (bt x 8)) (hP : P = pP x) (hC' : C' = if cP x = 0 then 8192 else cP x) (how : ow = (cP x == 0)) :
    (Calls Try.prog 19 #[.string x] w fun e w' => e = .returned (.tuple #[cartV M S P C' ba fo ve tw ow, .string (x.extract (atB x).toNat (atB x + P).toNat), .string q, .int .i64 0]) ∧ Below w.heap.size w w') := by
  obtain ⟨h1, h2, h3, h4⟩ := err_zero he
  have h5 := pow_pos (.inl rfl) h2
  have h6 := pow_pos (.inr rfl) h3
  have hm := h1
  unfold mgB at hm
  rw [Bool.and_eq_true, decide_eq_true_eq] at hm
  refine split_yes x (bt x 6) (by omega) (bt_eq x 6 (by omega)) (bt_range x 6) hx w M S P C' ba fo ve tw _ ow rfl he hc (atB x) rfl (by rw [hP]; omega) ?_ (by rw [hC']; omega) ?_ q hq
  · unfold atB
    rw [hP]
    have : 0 ≤ cP x := by
      by_cases e : cP x = 0
      · omega
      · rw [if_neg e] at h6; omega
    omega
  · intro ho
    rw [how] at ho
    have e : cP x ≠ 0 := by simpa using ho
    rw [hC', if_neg e, hP]
    unfold atB
    omega
set_option maxRecDepth 100000 in
set_option maxHeartbeats 3200000 in
theorem parses_law (b : ByteArray) (m : Int) (m0 : 0 ≤ m) (m1 : m ≤ 4294967295) (w : World) : Calls Try.prog 7 #[.string b, .int .u32 m] w fun e w' => e = .returned (.bool true) ∧ Below w.heap.size w w' := by
  go_enter Try.func7, Try.ntmps7
  go_wp2_with fail
  refine (few5_any b _).mono ?_
  rintro e w' ⟨⟨b', rfl, hb'⟩, rfl⟩
  go_wp2_with fail
  refine (zeros_any b' m m0 m1 hb' _).mono ?_
  rintro e w0 ⟨⟨x, rfl, hx⟩, b0⟩
  clear m0 m1 hb'
  obtain ⟨s1, s2⟩ := err_same x
  by_cases hE : errB x (pR x) (cR x) = 0
  · obtain ⟨e1, e2⟩ := s2 hE
    have hEP := s1.trans hE
    obtain ⟨M, hM⟩ : ∃ M, M = mpB (bt x 6) (bt x 7) (bt x 8) := ⟨_, rfl⟩
    obtain ⟨S, hS⟩ : ∃ S, S = sbB (bt x 7) (bt x 8) := ⟨_, rfl⟩
    obtain ⟨P, hP⟩ : ∃ P, P = pP x := ⟨_, rfl⟩
    obtain ⟨C', hC'⟩ : ∃ C, C = if cP x = 0 then 8192 else cP x := ⟨_, rfl⟩
    obtain ⟨ba, hba⟩ : ∃ y, y = (bt x 6 / 2 ^ 1 % 2 == 1) := ⟨_, rfl⟩
    obtain ⟨fo, hfo⟩ : ∃ y, y = (bt x 6 / 2 ^ 3 % 2 == 1) := ⟨_, rfl⟩
    obtain ⟨ve, hve⟩ : ∃ y, y = (bt x 6 / 2 ^ 0 % 2 == 1) := ⟨_, rfl⟩
    obtain ⟨tw, htw⟩ : ∃ y, y = twB (bt x 7) := ⟨_, rfl⟩
    obtain ⟨ow, how⟩ : ∃ y, y = (cP x == 0) := ⟨_, rfl⟩
    have hcar : carB x (pP x) (cP x) = cartV M S P C' ba fo ve tw ow := by
      unfold carB
      rw [if_pos hEP, hM, hS, hP, hC', hba, hfo, hve, htw, how]
    have hcar2 : carB x (pR x) (cR x) = cartV M S P C' ba fo ve tw ow := by rw [← e1, ← e2]; exact hcar
    obtain ⟨z1, z2, z3, z4⟩ := err_zero hEP
    have p5 := pow_pos (.inl rfl) z2
    have p6 := pow_pos (.inr rfl) z3
    rw [← hC'] at p6
    rw [← hP] at p5 z4
    have hat : atB x = 16 + (if (bt x 6 / 2 ^ 2 % 2 == 1) then 512 else 0) := rfl
    obtain ⟨A, hA⟩ : ∃ A, A = atB x := ⟨_, rfl⟩
    have rA : 16 ≤ A ∧ A ≤ 528 := by rw [hA, hat]; split <;> omega
    have hAP : A + P ≤ (x.size : Int) := by
      have : 0 ≤ cP x := by
        by_cases e : cP x = 0
        · omega
        · rw [hC', if_neg e] at p6; omega
      rw [hA, hat]; omega
    have hAC : ow = false → A + P + C' ≤ (x.size : Int) := by
      intro ho
      rw [how] at ho
      have e : cP x ≠ 0 := by simpa using ho
      rw [hC', if_neg e, hA, hat]; omega
    obtain ⟨q, hq⟩ : ∃ q : ByteArray, q = if ow then ⟨#[]⟩ else x.extract (atB x + P).toNat (atB x + P + C').toNat := ⟨_, rfl⟩
    have SPL := hidI (fun w => split_ok x (by omega) w hEP M S P C' ba fo ve tw ow hcar q hq hM hS hP hC' how)
    have HCAR := hidI hcar; have HCAR2 := hidI hcar2; have HEP := hidI hEP; have HER := hidI hE
    have HA := hidI hA; have HQ := hidI hq; have HAC := hidI hAC
    clear hcar hcar2 hEP hE hA hq hAC hat hM hS hP hC' hba hfo hve htw how e1 e2 s1 s2 z1 z2 z3 z4
    obtain ⟨p51, p52⟩ := p5
    obtain ⟨p61, p62⟩ := p6
    obtain ⟨rA1, rA2⟩ := rA
    cases ow
    · have eq : q = x.extract (A + P).toNat (A + P + C').toNat := by rw [HQ.out]; rw [HA.out]; simp
      subst eq
      have hAC := HAC.out rfl
      have v4 : IntKind.i64.wrap (A + P + C') = A + P + C' := by rw [IntKind.wrap_i64]; omega
      go_wp2_with fail
      refine (parse_any x (by omega) _).mono ?_
      rw [HCAR.out, HEP.out]
      rintro e w1 ⟨rfl, b1⟩
      have bw1 := b0.trans (b1.mono b0.size)
      clear b0 b1
      go_wp2_with fail
      refine (whole_any x (by omega) _).mono ?_
      rw [HCAR2.out, HER.out, if_pos rfl, ← HA.out]
      rintro e w2 ⟨rfl, b2⟩
      have kC5 : CB w2 w1.heap.size M S P C' ba fo ve tw false := (b2.block _ (by simp)).trans (blk_new _ _)
      have bw2 := (bw1.alloc bw1.size _).trans (b2.mono (by have := bw1.size; simp; omega))
      clear b2 bw1
      go_wp2_with fail
      refine (SPL.out _).mono ?_
      rw [← HA.out]
      rintro e w3 ⟨rfl, b3⟩
      have l5 := blk_lt kC5
      have kD5 : CB w3 w1.heap.size M S P C' ba fo ve tw false := (b3.block _ (by simp; omega)).trans (blk_alloc kC5 _)
      have kD8 : CB w3 w2.heap.size M S P C' ba fo ve tw false := (b3.block _ (by simp)).trans (blk_new _ _)
      have bw3 := (bw2.alloc bw2.size _).trans (b3.mono (by have := bw2.size; simp; omega))
      have l5' := blk_lt kD5
      have l8' := blk_lt kD8
      have ne5 : w3.heap.size ≠ w1.heap.size := by omega
      have ne8 : w3.heap.size ≠ w2.heap.size := by omega
      clear b3 bw2 kC5 l5
      have c0 : World.cell? w3 ⟨w1.heap.size, 0, none⟩ = some (.int .i64 M) := blk_cell kD5 0
      have c1 : World.cell? w3 ⟨w1.heap.size, 1, none⟩ = some (.int .i64 S) := blk_cell kD5 1
      have c2 : World.cell? w3 ⟨w1.heap.size, 2, none⟩ = some (.int .i64 P) := blk_cell kD5 2
      have c3 : World.cell? w3 ⟨w1.heap.size, 3, none⟩ = some (.int .i64 C') := blk_cell kD5 3
      have c4 : World.cell? w3 ⟨w1.heap.size, 4, none⟩ = some (.bool ba) := blk_cell kD5 4
      have c5 : World.cell? w3 ⟨w1.heap.size, 5, none⟩ = some (.bool fo) := blk_cell kD5 5
      have c6 : World.cell? w3 ⟨w1.heap.size, 6, none⟩ = some (.bool ve) := blk_cell kD5 6
      have c7 : World.cell? w3 ⟨w1.heap.size, 7, none⟩ = some (.bool tw) := blk_cell kD5 7
      have c8 : World.cell? w3 ⟨w1.heap.size, 8, none⟩ = some (.bool false) := blk_cell kD5 8
      have d0 : World.cell? w3 ⟨w2.heap.size, 0, none⟩ = some (.int .i64 M) := blk_cell kD8 0
      have d1 : World.cell? w3 ⟨w2.heap.size, 1, none⟩ = some (.int .i64 S) := blk_cell kD8 1
      have d2 : World.cell? w3 ⟨w2.heap.size, 2, none⟩ = some (.int .i64 P) := blk_cell kD8 2
      have d3 : World.cell? w3 ⟨w2.heap.size, 3, none⟩ = some (.int .i64 C') := blk_cell kD8 3
      have d4 : World.cell? w3 ⟨w2.heap.size, 4, none⟩ = some (.bool ba) := blk_cell kD8 4
      have d5 : World.cell? w3 ⟨w2.heap.size, 5, none⟩ = some (.bool fo) := blk_cell kD8 5
      have d6 : World.cell? w3 ⟨w2.heap.size, 6, none⟩ = some (.bool ve) := blk_cell kD8 6
      have d7 : World.cell? w3 ⟨w2.heap.size, 7, none⟩ = some (.bool tw) := blk_cell kD8 7
      have d8 : World.cell? w3 ⟨w2.heap.size, 8, none⟩ = some (.bool false) := blk_cell kD8 8
      clear kD5 kD8
      go_wp2_with fail
      refine (awake_any _).mono ?_
      rintro e wz ⟨rfl, bz⟩
      go_wp2_with fail
      go_ret
      exact ⟨rfl, (bw3.alloc bw3.size _).trans (bz.mono (by have := bw3.size; simp; omega))⟩
    · have eq : q = ⟨#[]⟩ := by rw [HQ.out]; simp
      subst eq
      go_wp2_with fail
      refine (parse_any x (by omega) _).mono ?_
      rw [HCAR.out, HEP.out]
      rintro e w1 ⟨rfl, b1⟩
      have bw1 := b0.trans (b1.mono b0.size)
      clear b0 b1
      go_wp2_with fail
      refine (whole_any x (by omega) _).mono ?_
      rw [HCAR2.out, HER.out, if_pos rfl, ← HA.out]
      rintro e w2 ⟨rfl, b2⟩
      have kC5 : CB w2 w1.heap.size M S P C' ba fo ve tw true := (b2.block _ (by simp)).trans (blk_new _ _)
      have bw2 := (bw1.alloc bw1.size _).trans (b2.mono (by have := bw1.size; simp; omega))
      clear b2 bw1
      go_wp2_with fail
      refine (SPL.out _).mono ?_
      rw [← HA.out]
      rintro e w3 ⟨rfl, b3⟩
      have l5 := blk_lt kC5
      have kD5 : CB w3 w1.heap.size M S P C' ba fo ve tw true := (b3.block _ (by simp; omega)).trans (blk_alloc kC5 _)
      have kD8 : CB w3 w2.heap.size M S P C' ba fo ve tw true := (b3.block _ (by simp)).trans (blk_new _ _)
      have bw3 := (bw2.alloc bw2.size _).trans (b3.mono (by have := bw2.size; simp; omega))
      have l5' := blk_lt kD5
      have l8' := blk_lt kD8
      have ne5 : w3.heap.size ≠ w1.heap.size := by omega
      have ne8 : w3.heap.size ≠ w2.heap.size := by omega
      clear b3 bw2 kC5 l5
      have c0 : World.cell? w3 ⟨w1.heap.size, 0, none⟩ = some (.int .i64 M) := blk_cell kD5 0
      have c1 : World.cell? w3 ⟨w1.heap.size, 1, none⟩ = some (.int .i64 S) := blk_cell kD5 1
      have c2 : World.cell? w3 ⟨w1.heap.size, 2, none⟩ = some (.int .i64 P) := blk_cell kD5 2
      have c3 : World.cell? w3 ⟨w1.heap.size, 3, none⟩ = some (.int .i64 C') := blk_cell kD5 3
      have c4 : World.cell? w3 ⟨w1.heap.size, 4, none⟩ = some (.bool ba) := blk_cell kD5 4
      have c5 : World.cell? w3 ⟨w1.heap.size, 5, none⟩ = some (.bool fo) := blk_cell kD5 5
      have c6 : World.cell? w3 ⟨w1.heap.size, 6, none⟩ = some (.bool ve) := blk_cell kD5 6
      have c7 : World.cell? w3 ⟨w1.heap.size, 7, none⟩ = some (.bool tw) := blk_cell kD5 7
      have c8 : World.cell? w3 ⟨w1.heap.size, 8, none⟩ = some (.bool true) := blk_cell kD5 8
      have d0 : World.cell? w3 ⟨w2.heap.size, 0, none⟩ = some (.int .i64 M) := blk_cell kD8 0
      have d1 : World.cell? w3 ⟨w2.heap.size, 1, none⟩ = some (.int .i64 S) := blk_cell kD8 1
      have d2 : World.cell? w3 ⟨w2.heap.size, 2, none⟩ = some (.int .i64 P) := blk_cell kD8 2
      have d3 : World.cell? w3 ⟨w2.heap.size, 3, none⟩ = some (.int .i64 C') := blk_cell kD8 3
      have d4 : World.cell? w3 ⟨w2.heap.size, 4, none⟩ = some (.bool ba) := blk_cell kD8 4
      have d5 : World.cell? w3 ⟨w2.heap.size, 5, none⟩ = some (.bool fo) := blk_cell kD8 5
      have d6 : World.cell? w3 ⟨w2.heap.size, 6, none⟩ = some (.bool ve) := blk_cell kD8 6
      have d7 : World.cell? w3 ⟨w2.heap.size, 7, none⟩ = some (.bool tw) := blk_cell kD8 7
      have d8 : World.cell? w3 ⟨w2.heap.size, 8, none⟩ = some (.bool true) := blk_cell kD8 8
      clear kD5 kD8
      go_wp2_with fail
      refine (awake_any _).mono ?_
      rintro e wz ⟨rfl, bz⟩
      go_wp2_with fail
      go_ret
      exact ⟨rfl, (bw3.alloc bw3.size _).trans (bz.mono (by have := bw3.size; simp; omega))⟩
  · obtain ⟨k, hk⟩ : ∃ k, k = errB x (pP x) (cP x) := ⟨_, rfl⟩
    have hk2 : errB x (pR x) (cR x) = k := by rw [hk, s1]
    have hk0 : k ≠ 0 := by rw [← hk2]; exact hE
    have hcar : carB x (pP x) (cP x) = zeroC := by unfold carB; rw [if_neg (by rw [← hk]; exact hk0)]
    have hcar2 : carB x (pR x) (cR x) = zeroC := by unfold carB; rw [if_neg (by rw [hk2]; exact hk0)]
    have HCAR := hidI hcar; have HCAR2 := hidI hcar2; have HK := hidI hk; have HK2 := hidI hk2
    have SPL := hidI (fun w => split_no x (by omega) w k hk0 hk.symm)
    have ek : (k != 0) = true := by simpa using hk0
    have HK0 := hidI hk0
    clear hcar hcar2 hk hk2 hE s1 s2 hk0
    go_wp2_with fail
    refine (parse_any x (by omega) _).mono ?_
    rw [HCAR.out, ← HK.out]
    rintro e w1 ⟨rfl, b1⟩
    have bw1 := b0.trans (b1.mono b0.size)
    clear b0 b1
    go_wp2_with fail
    refine (whole_any x (by omega) _).mono ?_
    rw [HCAR2.out, HK2.out, if_neg HK0.out]
    rintro e w2 ⟨rfl, b2⟩
    have kC5 : CB w2 w1.heap.size 0 0 0 0 false false false false false := (b2.block _ (by simp)).trans (blk_new _ _)
    have bw2 := (bw1.alloc bw1.size _).trans (b2.mono (by have := bw1.size; simp; omega))
    clear b2 bw1
    go_wp2_with fail
    refine (SPL.out _).mono ?_
    rintro e w3 ⟨rfl, b3⟩
    have l5 := blk_lt kC5
    have kD5 : CB w3 w1.heap.size 0 0 0 0 false false false false false := (b3.block _ (by simp; omega)).trans (blk_alloc kC5 _)
    have kD8 : CB w3 w2.heap.size 0 0 0 0 false false false false false := (b3.block _ (by simp)).trans (blk_new _ _)
    have bw3 := (bw2.alloc bw2.size _).trans (b3.mono (by have := bw2.size; simp; omega))
    have l5' := blk_lt kD5
    have l8' := blk_lt kD8
    have ne5 : w3.heap.size ≠ w1.heap.size := by omega
    have ne8 : w3.heap.size ≠ w2.heap.size := by omega
    clear b3 bw2 kC5 l5
    have c0 : World.cell? w3 ⟨w1.heap.size, 0, none⟩ = some (.int .i64 0) := blk_cell kD5 0
    have c1 : World.cell? w3 ⟨w1.heap.size, 1, none⟩ = some (.int .i64 0) := blk_cell kD5 1
    have c2 : World.cell? w3 ⟨w1.heap.size, 2, none⟩ = some (.int .i64 0) := blk_cell kD5 2
    have c3 : World.cell? w3 ⟨w1.heap.size, 3, none⟩ = some (.int .i64 0) := blk_cell kD5 3
    have c4 : World.cell? w3 ⟨w1.heap.size, 4, none⟩ = some (.bool false) := blk_cell kD5 4
    have c5 : World.cell? w3 ⟨w1.heap.size, 5, none⟩ = some (.bool false) := blk_cell kD5 5
    have c6 : World.cell? w3 ⟨w1.heap.size, 6, none⟩ = some (.bool false) := blk_cell kD5 6
    have c7 : World.cell? w3 ⟨w1.heap.size, 7, none⟩ = some (.bool false) := blk_cell kD5 7
    have c8 : World.cell? w3 ⟨w1.heap.size, 8, none⟩ = some (.bool false) := blk_cell kD5 8
    have d0 : World.cell? w3 ⟨w2.heap.size, 0, none⟩ = some (.int .i64 0) := blk_cell kD8 0
    have d1 : World.cell? w3 ⟨w2.heap.size, 1, none⟩ = some (.int .i64 0) := blk_cell kD8 1
    have d2 : World.cell? w3 ⟨w2.heap.size, 2, none⟩ = some (.int .i64 0) := blk_cell kD8 2
    have d3 : World.cell? w3 ⟨w2.heap.size, 3, none⟩ = some (.int .i64 0) := blk_cell kD8 3
    have d4 : World.cell? w3 ⟨w2.heap.size, 4, none⟩ = some (.bool false) := blk_cell kD8 4
    have d5 : World.cell? w3 ⟨w2.heap.size, 5, none⟩ = some (.bool false) := blk_cell kD8 5
    have d6 : World.cell? w3 ⟨w2.heap.size, 6, none⟩ = some (.bool false) := blk_cell kD8 6
    have d7 : World.cell? w3 ⟨w2.heap.size, 7, none⟩ = some (.bool false) := blk_cell kD8 7
    have d8 : World.cell? w3 ⟨w2.heap.size, 8, none⟩ = some (.bool false) := blk_cell kD8 8
    clear kD5 kD8
    go_wp2_with fail
    refine (awake_any _).mono ?_
    rintro e wz ⟨rfl, bz⟩
    go_wp2_with fail
    go_ret
    exact ⟨rfl, (bw3.alloc bw3.size _).trans (bz.mono (by have := bw3.size; simp; omega))⟩
end Go.Proofs.Ytolennlpkpkhhaa
