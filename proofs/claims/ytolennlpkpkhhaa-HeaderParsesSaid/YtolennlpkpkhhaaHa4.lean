import Derived.Test.YtolennlpkpkhhaaHa3
namespace Go.Proofs.Ytolennlpkpkhhaa
open Go.RowKit Go.Sx
/-- How far a doubled unit has come. -/
def upB (u n p : Int) : Prop := (p = u ∨ p = 2 * u ∨ p = 4 * u ∨ p = 8 * u ∨ p = 16 * u ∨ p = 32 * u) ∧ (p = u ∨ p < 2 * n)
theorem up_next {u n p : Int} (hu : u = 16384 ∨ u = 8192) (h : upB u n p) (h1 : p < n) (h2 : p < 32 * u) : upB u n (2 * p) := by
  unfold upB at h ⊢
  rcases hu with rfl | rfl <;> omega
theorem up_end {u n p : Int} (hu : u = 16384 ∨ u = 8192) (h : upB u n p) (h1 : ¬ (p < n ∧ p < 32 * u)) : (p != n) = !powB n u := by
  unfold upB at h
  unfold powB
  rw [Bool.eq_iff_iff]
  simp only [bne_iff_ne, ne_eq, Bool.not_eq_true', decide_eq_false_iff_not]
  rcases hu with rfl | rfl <;> omega
set_option maxRecDepth 100000 in
set_option maxHeartbeats 3200000 in
theorem rcheck_any (m s p c : Int) (ba fo ve tw ow : Bool) (w : World) :
    Calls Try.prog 10 #[cartV m s p c ba fo ve tw ow] w fun e w' => e = .returned (.int .i64 (chk m s p c tw ow)) ∧ Below w.heap.size w w' := by
  obtain ⟨z, hz⟩ : ∃ z, z = chk m s p c tw ow := ⟨_, rfl⟩
  rw [← hz]
  have HZ := hidI hz; clear hz
  have k0 := blk_new w (.cells #[.int .i64 m, .int .i64 s, .int .i64 p, .int .i64 c, .bool ba, .bool fo, .bool ve, .bool tw, .bool ow] 23)
  have b0 : Below w.heap.size w (w.alloc (.cells #[.int .i64 m, .int .i64 s, .int .i64 p, .int .i64 c, .bool ba, .bool fo, .bool ve, .bool tw, .bool ow] 23)) := (Below.refl _ _).alloc (Nat.le_refl _) _
  by_cases hk : 0 ≤ m ∧ m ≤ 4 ∨ m = 7
  · have HF : Hid (z = if powB p 16384 = false ∨ powB c 8192 = false ∨ (ow = true ∧ c ≠ 8192) then 5 else if s < 0 ∨ 15 < s ∨ (tw = false ∧ s ≠ 0) then 1 else 0) := by
      show _ = _; rw [HZ.out]; unfold chk; rw [if_neg (fun h => h hk)]
    have HB := hidI b0; clear b0 HZ
    have hm : m = 0 ∨ m = 1 ∨ m = 2 ∨ m = 3 ∨ m = 4 ∨ m = 7 := by omega
    clear hk
    have HM := hidI hm; clear hm
    go_enter Try.func10, Try.ntmps10
    go_upto_region 1 with fail
    go_cut [32] (fun t wx => t = .bool false ∧ wx = w.alloc (.cells #[.int .i64 m, .int .i64 s, .int .i64 p, .int .i64 c, .bool ba, .bool fo, .bool ve, .bool tw, .bool ow] 23))
    case first =>
      rcases HM.out with rfl | rfl | rfl | rfl | rfl | rfl
      all_goals
        go_wp2_with fail
        go_meet
        exact ⟨rfl, rfl⟩
    case rest =>
      obtain ⟨rfl, rfl⟩ := hcut
      go_wp2_with fail
      go_loop [3] (fun u => ∃ q : Int, u = .int .i64 q ∧ upB 16384 p q) (fun u => 1000000 - (intOf u).toNat)
      case atStart => exact ⟨16384, rfl, .inl rfl, .inl rfl⟩
      case round =>
        obtain ⟨q, rfl, hq⟩ := hrel
        have HQ := hidI hq
        have hq1 : 16384 ≤ q := by unfold upB at hq; omega
        have hq2 : q ≤ 524288 := by unfold upB at hq; omega
        by_cases h1 : q < p
        · by_cases h2 : q < 524288
          · have N1 := hidI (up_next (.inl rfl) hq h1 (by omega))
            clear hq
            go_wp2_with fail
            exact ⟨⟨_, rfl, N1.out⟩, by simp [intOf]; omega⟩
          · have HE := hidI (up_end (.inl rfl) hq (fun h => h2 (by omega)))
            clear hq
            go_wp2_with fail
            go_loop [4] (fun u => ∃ q : Int, u = .int .i64 q ∧ upB 8192 c q) (fun u => 1000000 - (intOf u).toNat)
            case atStart => exact ⟨8192, rfl, .inl rfl, .inl rfl⟩
            case round =>
              obtain ⟨q', rfl, hq⟩ := hrel
              have HQ' := hidI hq
              have hq3 : 8192 ≤ q' := by unfold upB at hq; omega
              have hq4 : q' ≤ 262144 := by unfold upB at hq; omega
              by_cases h3 : q' < c
              · by_cases h4 : q' < 262144
                · have N1 := hidI (up_next (.inr rfl) hq h3 (by omega))
                  clear hq
                  go_wp2_with fail
                  exact ⟨⟨_, rfl, N1.out⟩, by simp [intOf]; omega⟩
                · have HE' := hidI (up_end (.inr rfl) hq (fun h => h4 (by omega)))
                  clear hq
                  cases hp : powB p 16384
                  · have e1 : (q != p) = true := by rw [HE.out, hp]; rfl
                    have HF2 : Hid (z = 5) := by show _ = _; rw [HF.out, if_pos (.inl hp)]
                    clear hp
                    go_wp2_with fail
                    go_ret
                    exact ⟨ret_int HF2.out.symm, HB.out⟩
                  · have e1 : (q != p) = false := by rw [HE.out, hp]; rfl
                    cases hc : powB c 8192
                    · have e2 : (q' != c) = true := by rw [HE'.out, hc]; rfl
                      have HF2 : Hid (z = 5) := by show _ = _; rw [HF.out, if_pos (.inr (.inl hc))]
                      clear hp hc
                      go_wp2_with fail
                      go_ret
                      exact ⟨ret_int HF2.out.symm, HB.out⟩
                    · have e2 : (q' != c) = false := by rw [HE'.out, hc]; rfl
                      have HF2 : Hid (z = if (ow = true ∧ c ≠ 8192) then 5 else if s < 0 ∨ 15 < s ∨ (tw = false ∧ s ≠ 0) then 1 else 0) := by show _ = _; rw [HF.out, hp, hc]; simp
                      clear hp hc HF HE HE' HQ HQ'
                      cases ow <;> cases tw
                      all_goals
                        go_wp2
                      all_goals
                        go_ret
                        refine ⟨ret_int ?_, HB.out⟩
                        rw [HF2.out]
                        simp only [beq_iff_eq, beq_eq_false_iff_ne, bne_iff_ne, bne_eq_false_iff_eq, ne_eq] at *
                        clear HF2
                        simp
                        try omega
              · have HE' := hidI (up_end (.inr rfl) hq (fun h => h3 h.1))
                clear hq
                cases hp : powB p 16384
                · have e1 : (q != p) = true := by rw [HE.out, hp]; rfl
                  have HF2 : Hid (z = 5) := by show _ = _; rw [HF.out, if_pos (.inl hp)]
                  clear hp
                  go_wp2_with fail
                  go_ret
                  exact ⟨ret_int HF2.out.symm, HB.out⟩
                · have e1 : (q != p) = false := by rw [HE.out, hp]; rfl
                  cases hc : powB c 8192
                  · have e2 : (q' != c) = true := by rw [HE'.out, hc]; rfl
                    have HF2 : Hid (z = 5) := by show _ = _; rw [HF.out, if_pos (.inr (.inl hc))]
                    clear hp hc
                    go_wp2_with fail
                    go_ret
                    exact ⟨ret_int HF2.out.symm, HB.out⟩
                  · have e2 : (q' != c) = false := by rw [HE'.out, hc]; rfl
                    have HF2 : Hid (z = if (ow = true ∧ c ≠ 8192) then 5 else if s < 0 ∨ 15 < s ∨ (tw = false ∧ s ≠ 0) then 1 else 0) := by show _ = _; rw [HF.out, hp, hc]; simp
                    clear hp hc HF HE HE' HQ HQ'
                    cases ow <;> cases tw
                    all_goals
                      go_wp2
                    all_goals
                      go_ret
                      refine ⟨ret_int ?_, HB.out⟩
                      rw [HF2.out]
                      simp only [beq_iff_eq, beq_eq_false_iff_ne, bne_iff_ne, bne_eq_false_iff_eq, ne_eq] at *
                      clear HF2
                      simp
                      try omega
        · have HE := hidI (up_end (.inl rfl) hq (fun h => h1 h.1))
          clear hq
          go_wp2_with fail
          go_loop [4] (fun u => ∃ q : Int, u = .int .i64 q ∧ upB 8192 c q) (fun u => 1000000 - (intOf u).toNat)
          case atStart => exact ⟨8192, rfl, .inl rfl, .inl rfl⟩
          case round =>
            obtain ⟨q', rfl, hq⟩ := hrel
            have HQ' := hidI hq
            have hq3 : 8192 ≤ q' := by unfold upB at hq; omega
            have hq4 : q' ≤ 262144 := by unfold upB at hq; omega
            by_cases h3 : q' < c
            · by_cases h4 : q' < 262144
              · have N1 := hidI (up_next (.inr rfl) hq h3 (by omega))
                clear hq
                go_wp2_with fail
                exact ⟨⟨_, rfl, N1.out⟩, by simp [intOf]; omega⟩
              · have HE' := hidI (up_end (.inr rfl) hq (fun h => h4 (by omega)))
                clear hq
                cases hp : powB p 16384
                · have e1 : (q != p) = true := by rw [HE.out, hp]; rfl
                  have HF2 : Hid (z = 5) := by show _ = _; rw [HF.out, if_pos (.inl hp)]
                  clear hp
                  go_wp2_with fail
                  go_ret
                  exact ⟨ret_int HF2.out.symm, HB.out⟩
                · have e1 : (q != p) = false := by rw [HE.out, hp]; rfl
                  cases hc : powB c 8192
                  · have e2 : (q' != c) = true := by rw [HE'.out, hc]; rfl
                    have HF2 : Hid (z = 5) := by show _ = _; rw [HF.out, if_pos (.inr (.inl hc))]
                    clear hp hc
                    go_wp2_with fail
                    go_ret
                    exact ⟨ret_int HF2.out.symm, HB.out⟩
                  · have e2 : (q' != c) = false := by rw [HE'.out, hc]; rfl
                    have HF2 : Hid (z = if (ow = true ∧ c ≠ 8192) then 5 else if s < 0 ∨ 15 < s ∨ (tw = false ∧ s ≠ 0) then 1 else 0) := by show _ = _; rw [HF.out, hp, hc]; simp
                    clear hp hc HF HE HE' HQ HQ'
                    cases ow <;> cases tw
                    all_goals
                      go_wp2
                    all_goals
                      go_ret
                      refine ⟨ret_int ?_, HB.out⟩
                      rw [HF2.out]
                      simp only [beq_iff_eq, beq_eq_false_iff_ne, bne_iff_ne, bne_eq_false_iff_eq, ne_eq] at *
                      clear HF2
                      simp
                      try omega
            · have HE' := hidI (up_end (.inr rfl) hq (fun h => h3 h.1))
              clear hq
              cases hp : powB p 16384
              · have e1 : (q != p) = true := by rw [HE.out, hp]; rfl
                have HF2 : Hid (z = 5) := by show _ = _; rw [HF.out, if_pos (.inl hp)]
                clear hp
                go_wp2_with fail
                go_ret
                exact ⟨ret_int HF2.out.symm, HB.out⟩
              · have e1 : (q != p) = false := by rw [HE.out, hp]; rfl
                cases hc : powB c 8192
                · have e2 : (q' != c) = true := by rw [HE'.out, hc]; rfl
                  have HF2 : Hid (z = 5) := by show _ = _; rw [HF.out, if_pos (.inr (.inl hc))]
                  clear hp hc
                  go_wp2_with fail
                  go_ret
                  exact ⟨ret_int HF2.out.symm, HB.out⟩
                · have e2 : (q' != c) = false := by rw [HE'.out, hc]; rfl
                  have HF2 : Hid (z = if (ow = true ∧ c ≠ 8192) then 5 else if s < 0 ∨ 15 < s ∨ (tw = false ∧ s ≠ 0) then 1 else 0) := by show _ = _; rw [HF.out, hp, hc]; simp
                  clear hp hc HF HE HE' HQ HQ'
                  cases ow <;> cases tw
                  all_goals
                    go_wp2
                  all_goals
                    go_ret
                    refine ⟨ret_int ?_, HB.out⟩
                    rw [HF2.out]
                    simp only [beq_iff_eq, beq_eq_false_iff_ne, bne_iff_ne, bne_eq_false_iff_eq, ne_eq] at *
                    clear HF2
                    simp
                    try omega
  · have HF : Hid (z = 6) := by show _ = _; rw [HZ.out]; unfold chk; rw [if_pos hk]
    have HB := hidI b0; clear b0
    have n0 : m ≠ 0 := by omega
    have n1 : m ≠ 1 := by omega
    have n2 : m ≠ 2 := by omega
    have n3 : m ≠ 3 := by omega
    have n4 : m ≠ 4 := by omega
    have n7 : m ≠ 7 := by omega
    have q0 : (m != 0) = true := by simpa using n0
    have q1 : (m != 1) = true := by simpa using n1
    have q2 : (m != 2) = true := by simpa using n2
    have q3 : (m != 3) = true := by simpa using n3
    have q4 : (m != 4) = true := by simpa using n4
    have q7 : (m != 7) = true := by simpa using n7
    clear n0 n1 n2 n3 n4 n7 hk k0
    go_enter Try.func10, Try.ntmps10
    go_wp2_with fail
    go_ret
    exact ⟨ret_int HF.out.symm, HB.out⟩
end Go.Proofs.Ytolennlpkpkhhaa
