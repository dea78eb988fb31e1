import Derived.Test.YtolennlpkpkhhaaHa9
namespace Go.Proofs.Ytolennlpkpkhhaa
open Go.RowKit Go.Sx
set_option maxRecDepth 100000 in
set_option maxHeartbeats 1600000 in
theorem whole_no (x : ByteArray) (hx : x.size ≤ 2000000) (w : World) (hmg : mgB x = false) : Calls Try.prog 18 #[.string x] w fun e w' => e = .returned (.tuple #[.int .i64 0, zeroC, .int .i64 4]) ∧ Below w.heap.size w w' := by
  have b0 : Below w.heap.size w (w.alloc (.cells #[.int .i64 0, .int .i64 0, .int .i64 0, .int .i64 0, .bool false, .bool false, .bool false, .bool false, .bool false] 23)) := (Below.refl _ _).alloc (Nat.le_refl _) _
  by_cases hs : x.size < 16
  · clear hmg
    go_enter Try.func18, Try.ntmps18
    go_wp2_with fail
    exact bodyPost_ret (v := .tuple #[.int .i64 0, zeroC, .int .i64 4]) (by simp [results, Try.results18, go_sem]) rfl ⟨rfl, b0⟩
  · have hm : ((x.extract 0 4).toList == [78, 69, 83, 26]) = false := by
      unfold mgB at hmg
      rw [decide_eq_true (by omega)] at hmg
      simpa using hmg
    rw [mg_bytes x (by omega), decide_eq_false_iff_not] at hm
    clear hmg
    have h0 : 0 < x.size := by omega
    have h1 : 1 < x.size := by omega
    have h2 : 2 < x.size := by omega
    have h3 : 3 < x.size := by omega
    have g0 : (0 : Int) < (x.size : Int) := by omega
    have g1 : (1 : Int) < (x.size : Int) := by omega
    have g2 : (2 : Int) < (x.size : Int) := by omega
    have g3 : (3 : Int) < (x.size : Int) := by omega
    have i0 := bt_eq x 0 h0
    have i1 := bt_eq x 1 h1
    have i2 := bt_eq x 2 h2
    have i3 := bt_eq x 3 h3
    obtain ⟨b0', e0⟩ : ∃ b, b = bt x 0 := ⟨_, rfl⟩
    obtain ⟨b1', e1⟩ : ∃ b, b = bt x 1 := ⟨_, rfl⟩
    obtain ⟨b2', e2⟩ : ∃ b, b = bt x 2 := ⟨_, rfl⟩
    obtain ⟨b3', e3⟩ : ∃ b, b = bt x 3 := ⟨_, rfl⟩
    rw [← e0] at i0 hm
    rw [← e1] at i1 hm
    rw [← e2] at i2 hm
    rw [← e3] at i3 hm
    clear e0 e1 e2 e3
    have HMM := hidI hm; clear hm
    by_cases q0 : b0' = 78
    · have q0' : (b0' != 78) = false := by simpa using q0
      by_cases q1 : b1' = 69
      · have q1' : (b1' != 69) = false := by simpa using q1
        by_cases q2 : b2' = 83
        · have q2' : (b2' != 83) = false := by simpa using q2
          by_cases q3 : b3' = 26
          · exact absurd ⟨q0, q1, q2, q3⟩ HMM.out
          · have q3' : (b3' != 26) = true := by simpa using q3
            clear q0 q1 q2 q3
            go_enter Try.func18, Try.ntmps18
            go_wp2_with fail
            exact bodyPost_ret (v := .tuple #[.int .i64 0, zeroC, .int .i64 4]) (by simp [results, Try.results18, go_sem]) rfl ⟨rfl, b0⟩
        · have q2' : (b2' != 83) = true := by simpa using q2
          clear q0 q1 q2
          go_enter Try.func18, Try.ntmps18
          go_wp2_with fail
          exact bodyPost_ret (v := .tuple #[.int .i64 0, zeroC, .int .i64 4]) (by simp [results, Try.results18, go_sem]) rfl ⟨rfl, b0⟩
      · have q1' : (b1' != 69) = true := by simpa using q1
        clear q0 q1
        go_enter Try.func18, Try.ntmps18
        go_wp2_with fail
        exact bodyPost_ret (v := .tuple #[.int .i64 0, zeroC, .int .i64 4]) (by simp [results, Try.results18, go_sem]) rfl ⟨rfl, b0⟩
    · have q0' : (b0' != 78) = true := by simpa using q0
      clear q0
      go_enter Try.func18, Try.ntmps18
      go_wp2_with fail
      exact bodyPost_ret (v := .tuple #[.int .i64 0, zeroC, .int .i64 4]) (by simp [results, Try.results18, go_sem]) rfl ⟨rfl, b0⟩
def pR (x : ByteArray) : Int := amtR (bt x 4) (hpB (bt x 7) (bt x 9)) 16384
def cR (x : ByteArray) : Int := amtR (bt x 5) (hcB (bt x 7) (bt x 9)) 8192
def atB (x : ByteArray) : Int := 16 + (if (bt x 6 / 2 ^ 2 % 2 == 1) then 512 else 0)
theorem at_of {K E a : Int} {c : Prop} [Decidable c] (h : E = if K ≠ 0 then K else if c then 5 else 0) : (if E = 0 then a else 0) = if K ≠ 0 then 0 else if c then 0 else a := by
  subst h
  by_cases h1 : K = 0
  · subst h1
    by_cases h2 : c <;> simp [h2]
  · simp [h1]
theorem whole_any (x : ByteArray) (hx : x.size ≤ 2000000) (w : World) : Calls Try.prog 18 #[.string x] w fun e w' => e = .returned (.tuple #[.int .i64 (if errB x (pR x) (cR x) = 0 then atB x else 0), carB x (pR x) (cR x), .int .i64 (errB x (pR x) (cR x))]) ∧ Below w.heap.size w w' := by
  cases hmg : mgB x
  · have e1 : errB x (pR x) (cR x) = 4 := by unfold errB; rw [hmg]; simp
    have e2 : carB x (pR x) (cR x) = zeroC := by unfold carB; rw [if_neg (by rw [e1]; decide)]
    rw [if_neg (by rw [e1]; decide), e1, e2]
    exact whole_no x hx w hmg
  · have hm := hmg
    unfold mgB at hm
    rw [Bool.and_eq_true, decide_eq_true_eq] at hm
    have e1 : errB x (pR x) (cR x) = if chk (mpB (bt x 6) (bt x 7) (bt x 8)) (sbB (bt x 7) (bt x 8)) (pR x) (if cR x = 0 then 8192 else cR x) (twB (bt x 7)) (cR x == 0) ≠ 0 then chk (mpB (bt x 6) (bt x 7) (bt x 8)) (sbB (bt x 7) (bt x 8)) (pR x) (if cR x = 0 then 8192 else cR x) (twB (bt x 7)) (cR x == 0) else if (x.size : Int) < 16 + pR x + cR x + (if (bt x 6 / 2 ^ 2 % 2 == 1) then 512 else 0) then 5 else 0 := by
      unfold errB; rw [if_pos hmg]
    have e2 : carB x (pR x) (cR x) = if chk (mpB (bt x 6) (bt x 7) (bt x 8)) (sbB (bt x 7) (bt x 8)) (pR x) (if cR x = 0 then 8192 else cR x) (twB (bt x 7)) (cR x == 0) ≠ 0 then zeroC else if (x.size : Int) < 16 + pR x + cR x + (if (bt x 6 / 2 ^ 2 % 2 == 1) then 512 else 0) then zeroC else cartV (mpB (bt x 6) (bt x 7) (bt x 8)) (sbB (bt x 7) (bt x 8)) (pR x) (if cR x = 0 then 8192 else cR x) (bt x 6 / 2 ^ 1 % 2 == 1) (bt x 6 / 2 ^ 3 % 2 == 1) (bt x 6 / 2 ^ 0 % 2 == 1) (twB (bt x 7)) (cR x == 0) := by
      unfold carB
      exact car_of _ _ e1
    have e3 := at_of (a := atB x) e1
    have mb := hm.2
    rw [mg_bytes x hm.1, decide_eq_true_eq] at mb
    obtain ⟨v0, v1, v2, v3⟩ := mb
    exact whole_yes x _ _ _ _ _ _ (Oct.of x hm.1) hx w (fun h => (bt_eq x 0 h).trans v0) (fun h => (bt_eq x 1 h).trans v1) (fun h => (bt_eq x 2 h).trans v2) (fun h => (bt_eq x 3 h).trans v3) _ _ _ _ _ _ _ _ _ _ _ rfl rfl rfl rfl rfl rfl rfl rfl rfl rfl rfl _ rfl _ rfl _ _ _ e3 e2 e1
/-- The two ways to tell an amount tell of the same cartridges. -/
theorem amt_same (l h u : Int) (l0 : 0 ≤ l) (l1 : l ≤ 255) (h0 : 0 ≤ h) (h1 : h ≤ 15) (hu : u = 16384 ∨ u = 8192) : amtP l h u = amtR l h u ∨ (powB (amtP l h u) 16384 = false ∧ powB (amtR l h u) 16384 = false ∧ powB (amtP l h u) 8192 = false ∧ powB (amtR l h u) 8192 = false ∧ amtP l h u ≠ 0 ∧ amtR l h u ≠ 0) := by
  by_cases hh : h = 15
  · subst hh
    have e1 : amtP l 15 u = amtP l 15 0 := by unfold amtP; rw [if_neg (show ¬ ((15 : Int) < 15) by omega), if_neg (show ¬ ((15 : Int) < 15) by omega)]
    have e2 : amtR l 15 u = amtR l 15 0 := by unfold amtR; rw [if_pos rfl, if_pos rfl]
    rw [e1, e2]
    exact of_byte (P := fun l => amtP l 15 0 = amtR l 15 0 ∨ (powB (amtP l 15 0) 16384 = false ∧ powB (amtR l 15 0) 16384 = false ∧ powB (amtP l 15 0) 8192 = false ∧ powB (amtR l 15 0) 8192 = false ∧ amtP l 15 0 ≠ 0 ∧ amtR l 15 0 ≠ 0)) (by decide +kernel) l l0 l1
  · left
    unfold amtP amtR
    rw [if_pos (by omega), if_neg hh, Int.mul_comm]
theorem chk5 (m s p c : Int) (tw ow : Bool) (hk : 0 ≤ m ∧ m ≤ 4 ∨ m = 7) (h : powB p 16384 = false ∨ powB c 8192 = false) : chk m s p c tw ow = 5 := by
  unfold chk
  rw [if_neg (fun hn => hn hk), if_pos]
  rcases h with h | h
  · exact .inl h
  · exact .inr (.inl h)
theorem chk6 (m s p c : Int) (tw ow : Bool) (hk : ¬ (0 ≤ m ∧ m ≤ 4 ∨ m = 7)) : chk m s p c tw ow = 6 := by
  unfold chk
  rw [if_pos hk]
theorem err_same (x : ByteArray) : errB x (pP x) (cP x) = errB x (pR x) (cR x) ∧ (errB x (pR x) (cR x) = 0 → pP x = pR x ∧ cP x = cR x) := by
  have r4 := bt_range x 4
  have r5 := bt_range x 5
  have r9 := bt_range x 9
  have rh : 0 ≤ hpB (bt x 7) (bt x 9) ∧ hpB (bt x 7) (bt x 9) ≤ 15 := by unfold hpB; split <;> omega
  have rc : 0 ≤ hcB (bt x 7) (bt x 9) ∧ hcB (bt x 7) (bt x 9) ≤ 15 := by unfold hcB; split <;> omega
  have hp : pP x = pR x ∨ (powB (pP x) 16384 = false ∧ powB (pR x) 16384 = false ∧ powB (pP x) 8192 = false ∧ powB (pR x) 8192 = false ∧ pP x ≠ 0 ∧ pR x ≠ 0) := amt_same (bt x 4) (hpB (bt x 7) (bt x 9)) 16384 r4.1 r4.2 rh.1 rh.2 (.inl rfl)
  have hc : cP x = cR x ∨ (powB (cP x) 16384 = false ∧ powB (cR x) 16384 = false ∧ powB (cP x) 8192 = false ∧ powB (cR x) 8192 = false ∧ cP x ≠ 0 ∧ cR x ≠ 0) := amt_same (bt x 5) (hcB (bt x 7) (bt x 9)) 8192 r5.1 r5.2 rc.1 rc.2 (.inr rfl)
  by_cases hk : 0 ≤ mpB (bt x 6) (bt x 7) (bt x 8) ∧ mpB (bt x 6) (bt x 7) (bt x 8) ≤ 4 ∨ mpB (bt x 6) (bt x 7) (bt x 8) = 7
  · have bad : ∀ p c, (powB p 16384 = false ∨ powB (if c = 0 then 8192 else c) 8192 = false) → errB x p c = if mgB x then 5 else 4 := by
      intro p c h
      have e := chk5 (mpB (bt x 6) (bt x 7) (bt x 8)) (sbB (bt x 7) (bt x 8)) p (if c = 0 then 8192 else c) (twB (bt x 7)) (c == 0) hk h
      simp only [errB, e]
      simp
    have not0 : (if mgB x then (5 : Int) else 4) ≠ 0 := by split <;> decide
    rcases hp with hp | ⟨p1, p2, _⟩
    · rcases hc with hc | ⟨_, _, c1, c2, c3, c4⟩
      · rw [hp, hc]; exact ⟨rfl, fun _ => ⟨rfl, rfl⟩⟩
      · have e1 := bad (pP x) (cP x) (.inr (by rw [if_neg c3]; exact c1))
        have e2 := bad (pR x) (cR x) (.inr (by rw [if_neg c4]; exact c2))
        rw [e1, e2]; exact ⟨rfl, fun h => absurd h not0⟩
    · have e1 := bad (pP x) (cP x) (.inl p1)
      have e2 := bad (pR x) (cR x) (.inl p2)
      rw [e1, e2]; exact ⟨rfl, fun h => absurd h not0⟩
  · have bad : ∀ p c, errB x p c = if mgB x then 6 else 4 := by
      intro p c
      have e := chk6 (mpB (bt x 6) (bt x 7) (bt x 8)) (sbB (bt x 7) (bt x 8)) p (if c = 0 then 8192 else c) (twB (bt x 7)) (c == 0) hk
      simp only [errB, e]
      simp
    rw [bad, bad]
    exact ⟨rfl, fun h => by split at h <;> cases h⟩
end Go.Proofs.Ytolennlpkpkhhaa
