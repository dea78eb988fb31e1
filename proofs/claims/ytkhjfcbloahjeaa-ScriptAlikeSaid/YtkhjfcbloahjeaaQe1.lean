import Derived.Test.YtkhjfcbloahjeaaQd3
namespace Go.Proofs.Ytkhjfcbloahjeaa
open Go.RowKit Go.Sx
set_option maxHeartbeats 1600000 in
theorem rsec_any (p0 p1 : Bool) (ra : Option Addr) (rn rc : Nat) (sa : Option Addr) (sn sc : Nat) (F T F' T' : Nat → Int) (kind at_ : Int) (w : World) (h : PolAt w ra rn rc sa sn sc F T F' T') :
    Calls Try.prog 38 #[poV p0 p1 ra rn rc sa sn sc, .int .i64 kind, .int .i64 at_] w fun e w' => e = .returned (.bool (secB p0 p1 rn sn F T F' T' kind at_)) ∧ Below w.heap.size w w' := by
  have b0 : Below w.heap.size w (w.alloc (.cells #[.bool p0, .bool p1, .slice ra rn rc, .slice sa sn sc] 25)) := (Below.refl _ _).alloc (Nat.le_refl _) _
  have hrl := h.rl
  have hsl := h.sl
  by_cases k0 : kind = 0
  · subst k0
    by_cases a0 : at_ = 0
    · subst a0
      obtain ⟨z, hz⟩ : ∃ z, z = secB p0 p1 rn sn F T F' T' 0 0 := ⟨_, rfl⟩
      rw [← hz]
      have HZ : Hid (z = p0) := by show _ = _; rw [hz]; simp [secB]
      clear hz
      go_enter Try.func38, Try.ntmps38
      go_wp2
      all_goals
        go_ret
        exact ⟨ret_bool (by rw [HZ.out]; try simp [*]), (Below.refl _ _).alloc (Nat.le_refl _) _⟩
    · by_cases a1 : at_ = 1
      · subst a1
        obtain ⟨z, hz⟩ : ∃ z, z = secB p0 p1 rn sn F T F' T' 0 1 := ⟨_, rfl⟩
        rw [← hz]
        have HZ : Hid (z = p1) := by show _ = _; rw [hz]; simp [secB]
        clear hz
        go_enter Try.func38, Try.ntmps38
        go_wp2
        all_goals
          go_ret
          exact ⟨ret_bool (by rw [HZ.out]; try simp [*]), (Below.refl _ _).alloc (Nat.le_refl _) _⟩
      · obtain ⟨z, hz⟩ : ∃ z, z = secB p0 p1 rn sn F T F' T' 0 at_ := ⟨_, rfl⟩
        rw [← hz]
        have HZ : Hid (z = false) := by show _ = _; rw [hz]; simp [secB, a0, a1]
        clear hz
        have k0' : (at_ == 0) = false := by simpa using a0
        have k1' : (at_ == 1) = false := by simpa using a1
        go_enter Try.func38, Try.ntmps38
        go_wp2
        all_goals
          go_ret
          exact ⟨ret_bool (by rw [HZ.out]), (Below.refl _ _).alloc (Nat.le_refl _) _⟩
  · by_cases k1 : kind = 1
    · subst k1
      go_enter Try.func38, Try.ntmps38
      go_wp2_with fail
      refine (rin_any ra rn rc F T at_ _ (by omega) (h.r.below b0)).mono ?_
      rintro e w' ⟨rfl, rfl⟩
      go_wp2
      go_ret
      exact ⟨rfl, b0⟩
    · by_cases k2 : kind = 2
      · subst k2
        go_enter Try.func38, Try.ntmps38
        go_wp2_with fail
        refine (rin_any sa sn sc F' T' at_ _ (by omega) (h.s.below b0)).mono ?_
        rintro e w' ⟨rfl, rfl⟩
        go_wp2
        go_ret
        exact ⟨rfl, b0⟩
      · have e : secB p0 p1 rn sn F T F' T' kind at_ = false := by simp [secB, k0, k1, k2]
        rw [e]
        clear e
        have k0' : (kind == 0) = false := by simpa using k0
        have k1' : (kind == 1) = false := by simpa using k1
        have k2' : (kind == 2) = false := by simpa using k2
        go_enter Try.func38, Try.ntmps38
        go_wp2_with fail
        go_ret
        exact ⟨rfl, b0⟩
theorem rpad_is (p : ByteArray) (ao : Option Addr) (n c : Nat) (sv rm : ByteArray) (f o : Nat) (w : World) (v : Int) (hp : p.size ≤ 1000000) (hf : f < fr p) (ho : o < 2) (hv : v = bt p (2 * f + o)) : Calls Try.prog 37 #[scV p ao n c sv rm, .int .i64 f, .int .i64 o] w fun e w' => e = .returned (.int .u8 v) ∧ Below w.heap.size w w' := by
  have hs : 2 * f + o < p.size := by unfold fr at hf; omega
  have hs1 : 2 * f + 1 < p.size := by unfold fr at hf; omega
  have x0 : ((p[2 * f + o]'hs).toNat : Int) = v := (bt_eq p _ hs).trans hv.symm
  clear hv
  go_enter Try.func37, Try.ntmps37
  go_wp2
  all_goals first
    | (exfalso; omega)
    | (go_ret; exact ⟨rfl, (Below.refl _ _).alloc (Nat.le_refl _) _⟩)
theorem b1alike (a b : Int) (s t : Bool) (w : World) (h1 : s = t) (h2 : s = true ∨ a = b) : Calls Try.prog 39 #[.agg #[.int .u8 a, .bool s], .agg #[.int .u8 b, .bool t]] w fun e w' => e = .returned (.bool true) ∧ Below w.heap.size w w' := by
  subst h1
  have b0 : Below w.heap.size w ((w.alloc (.cells #[.int .u8 a, .bool s] 67)).alloc (.cells #[.int .u8 b, .bool s] 67)) := ((Below.refl _ _).alloc (Nat.le_refl _) _).alloc (by simp) _
  cases s
  · obtain rfl : a = b := by rcases h2 with h2 | h2; cases h2; exact h2
    go_enter Try.func39, Try.ntmps39
    go_wp2
    go_ret
    exact ⟨rfl, b0⟩
  · clear h2
    go_enter Try.func39, Try.ntmps39
    go_wp2
    go_ret
    exact ⟨rfl, b0⟩
set_option maxHeartbeats 3200000 in
theorem balike_some (b b' N c c' : Nat) (V V' : Nat → Int) (S S' : Nat → Bool) (w : World) (hN : N ≤ 1000000) (h : OwnM w b b N V S) (h' : OwnM w b' b' N V' S') (he : ∀ i, i < N → S i = S' i ∧ (S i = true ∨ V i = V' i)) :
    Calls Try.prog 26 #[.slice (some ⟨b, 0, none⟩) N c, .slice (some ⟨b', 0, none⟩) N c'] w fun e w' => e = .returned (.bool true) ∧ Below w.heap.size w w' := by
  have HE := hidI he; clear he
  go_enter Try.func26, Try.ntmps26
  go_wp2_with fail
  go_loopw [5] (fun i wr => ∃ k : Nat, k ≤ N ∧ i = .int .i64 k ∧ Below w.heap.size w wr) (fun i _ => N - (intOf i).toNat)
  case atStart => exact ⟨0, Nat.zero_le _, rfl, Below.refl _ _⟩
  case round =>
    obtain ⟨k, hk, rfl, hbl⟩ := hrel
    have Ha := h.below hbl
    have Hb := h'.below hbl
    by_cases hlt : k < N
    · have HEK := hidI (HE.out k hlt)
      have c0 : wr.cell? ⟨b, k * 2, none⟩ = some (.int .u8 (V k)) := Ha.cell (j := 0) hlt (by omega)
      have c1 : wr.cell? ⟨b, k * 2 + 1, none⟩ = some (.bool (S k)) := Ha.cell (j := 1) hlt (by omega)
      have d0 : wr.cell? ⟨b', k * 2, none⟩ = some (.int .u8 (V' k)) := Hb.cell (j := 0) hlt (by omega)
      have d1 : wr.cell? ⟨b', k * 2 + 1, none⟩ = some (.bool (S' k)) := Hb.cell (j := 1) hlt (by omega)
      have hlt' : (k : Int) < N := by omega
      have hlt0 : (0 : Int) ≤ (k : Int) := by omega
      go_upto_region 6 with fail
      refine wp_region_noPanic ?_
      refine wp_region_held_drew (S := (fun w' => w'.cell? ⟨b, k * 2, none⟩ = some (.int .u8 (V k)) ∧ w'.cell? ⟨b, k * 2 + 1, none⟩ = some (.bool (S k)) ∧ w'.cell? ⟨b', k * 2, none⟩ = some (.int .u8 (V' k)) ∧ w'.cell? ⟨b', k * 2 + 1, none⟩ = some (.bool (S' k)))) (by kernel_rfl) ⟨c0, c1, d0, d1⟩ (fun hHeld => ?_)
      refine tk 0 (oi := ⟨_, _, _, _, _, _⟩) (v := ?_) rfl (by rfl) ?_ (by assumption) ?_; rotate_left; (focus (intro w hSw; (try dsimp only at hSw); go_simp; with_reducible rfl)); simp only [Act.put, tA, tB, tC]
      refine tk 1 (oi := ⟨_, _, _, _, _, _⟩) (v := ?_) rfl (by rfl) ?_ (by assumption) ?_; rotate_left; (focus (intro w hSw; (try dsimp only at hSw); go_simp; with_reducible rfl)); simp only [Act.put, tA, tB, tC]
      refine tk 2 (oi := ⟨_, _, _, _, _, _⟩) (v := ?_) rfl (by rfl) ?_ (by assumption) ?_; rotate_left; (focus (intro w hSw; (try dsimp only at hSw); go_simp; with_reducible rfl)); simp only [Act.put, tA, tB, tC]
      refine tk 3 (oi := ⟨_, _, _, _, _, _⟩) (v := ?_) rfl (by rfl) ?_ (by assumption) ?_; rotate_left; (focus (intro w hSw; (try dsimp only at hSw); go_simp; with_reducible rfl)); simp only [Act.put, tA, tB, tC]
      refine tk 4 (oi := ⟨_, _, _, _, _, _⟩) (v := ?_) rfl (by rfl) ?_ (by assumption) ?_; rotate_left; (focus (intro w hSw; (try dsimp only at hSw); go_simp; with_reducible rfl)); simp only [Act.put, tA, tB, tC]
      refine tk 5 (oi := ⟨_, _, _, _, _, _⟩) (v := ?_) rfl (by rfl) ?_ (by assumption) ?_; rotate_left; (focus (intro w hSw; (try dsimp only at hSw); go_simp; with_reducible rfl)); simp only [Act.put, tA, tB, tC]
      refine tk 6 (oi := ⟨_, _, _, _, _, _⟩) (v := ?_) rfl (by rfl) ?_ (by assumption) ?_; rotate_left; (focus (intro w hSw; (try dsimp only at hSw); go_simp; with_reducible rfl)); simp only [Act.put, tA, tB, tC]
      refine tk 7 (oi := ⟨_, _, _, _, _, _⟩) (v := ?_) rfl (by rfl) ?_ (by assumption) ?_; rotate_left; (focus (intro w hSw; (try dsimp only at hSw); go_simp; with_reducible rfl)); simp only [Act.put, tA, tB, tC]
      refine wpAnyH_ready (rs := [8]) (by kernel_rfl) (by simp) ?_
      refine AllReadyH.cons (o := ⟨_, _, _, _, _, _⟩) rfl (fun K hK => ?_) (AllReadyH.nil)
      go_simp
      refine (b1alike (V k) (V' k) (S k) (S' k) _ HEK.out.1 HEK.out.2).mono ?_
      rintro e wa ⟨rfl, ba⟩
      have bx := (Below.refl wr.heap.size wr).drew.trans ba
      have O1 := Ha.below bx
      have O2 := Hb.below bx
      refine hK.out _ _ ⟨O1.cell (j := 0) hlt (by omega), O1.cell (j := 1) hlt (by omega), O2.cell (j := 0) hlt (by omega), O2.cell (j := 1) hlt (by omega)⟩ (fun hHeld => ?_)
      clear hK K
      refine tk 9 (oi := ⟨_, _, _, _, _, _⟩) (v := ?_) rfl (by rfl) ?_ (by assumption) ?_; rotate_left; (focus (intro w hSw; (try dsimp only at hSw); go_simp; with_reducible rfl)); simp only [Act.put, tA, tB, tC]
      refine wpAnyH_done (by kernel_rfl) (NoPanic.normal ?_) _
      go_wp2_with fail
      exact ⟨⟨k + 1, by omega, by simp, hbl.trans (bx.mono hbl.size)⟩, by simp [intOf]; omega⟩
    · obtain rfl : k = N := by omega
      go_wp2
      go_ret
      exact ⟨rfl, hbl⟩
end Go.Proofs.Ytkhjfcbloahjeaa
