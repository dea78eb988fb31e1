import Derived.Test.YtkhjfcbloahjeaaQd2
namespace Go.Proofs.Ytkhjfcbloahjeaa
open Go.RowKit Go.Sx
theorem mayS_sizes {p : ByteArray} {n : Nat} {sv rm : ByteArray} {R : Nat → Int} (h : maySB p n sv rm R = true) : sv.size ≤ 8192 ∧ rm.size ≤ 2048 := by
  unfold maySB at h
  rw [Bool.and_eq_true, decide_eq_true_iff] at h
  exact ⟨h.1.2.2.1, h.1.2.2.2⟩
theorem mayP_wi {rn sn : Nat} {F T F' T' : Nat → Int} (h : mayPB rn sn F T F' T' = true) : wiB F T rn 2048 = true ∧ wiB F' T' sn 8192 = true := by
  unfold mayPB at h
  exact Bool.and_eq_true_iff.1 h
set_option maxHeartbeats 1600000 in
theorem ram_no (p0 p1 : Bool) (ra : Option Addr) (rn rc : Nat) (sa : Option Addr) (sn sc : Nat) (F T F' T' : Nat → Int) (p : ByteArray) (ao : Option Addr) (n c : Nat) (sv rm : ByteArray) (R : Nat → Int) (w : World) (h : PolAt w ra rn rc sa sn sc F T F' T') (hp : p.size ≤ 1000000) (hl : n ≤ 1000000) (hR : IntsAt w ao n R) (z : Int)
    (hz : (if mayPB rn sn F T F' T' then (if maySB p n sv rm R then 0 else 8) else 7) = z) (hz0 : (z != 0) = true) :
    Calls Try.prog 21 #[poV p0 p1 ra rn rc sa sn sc, scV p ao n c sv rm] w fun e w' => e = .returned (.tuple #[.slice none 0 0, .int .i64 z]) ∧ Below w.heap.size w w' := by
  have b0 : Below w.heap.size w ((w.alloc (.cells #[.bool p0, .bool p1, .slice ra rn rc, .slice sa sn sc] 25)).alloc (.cells #[.string p, .slice ao n c, .string sv, .string rm] 28)) := ((Below.refl _ _).alloc (Nat.le_refl _) _).alloc (by simp) _
  have HZ := hidI hz; clear hz
  go_enter Try.func21, Try.ntmps21
  go_wp2_with fail
  refine (smay_any p0 p1 ra rn rc sa sn sc F T F' T' p ao n c sv rm R _ (h.below b0) hp hl (hR.below b0)).mono ?_
  rw [HZ.out]
  rintro e w1 ⟨rfl, b1⟩
  go_wp2_with fail
  exact bodyPost_ret (v := .tuple #[.slice none 0 0, .int .i64 z]) (by simp [results, Try.results21, go_sem]) rfl ⟨rfl, b0.trans (b1.mono b0.size)⟩
set_option maxHeartbeats 1600000 in
theorem ram_yes (p0 p1 : Bool) (ra : Option Addr) (rn rc : Nat) (sa : Option Addr) (sn sc : Nat) (F T F' T' : Nat → Int) (p : ByteArray) (ao : Option Addr) (n c : Nat) (sv rm : ByteArray) (R : Nat → Int) (w : World) (h : PolAt w ra rn rc sa sn sc F T F' T') (hp : p.size ≤ 1000000) (hl : n ≤ 1000000) (hR : IntsAt w ao n R) (h1 : mayPB rn sn F T F' T' = true) (h2 : maySB p n sv rm R = true) :
    Calls Try.prog 21 #[poV p0 p1 ra rn rc sa sn sc, scV p ao n c sv rm] w fun e w' => ∃ g, e = .returned (.tuple #[.slice (some ⟨g, 0, none⟩) 2048 2048, .int .i64 0]) ∧ w.heap.size ≤ g ∧ OwnM w' g g 2048 (bt rm) (fun i => inG F T rn (i : Int)) ∧ Below w.heap.size w w' := by
  have b0 : Below w.heap.size w ((w.alloc (.cells #[.bool p0, .bool p1, .slice ra rn rc, .slice sa sn sc] 25)).alloc (.cells #[.string p, .slice ao n c, .string sv, .string rm] 28)) := ((Below.refl _ _).alloc (Nat.le_refl _) _).alloc (by simp) _
  have H1 := hidI h1; clear h1
  have H2 := hidI h2; clear h2
  have hrl := h.rl
  have hsl := h.sl
  go_enter Try.func21, Try.ntmps21
  go_wp2_with fail
  refine (smay_any p0 p1 ra rn rc sa sn sc F T F' T' p ao n c sv rm R _ (h.below b0) hp hl (hR.below b0)).mono ?_
  rw [H1.out, H2.out]
  simp only [if_true]
  rintro e w1 ⟨rfl, b1⟩
  have B1 := b0.trans (b1.mono b0.size)
  have P1 : PoAt w1 w.heap.size p0 p1 ra rn rc sa sn sc := (b1.block _ (by simp; omega)).trans (blk_alloc (blk_new _ _) _)
  have A1 : ScAt w1 (w.heap.size + 1) p ao n c sv rm := (b1.block _ (by simp)).trans (blk_new' _ (by simp))
  have d : w1.cell? ⟨w.heap.size + 1, 3, none⟩ = some (.string rm) := blk_cell A1 3
  have q : w1.cell? ⟨w.heap.size, 2, none⟩ = some (.slice ra rn rc) := blk_cell P1 2
  go_wp2_with fail
  refine (make_any 2048 rm ra rn rc F T _ (by omega) (by omega) (by have := mayS_sizes H2.out; omega) (by omega) (h.below B1).r (by have := mayP_wi H1.out; exact this.1)).mono ?_
  rintro e w2 ⟨g, rfl, hg, hO, b2⟩
  go_wp2_with fail
  exact bodyPost_ret (v := .tuple #[.slice (some ⟨g, 0, none⟩) 2048 2048, .int .i64 0]) (by simp [results, Try.results21, go_sem]) rfl ⟨g, rfl, Nat.le_trans B1.size hg, hO, B1.trans (b2.mono B1.size)⟩
set_option maxHeartbeats 1600000 in
theorem save_no (p0 p1 : Bool) (ra : Option Addr) (rn rc : Nat) (sa : Option Addr) (sn sc : Nat) (F T F' T' : Nat → Int) (p : ByteArray) (ao : Option Addr) (n c : Nat) (sv rm : ByteArray) (R : Nat → Int) (w : World) (h : PolAt w ra rn rc sa sn sc F T F' T') (hp : p.size ≤ 1000000) (hl : n ≤ 1000000) (hR : IntsAt w ao n R) (z : Int)
    (hz : (if mayPB rn sn F T F' T' then (if maySB p n sv rm R then 0 else 8) else 7) = z) (hz0 : (z != 0) = true) :
    Calls Try.prog 22 #[poV p0 p1 ra rn rc sa sn sc, scV p ao n c sv rm] w fun e w' => e = .returned (.tuple #[.slice none 0 0, .int .i64 z]) ∧ Below w.heap.size w w' := by
  have b0 : Below w.heap.size w ((w.alloc (.cells #[.bool p0, .bool p1, .slice ra rn rc, .slice sa sn sc] 25)).alloc (.cells #[.string p, .slice ao n c, .string sv, .string rm] 28)) := ((Below.refl _ _).alloc (Nat.le_refl _) _).alloc (by simp) _
  have HZ := hidI hz; clear hz
  go_enter Try.func22, Try.ntmps22
  go_wp2_with fail
  refine (smay_any p0 p1 ra rn rc sa sn sc F T F' T' p ao n c sv rm R _ (h.below b0) hp hl (hR.below b0)).mono ?_
  rw [HZ.out]
  rintro e w1 ⟨rfl, b1⟩
  go_wp2_with fail
  exact bodyPost_ret (v := .tuple #[.slice none 0 0, .int .i64 z]) (by simp [results, Try.results22, go_sem]) rfl ⟨rfl, b0.trans (b1.mono b0.size)⟩
set_option maxHeartbeats 1600000 in
theorem save_yes (p0 p1 : Bool) (ra : Option Addr) (rn rc : Nat) (sa : Option Addr) (sn sc : Nat) (F T F' T' : Nat → Int) (p : ByteArray) (ao : Option Addr) (n c : Nat) (sv rm : ByteArray) (R : Nat → Int) (w : World) (h : PolAt w ra rn rc sa sn sc F T F' T') (hp : p.size ≤ 1000000) (hl : n ≤ 1000000) (hR : IntsAt w ao n R) (h1 : mayPB rn sn F T F' T' = true) (h2 : maySB p n sv rm R = true) :
    Calls Try.prog 22 #[poV p0 p1 ra rn rc sa sn sc, scV p ao n c sv rm] w fun e w' => ∃ g, e = .returned (.tuple #[.slice (some ⟨g, 0, none⟩) 8192 8192, .int .i64 0]) ∧ w.heap.size ≤ g ∧ OwnM w' g g 8192 (bt sv) (fun i => inG F' T' sn (i : Int)) ∧ Below w.heap.size w w' := by
  have b0 : Below w.heap.size w ((w.alloc (.cells #[.bool p0, .bool p1, .slice ra rn rc, .slice sa sn sc] 25)).alloc (.cells #[.string p, .slice ao n c, .string sv, .string rm] 28)) := ((Below.refl _ _).alloc (Nat.le_refl _) _).alloc (by simp) _
  have H1 := hidI h1; clear h1
  have H2 := hidI h2; clear h2
  have hrl := h.rl
  have hsl := h.sl
  go_enter Try.func22, Try.ntmps22
  go_wp2_with fail
  refine (smay_any p0 p1 ra rn rc sa sn sc F T F' T' p ao n c sv rm R _ (h.below b0) hp hl (hR.below b0)).mono ?_
  rw [H1.out, H2.out]
  simp only [if_true]
  rintro e w1 ⟨rfl, b1⟩
  have B1 := b0.trans (b1.mono b0.size)
  have P1 : PoAt w1 w.heap.size p0 p1 ra rn rc sa sn sc := (b1.block _ (by simp; omega)).trans (blk_alloc (blk_new _ _) _)
  have A1 : ScAt w1 (w.heap.size + 1) p ao n c sv rm := (b1.block _ (by simp)).trans (blk_new' _ (by simp))
  have d : w1.cell? ⟨w.heap.size + 1, 2, none⟩ = some (.string sv) := blk_cell A1 2
  have q : w1.cell? ⟨w.heap.size, 3, none⟩ = some (.slice sa sn sc) := blk_cell P1 3
  go_wp2_with fail
  refine (make_any 8192 sv sa sn sc F' T' _ (by omega) (by omega) (by have := mayS_sizes H2.out; omega) (by omega) (h.below B1).s (by have := mayP_wi H1.out; exact this.2)).mono ?_
  rintro e w2 ⟨g, rfl, hg, hO, b2⟩
  go_wp2_with fail
  exact bodyPost_ret (v := .tuple #[.slice (some ⟨g, 0, none⟩) 8192 8192, .int .i64 0]) (by simp [results, Try.results22, go_sem]) rfl ⟨g, rfl, Nat.le_trans B1.size hg, hO, B1.trans (b2.mono B1.size)⟩
set_option maxHeartbeats 3200000 in
theorem bsame_some (b b' N c c' : Nat) (V V' : Nat → Int) (S S' : Nat → Bool) (w : World) (hN : N ≤ 1000000) (h : ∀ i, i < N → ∀ j, j < 2 → w.cell? ⟨b, i * 2 + j, none⟩ = some (ByC V S i j)) (h' : ∀ i, i < N → ∀ j, j < 2 → w.cell? ⟨b', i * 2 + j, none⟩ = some (ByC V' S' i j)) (he : ∀ i, i < N → V i = V' i ∧ S i = S' i) :
    Calls Try.prog 23 #[.slice (some ⟨b, 0, none⟩) N c, .slice (some ⟨b', 0, none⟩) N c'] w fun e w' => e = .returned (.bool true) ∧ Below w.heap.size w w' := by
  have H := hidI h; clear h
  have H' := hidI h'; clear h'
  have HE := hidI he; clear he
  go_enter Try.func23, Try.ntmps23
  go_wp2_with fail
  go_loopw [5] (fun i wr => ∃ k q : Nat, k ≤ N ∧ i = .int .i64 k ∧ wr = w.drewN q) (fun i _ => N - (intOf i).toNat)
  case atStart => exact ⟨0, 0, Nat.zero_le _, rfl, rfl⟩
  case round =>
    obtain ⟨k, q, hk, rfl, rfl⟩ := hrel
    by_cases hlt : k < N
    · have c0 : (w.drewN q).cell? ⟨b, k * 2, none⟩ = some (.int .u8 (V k)) := H.out k hlt 0 (by omega)
      have c1 : (w.drewN q).cell? ⟨b, k * 2 + 1, none⟩ = some (.bool (S k)) := H.out k hlt 1 (by omega)
      have d0 : (w.drewN q).cell? ⟨b', k * 2, none⟩ = some (.int .u8 (V k)) := by rw [(HE.out k hlt).1]; exact H'.out k hlt 0 (by omega)
      have d1 : (w.drewN q).cell? ⟨b', k * 2 + 1, none⟩ = some (.bool (S k)) := by rw [(HE.out k hlt).2]; exact H'.out k hlt 1 (by omega)
      have hlt' : (k : Int) < N := by omega
      have hlt0 : (0 : Int) ≤ (k : Int) := by omega
      go_upto_region 6 with fail
      refine wp_region_noPanic ?_
      refine wp_region_held_drew (S := (fun w' => w'.cell? ⟨b, k * 2, none⟩ = some (.int .u8 (V k)) ∧ w'.cell? ⟨b, k * 2 + 1, none⟩ = some (.bool (S k)) ∧ w'.cell? ⟨b', k * 2, none⟩ = some (.int .u8 (V k)) ∧ w'.cell? ⟨b', k * 2 + 1, none⟩ = some (.bool (S k)))) (by kernel_rfl) ⟨c0, c1, d0, d1⟩ (fun hHeld => ?_)
      refine tk 0 (oi := ⟨_, _, _, _, _, _⟩) (v := ?_) rfl (by rfl) ?_ (by assumption) ?_; rotate_left; (focus (intro w hSw; (try dsimp only at hSw); go_simp; with_reducible rfl)); simp only [Act.put, tA, tB, tC]
      refine tk 1 (oi := ⟨_, _, _, _, _, _⟩) (v := ?_) rfl (by rfl) ?_ (by assumption) ?_; rotate_left; (focus (intro w hSw; (try dsimp only at hSw); go_simp; with_reducible rfl)); simp only [Act.put, tA, tB, tC]
      refine tk 2 (oi := ⟨_, _, _, _, _, _⟩) (v := ?_) rfl (by rfl) ?_ (by assumption) ?_; rotate_left; (focus (intro w hSw; (try dsimp only at hSw); go_simp; with_reducible rfl)); simp only [Act.put, tA, tB, tC]
      refine tk 3 (oi := ⟨_, _, _, _, _, _⟩) (v := ?_) rfl (by rfl) ?_ (by assumption) ?_; rotate_left; (focus (intro w hSw; (try dsimp only at hSw); go_simp; with_reducible rfl)); simp only [Act.put, tA, tB, tC]
      refine tk 4 (oi := ⟨_, _, _, _, _, _⟩) (v := ?_) rfl (by rfl) ?_ (by assumption) ?_; rotate_left; (focus (intro w hSw; (try dsimp only at hSw); go_simp; with_reducible rfl)); simp only [Act.put, tA, tB, tC]
      refine tk 5 (oi := ⟨_, _, _, _, _, _⟩) (v := ?_) rfl (by rfl) ?_ (by assumption) ?_; rotate_left; (focus (intro w hSw; (try dsimp only at hSw); go_simp; with_reducible rfl)); simp only [Act.put, tA, tB, tC]
      refine tk 6 (oi := ⟨_, _, _, _, _, _⟩) (v := ?_) rfl (by rfl) ?_ (by assumption) ?_; rotate_left; (focus (intro w hSw; (try dsimp only at hSw); go_simp; with_reducible rfl)); simp only [Act.put, tA, tB, tC]
      refine tk 7 (oi := ⟨_, _, _, _, _, _⟩) (v := ?_) rfl (by rfl) ?_ (by assumption) ?_; rotate_left; (focus (intro w hSw; (try dsimp only at hSw); go_simp; with_reducible rfl)); simp only [Act.put, tA, tB, tC]
      refine tk 8 (oi := ⟨_, _, _, _, _, _⟩) (v := ?_) rfl (by rfl) ?_ (by assumption) ?_; rotate_left; (focus (intro w hSw; (try dsimp only at hSw); go_simp; with_reducible rfl)); simp only [Act.put, tA, tB, tC]
      refine wpAnyH_done (by kernel_rfl) (NoPanic.normal ?_) _
      go_wp2_with fail
      exact ⟨⟨k + 1, q + 1, by omega, by simp, rfl⟩, by simp [intOf]; omega⟩
    · obtain rfl : k = N := by omega
      go_wp2
      go_ret
      exact ⟨rfl, below_drewN (Below.refl _ _) _⟩
end Go.Proofs.Ytkhjfcbloahjeaa
