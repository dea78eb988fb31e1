import Derived.Test.YtdmcmlajpajaaaaSd2
namespace Go.Proofs.Ytdmcmlajpajaaaa
open Go.RowKit Go.Sx
theorem rDot_zero (ao : Option Addr) (cap : Nat) (x : Int) (w : World) : Calls Try.prog 20 #[.slice ao 0 cap, .int .i64 x] w fun e w' => e = .returned (.tuple #[.int .u8 0, .bool false, .bool false]) ∧ Below w.heap.size w w' := by
  go_enter Try.func20, Try.ntmps20
  go_wp2
  refine wp_loop_rounds 1 ?_
  rw [rounds_succ]
  go_wp2
  go_ret3
  exact ⟨rfl, Below.refl _ _⟩
set_option maxHeartbeats 800000 in
theorem rDot_some (b off n cap : Nat) (U : Uns) (x : Int) (w : World) (hb : b < w.heap.size) (hl : n ≤ 1000000) (hU : U.Ok n) (h : ∀ i, i < n → ∀ j, j < 7 → w.cell? ⟨b, off + i * 7 + j, none⟩ = some (U.C i j)) :
    Calls Try.prog 20 #[.slice (some ⟨b, off, none⟩) n cap, .int .i64 x] w fun e w' => e = .returned (.tuple #[.int .u8 (U.dot x n), .bool (U.back x n), .bool (U.zero x n)]) ∧ Below w.heap.size w w' := by
  go_enter Try.func20, Try.ntmps20
  go_wp2
  go_loopw [7] (fun i wr => ∃ k : Nat, k ≤ n ∧ i = .int .i64 k ∧ (∀ j, j < k → U.v x j ≤ 0) ∧ Below w.heap.size w wr) (fun i _ => n - (intOf i).toNat)
  case atStart => exact ⟨0, Nat.zero_le _, rfl, fun j hj => absurd hj (by omega), Below.refl _ _⟩
  case round =>
    obtain ⟨k, hk, rfl, ht0, hbl⟩ := hrel
    have ht := hidI ht0; clear ht0
    have hc : ∀ j, j < 7 → k < n → wr.cell? ⟨b, off + k * 7 + j, none⟩ = some (U.C k j) := fun j hj hlt => (hbl.cell (p := ⟨b, off + k * 7 + j, none⟩) (by exact hb)).trans (h k hlt j hj)
    have h0 := hc 0 (by omega)
    have h1 := hc 1 (by omega)
    have h2 := hc 2 (by omega)
    have h3 := hc 3 (by omega)
    have h4 := hc 4 (by omega)
    have h5 := hc 5 (by omega)
    have h6 := hc 6 (by omega)
    clear hc
    simp only [Uns.C, Nat.add_zero] at h0 h1 h2 h3 h4 h5 h6
    by_cases hlt : k < n
    · have H := hidI (And.intro (hU.X k hlt) (And.intro (hU.lo k hlt) (And.intro (hU.hi k hlt) (hU.ti k hlt))))
      have hX0 := H.out.1.1
      have hX1 := H.out.1.2
      have hl0 := H.out.2.1.1
      have hl1 := H.out.2.1.2
      have hh0 := H.out.2.2.1.1
      have hh1 := H.out.2.2.1.2
      have ht0 := H.out.2.2.2.1
      have ht1 := H.out.2.2.2.2
      by_cases hx : 0 ≤ x - U.X k ∧ x - U.X k ≤ 7
      · obtain ⟨hx0, hx1⟩ := hx
        obtain ⟨a1, a2⟩ := shr_in (U.lo k) (7 - (x - U.X k)).toNat hl0 hl1
        obtain ⟨b1, b2⟩ := shr_in (U.hi k) (7 - (x - U.X k)).toNat hh0 hh1
        have hv : dv (U.X k) (U.lo k) (U.hi k) x = U.lo k / 2 ^ (7 - (x - U.X k)).toNat % 2 + 2 * (U.hi k / 2 ^ (7 - (x - U.X k)).toNat % 2) := by rw [dv, if_neg (by omega)]
        have hv' := hidI hv; clear hv
        go_wp2
        go_quiet (fail)
        go_wp2
        · have hpos : 0 < U.lo k / 2 ^ (7 - (x - U.X k)).toNat % 2 + 2 * (U.hi k / 2 ^ (7 - (x - U.X k)).toNat % 2) := by assumption
          have P := dot_some (U := U) hlt ht.out (by rw [Uns.v, hv'.out]; exact hpos)
          have P' := hidI P; clear P
          go_quiet (fail)
          go_wp2
          go_ret3
          exact ⟨ret3 ⟨by rw [P'.out.1, Uns.v, hv'.out], P'.out.2.1.symm, P'.out.2.2.symm⟩, below_drewN (below_drewN (hbl.alloc hbl.size _) _) _⟩
        · go_roundw
          have hneg : U.lo k / 2 ^ (7 - (x - U.X k)).toNat % 2 + 2 * (U.hi k / 2 ^ (7 - (x - U.X k)).toNat % 2) ≤ 0 := by assumption
          case rel =>
            refine ⟨k + 1, by omega, by go_num, fun j hj => ?_, below_drewN (hbl.alloc hbl.size _) _⟩
            by_cases e : j = k
            · rw [e, Uns.v, hv'.out]; exact hneg
            · exact ht.out j (by omega)
          case measure => simp [intOf]; omega
      · have hd : U.v x k ≤ 0 := by simp only [Uns.v, dv]; rw [if_pos (by omega)]; omega
        have hd' := hidI hd; clear hd
        have fin : (k + 1 ≤ n ∧ (∀ j, j < k + 1 → U.v x j ≤ 0)) := ⟨by omega, fun j hj => by
          by_cases e : j = k
          · rw [e]; exact hd'.out
          · exact ht.out j (by omega)⟩
        have fin' := hidI fin; clear fin
        go_wp2
        all_goals
          go_roundw
          case rel => exact ⟨k + 1, fin'.out.1, by go_num, fin'.out.2, hbl.alloc hbl.size _⟩
          case measure => simp [intOf]; omega
    · go_wp2
      go_ret3
      have hkn : k = n := by omega
      exact ⟨ret3 (by rw [← hkn]; have := dot_none ht.out; exact ⟨this.1.symm, this.2.1.symm, this.2.2.symm⟩), hbl⟩
theorem rDot_any (ao : Option Addr) (n cap : Nat) (U : Uns) (x : Int) (w : World) (hl : n ≤ 1000000) (hU : U.Ok n) (h : RowAt w ao n 7 U.C) :
    Calls Try.prog 20 #[.slice ao n cap, .int .i64 x] w fun e w' => e = .returned (.tuple #[.int .u8 (U.dot x n), .bool (U.back x n), .bool (U.zero x n)]) ∧ Below w.heap.size w w' := by
  by_cases hn : 0 < n
  · obtain ⟨b, off, rfl, hb, hc⟩ := h.some hn
    exact rDot_some b off n cap U x w hb hl hU hc
  · obtain rfl : n = 0 := by omega
    obtain ⟨e1, e2, e3⟩ := dot_none (U := U) (x := x) (n := 0) (fun j hj => absurd hj (by omega))
    rw [e1, e2, e3]
    exact rDot_zero ao cap x w
end Go.Proofs.Ytdmcmlajpajaaaa
