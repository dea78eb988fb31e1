import Derived.Test.YtdmcmlajpajaaaaSd3
namespace Go.Proofs.Ytdmcmlajpajaaaa
open Go.RowKit Go.Sx
theorem any_succ {n k : Nat} {S : Nat → Bool} (hk : k < n) (h : (List.range k).any S = false) : (S k = true → (List.range n).any S = true) ∧ (S k = false → (List.range (k + 1)).any S = false) := by
  refine ⟨fun hs => ?_, fun hs => ?_⟩
  · rw [List.any_eq_true]; exact ⟨k, by simpa using hk, hs⟩
  · rw [List.range_succ, List.any_append, h]; simp [hs]
theorem rAny_zero (ao : Option Addr) (cap : Nat) (w : World) : Calls Try.prog 22 #[.slice ao 0 cap] w fun e w' => e = .returned (.bool false) ∧ Below w.heap.size w w' := by
  go_enter Try.func22, Try.ntmps22
  go_wp2
  refine wp_loop_rounds 1 ?_
  rw [rounds_succ]
  go_wp2
  go_ret
  exact ⟨rfl, Below.refl _ _⟩
set_option maxHeartbeats 400000 in
theorem rAny_some (b off n cap : Nat) (S : Nat → Bool) (w : World) (hl : n ≤ 1000000) (h : ∀ i, i < n → w.cell? ⟨b, off + i * 7 + 6, none⟩ = some (.bool (S i))) :
    Calls Try.prog 22 #[.slice (some ⟨b, off, none⟩) n cap] w fun e w' => e = .returned (.bool ((List.range n).any S)) ∧ Below w.heap.size w w' := by
  go_enter Try.func22, Try.ntmps22
  go_wp2
  go_loop [3] (fun i => ∃ k : Nat, k ≤ n ∧ i = .int .i64 k ∧ (List.range k).any S = false) (fun i => n - (intOf i).toNat)
  case atStart => exact ⟨0, Nat.zero_le _, rfl, rfl⟩
  case round =>
    obtain ⟨k, hk, rfl, ht0⟩ := hrel
    have ht := hidI ht0; clear ht0
    have hcs : k < n → w.cell? ⟨b, off + k * 7 + 6, none⟩ = some (.bool (S k)) := fun hlt => h k hlt
    go_wp2
    · go_ret
      have hlt : k < n := by assumption
      have hs : S k = true := by assumption
      exact ⟨ret_bool ((any_succ hlt ht.out).1 hs).symm, Below.refl _ _⟩
    · go_round
      have hlt : k < n := by assumption
      have hs : S k = false := by assumption
      case rel => exact ⟨k + 1, by omega, by go_num, (any_succ hlt ht.out).2 hs⟩
      case measure => simp [intOf]; omega
    · go_ret
      have : k = n := by omega
      subst this
      exact ⟨ret_bool ht.out.symm, Below.refl _ _⟩
theorem rAny_any (ao : Option Addr) (n cap : Nat) (U : Uns) (w : World) (hl : n ≤ 1000000) (h : RowAt w ao n 7 U.C) :
    Calls Try.prog 22 #[.slice ao n cap] w fun e w' => e = .returned (.bool ((List.range n).any U.s)) ∧ Below w.heap.size w w' := by
  by_cases hn : 0 < n
  · obtain ⟨b, off, rfl, _, hc⟩ := h.some hn
    exact rAny_some b off n cap U.s w hl (fun i hi => hc i hi 6 (by omega))
  · obtain rfl : n = 0 := by omega
    exact rAny_zero ao cap w

/-! The library's -/
theorem cl_any (a b c d : Value) (x y s : Bool) (w : World) : Calls Try.prog 34 #[.agg #[a, b, c, d, .bool x, .bool y, .bool s]] w fun e w' => e = .returned (.bool s) ∧ Below w.heap.size w w' := by
  go_enter Try.func34, Try.ntmps34
  go_wp2
  go_ret
  exact ⟨rfl, (Below.refl _ _).alloc (Nat.le_refl _) _⟩
set_option maxHeartbeats 400000 in
theorem idx_some (b off n cap : Nat) (U : Uns) (w : World) (hb : b < w.heap.size) (hl : n ≤ 1000000) (h : ∀ i, i < n → ∀ j, j < 7 → w.cell? ⟨b, off + i * 7 + j, none⟩ = some (U.C i j)) :
    Calls Try.prog 35 #[.slice (some ⟨b, off, none⟩) n cap, .func (.func 34) #[] #[]] w fun e w' => (∃ z : Int, e = .returned (.int .i64 z) ∧ decide (0 ≤ z) = (List.range n).any U.s) ∧ Below w.heap.size w w' := by
  go_enter Try.func35, Try.ntmps35
  go_wp2
  go_loopw [8] (fun i wr => ∃ k : Nat, k ≤ n ∧ i = .int .i64 k ∧ (List.range k).any U.s = false ∧ Below w.heap.size w wr) (fun i _ => n - (intOf i).toNat)
  case atStart => exact ⟨0, Nat.zero_le _, rfl, rfl, Below.refl _ _⟩
  case round =>
    obtain ⟨k, hk, rfl, ht0, hbl⟩ := hrel
    have ht := hidI ht0; clear ht0
    have hc : ∀ j, j < 7 → k < n → wr.cell? ⟨b, off + k * 7 + j, none⟩ = some (U.C k j) := fun j hj hlt => (hbl.cell (p := ⟨b, off + k * 7 + j, none⟩) (by exact hb)).trans (h k hlt j hj)
    have h0 := hc 0 (by omega)
    have h1 := hc 1 (by omega)
    have h2 := hc 2 (by omega)
    have h3 := hc 3 (by omega)
    have h4 := hc 4 (by omega)
    have h5 := hc 5 (by omega)
    have h6 := hc 6 (by omega)
    clear hc
    simp only [Uns.C, Nat.add_zero] at h0 h1 h2 h3 h4 h5 h6
    go_wp2_with (go_at_call 34; refine (cl_any _ _ _ _ _ _ _ _).mono ?_; rintro e w' ⟨rfl, hbw⟩)
    · go_ret
      have hlt : k < n := by assumption
      have hs : U.s k = true := by assumption
      exact ⟨⟨_, rfl, by rw [(any_succ hlt ht.out).1 hs]; simp⟩, hbl.trans (hbw.mono hbl.size)⟩
    · go_roundw
      have hlt : k < n := by assumption
      have hs : U.s k = false := by assumption
      case rel => exact ⟨k + 1, by omega, by go_num, (any_succ hlt ht.out).2 hs, hbl.trans (hbw.mono hbl.size)⟩
      case measure => simp [intOf]; omega
    · go_ret
      have : k = n := by omega
      subst this
      exact ⟨⟨_, rfl, by rw [ht.out]; rfl⟩, hbl⟩
theorem idx_any (ao : Option Addr) (n cap : Nat) (U : Uns) (w : World) (hl : n ≤ 1000000) (h : RowAt w ao n 7 U.C) :
    Calls Try.prog 35 #[.slice ao n cap, .func (.func 34) #[] #[]] w fun e w' => (∃ z : Int, e = .returned (.int .i64 z) ∧ decide (0 ≤ z) = (List.range n).any U.s) ∧ Below w.heap.size w w' := by
  by_cases hn : 0 < n
  · obtain ⟨b, off, rfl, hb, hc⟩ := h.some hn
    exact idx_some b off n cap U w hb hl hc
  · obtain rfl : n = 0 := by omega
    go_enter Try.func35, Try.ntmps35
    go_wp2
    refine wp_loop_rounds 1 ?_
    rw [rounds_succ]
    go_wp2
    go_ret
    exact ⟨⟨_, rfl, rfl⟩, Below.refl _ _⟩
theorem cont_any (ao : Option Addr) (n cap : Nat) (U : Uns) (w : World) (hl : n ≤ 1000000) (h : RowAt w ao n 7 U.C) :
    Calls Try.prog 33 #[.slice ao n cap, .func (.func 34) #[] #[]] w fun e w' => e = .returned (.bool ((List.range n).any U.s)) ∧ Below w.heap.size w w' := by
  go_enter Try.func33, Try.ntmps33
  go_wp2_with (go_at_call 35; refine (idx_any _ _ _ U _ hl h).mono ?_; rintro e w' ⟨⟨z, rfl, hz⟩, hbw⟩)
  go_ret
  exact ⟨rfl, hbw⟩
theorem Any_any (ao : Option Addr) (n cap : Nat) (U : Uns) (w : World) (hl : n ≤ 1000000) (h : RowAt w ao n 7 U.C) :
    Calls Try.prog 21 #[.slice ao n cap] w fun e w' => e = .returned (.bool ((List.range n).any U.s)) ∧ Below w.heap.size w w' := by
  go_enter Try.func21, Try.ntmps21
  go_wp2_with (go_at_call 33; refine (cont_any _ _ _ U _ hl h).mono ?_; rintro e w' ⟨rfl, hbw⟩)
  go_ret
  exact ⟨rfl, hbw⟩
end Go.Proofs.Ytdmcmlajpajaaaa
