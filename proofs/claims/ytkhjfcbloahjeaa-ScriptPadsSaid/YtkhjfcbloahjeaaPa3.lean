import Derived.Test.YtkhjfcbloahjeaaPa2
namespace Go.Proofs.Ytkhjfcbloahjeaa
open Go.RowKit Go.Sx
def prev (R : Nat → Int) (i : Nat) : Int := if i = 0 then -1 else R (i - 1)
/-- Numbers that rise from 0 on, below a bound. -/
def ckB (R : Nat → Int) (n : Nat) (m : Int) : Bool := (List.range n).all fun i => decide (prev R i < R i ∧ R i < m)
theorem ckB_succ {R : Nat → Int} {m : Int} {k n : Nat} (hk : k < n) (h : ckB R k m = true) : (prev R k < R k ∧ R k < m → ckB R (k + 1) m = true) ∧ (¬ (prev R k < R k ∧ R k < m) → ckB R n m = false) := by
  refine ⟨fun e => ?_, fun e => ?_⟩
  · unfold ckB at *; rw [List.range_succ, List.all_append, h]; simpa using e
  · unfold ckB; rw [List.all_eq_false]; exact ⟨k, by simpa using hk, by simpa using e⟩
def maySB (p : ByteArray) (n : Nat) (sv rm : ByteArray) (R : Nat → Int) : Bool := decide (p.size % 2 = 0 ∧ fr p ≤ 600 ∧ sv.size ≤ 8192 ∧ rm.size ≤ 2048) && ckB R n (fr p)
theorem at_cells {p sv rm : ByteArray} {ao : Option Addr} {n c : Nat} {w w' : World} (h : Below (w.heap.size + 1) (w.alloc (.cells #[.string p, .slice ao n c, .string sv, .string rm] 28)) w') : w'.heap[w.heap.size]? = some (.cells #[.string p, .slice ao n c, .string sv, .string rm] 28 (0, 0)) := (h.block _ (by omega)).trans (blk_new w _)
set_option maxHeartbeats 800000 in
theorem check_no (p : ByteArray) (ao : Option Addr) (n c : Nat) (sv rm : ByteArray) (w : World) (hp : p.size ≤ 1000000) (h : ¬ (p.size % 2 = 0 ∧ fr p ≤ 600 ∧ sv.size ≤ 8192 ∧ rm.size ≤ 2048)) :
    Calls Try.prog 17 #[scV p ao n c sv rm] w fun e w' => e = .returned (.int .i64 8) ∧ Below w.heap.size w w' := by
  go_enter Try.func17, Try.ntmps17
  go_wp2_with (go_at_call 18; refine (frames_any _ _ _ _ _ _ _ hp).mono ?_; rintro e w' ⟨rfl, hb⟩; have c0 : w'.cell? ⟨w.heap.size, 0, none⟩ = some (.string p) := blk_cell (at_cells (hb.mono (by simp))) 0; have c1 : w'.cell? ⟨w.heap.size, 1, none⟩ = some (.slice ao n c) := blk_cell (at_cells (hb.mono (by simp))) 1; have c2 : w'.cell? ⟨w.heap.size, 2, none⟩ = some (.string sv) := blk_cell (at_cells (hb.mono (by simp))) 2; have c3 : w'.cell? ⟨w.heap.size, 3, none⟩ = some (.string rm) := blk_cell (at_cells (hb.mono (by simp))) 3)
  all_goals first
    | (exfalso; omega)
    | (go_ret; exact ⟨rfl, ((Below.refl _ _).alloc (Nat.le_refl _) _).trans (hb.mono (by simp))⟩)
set_option maxHeartbeats 800000 in
theorem check_zero (p : ByteArray) (ao : Option Addr) (n c : Nat) (sv rm : ByteArray) (w : World) (h1 : p.size % 2 = 0) (h2 : fr p ≤ 600) (h3 : sv.size ≤ 8192) (h4 : rm.size ≤ 2048) (hn : n = 0) :
    Calls Try.prog 17 #[scV p ao n c sv rm] w fun e w' => e = .returned (.int .i64 0) ∧ Below w.heap.size w w' := by
  have hp : p.size ≤ 1000000 := by unfold fr at h2; omega
  have h1' : (p.size : Int) % 2 = 0 := by omega
  subst hn
  go_enter Try.func17, Try.ntmps17
  go_wp2_with (go_at_call 18; refine (frames_any _ _ _ _ _ _ _ hp).mono ?_; rintro e w' ⟨rfl, hb⟩; have c0 : w'.cell? ⟨w.heap.size, 0, none⟩ = some (.string p) := blk_cell (at_cells (hb.mono (by simp))) 0; have c1 : w'.cell? ⟨w.heap.size, 1, none⟩ = some (.slice ao 0 c) := blk_cell (at_cells (hb.mono (by simp))) 1; have c2 : w'.cell? ⟨w.heap.size, 2, none⟩ = some (.string sv) := blk_cell (at_cells (hb.mono (by simp))) 2; have c3 : w'.cell? ⟨w.heap.size, 3, none⟩ = some (.string rm) := blk_cell (at_cells (hb.mono (by simp))) 3)
  all_goals first
    | (exfalso; omega)
    | skip
  refine wp_loop_rounds 1 ?_
  rw [rounds_succ]
  go_wp2
  go_ret
  exact ⟨rfl, ((Below.refl _ _).alloc (Nat.le_refl _) _).trans (hb.mono (by simp))⟩
set_option maxHeartbeats 1600000 in
theorem check_some (p : ByteArray) (b off n c : Nat) (sv rm : ByteArray) (R : Nat → Int) (w : World) (h1 : p.size % 2 = 0) (h2 : fr p ≤ 600) (h3 : sv.size ≤ 8192) (h4 : rm.size ≤ 2048) (hl : n ≤ 1000000) (hb0 : b < w.heap.size) (h : ∀ i, i < n → w.cell? ⟨b, off + i, none⟩ = some (.int .i64 (R i))) :
    Calls Try.prog 17 #[scV p (some ⟨b, off, none⟩) n c sv rm] w fun e w' => e = .returned (.int .i64 (if ckB R n (fr p) then 0 else 8)) ∧ Below w.heap.size w w' := by
  obtain ⟨z, hz⟩ : ∃ z : Int, z = (if ckB R n (fr p) then 0 else 8) := ⟨_, rfl⟩
  rw [← hz]
  have HZ := hidI hz; clear hz
  have hp : p.size ≤ 1000000 := by unfold fr at h2; omega
  have h1' : (p.size : Int) % 2 = 0 := by omega
  have H := hidI h; clear h
  go_enter Try.func17, Try.ntmps17
  go_wp2_with (go_at_call 18; refine (frames_any _ _ _ _ _ _ _ hp).mono ?_; rintro e w' ⟨rfl, hb⟩; have c0 : w'.cell? ⟨w.heap.size, 0, none⟩ = some (.string p) := blk_cell (at_cells (hb.mono (by simp))) 0; have c1 : w'.cell? ⟨w.heap.size, 1, none⟩ = some (.slice (some ⟨b, off, none⟩) n c) := blk_cell (at_cells (hb.mono (by simp))) 1; have c2 : w'.cell? ⟨w.heap.size, 2, none⟩ = some (.string sv) := blk_cell (at_cells (hb.mono (by simp))) 2; have c3 : w'.cell? ⟨w.heap.size, 3, none⟩ = some (.string rm) := blk_cell (at_cells (hb.mono (by simp))) 3)
  all_goals first
    | (exfalso; omega)
    | skip
  have B0 : Below w.heap.size w w' := ((Below.refl _ _).alloc (Nat.le_refl _) _).trans (hb.mono (by simp))
  have H' : Hid (∀ i, i < n → w'.cell? ⟨b, off + i, none⟩ = some (.int .i64 (R i))) := fun i hi => (B0.cell (p := ⟨b, off + i, none⟩) (by exact hb0)).trans (H.out i hi)
  clear hb H
  go_loop [33, 4] (fun i l => ∃ k : Nat, k ≤ n ∧ i = .int .i64 k ∧ l = .int .i64 (prev R k) ∧ ckB R k (fr p) = true) (fun i _ => n - (intOf i).toNat)
  case atStart => exact ⟨0, Nat.zero_le _, rfl, rfl, rfl⟩
  case round =>
    obtain ⟨k, hk, rfl, rfl, ht0⟩ := hrel
    have ht := hidI ht0; clear ht0
    by_cases hlt : k < n
    · have hc := H'.out k hlt
      go_wp2
      all_goals first
        | (go_ret; exact ⟨ret_int (by rw [HZ.out, (ckB_succ hlt ht.out).2 (by omega)]; rfl), B0⟩)
        | (refine ⟨⟨k + 1, by omega, by simp, by simp [prev], (ckB_succ hlt ht.out).1 (by omega)⟩, by simp [intOf]; omega⟩)
        | skip
    · obtain rfl : k = n := by omega
      go_wp2
      go_ret
      exact ⟨ret_int (by rw [HZ.out, ht.out]; rfl), B0⟩
theorem check_any (p : ByteArray) (ao : Option Addr) (n c : Nat) (sv rm : ByteArray) (R : Nat → Int) (w : World) (hp : p.size ≤ 1000000) (hl : n ≤ 1000000) (h : IntsAt w ao n R) :
    Calls Try.prog 17 #[scV p ao n c sv rm] w fun e w' => e = .returned (.int .i64 (if maySB p n sv rm R then 0 else 8)) ∧ Below w.heap.size w w' := by
  by_cases hs : p.size % 2 = 0 ∧ fr p ≤ 600 ∧ sv.size ≤ 8192 ∧ rm.size ≤ 2048
  · have e : maySB p n sv rm R = ckB R n (fr p) := by unfold maySB; rw [decide_eq_true hs, Bool.true_and]
    rw [e]
    by_cases hn : 0 < n
    · obtain ⟨b, off, rfl, hb, hc⟩ := h.some hn
      exact check_some p b off n c sv rm R w hs.1 hs.2.1 hs.2.2.1 hs.2.2.2 hl hb (fun i hi => by have := hc i hi 0 (by omega); rw [Nat.mul_one, Nat.add_zero] at this; exact this)
    · obtain rfl : n = 0 := by omega
      exact check_zero p ao 0 c sv rm w hs.1 hs.2.1 hs.2.2.1 hs.2.2.2 rfl
  · have e : maySB p n sv rm R = false := by unfold maySB; rw [decide_eq_false hs, Bool.false_and]
    rw [e]
    exact check_no p ao n c sv rm w hp hs
end Go.Proofs.Ytkhjfcbloahjeaa
