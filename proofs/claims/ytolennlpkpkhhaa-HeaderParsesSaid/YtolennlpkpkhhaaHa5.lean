import Derived.Test.YtolennlpkpkhhaaHa4
namespace Go.Proofs.Ytolennlpkpkhhaa
open Go.RowKit Go.Sx
theorem rr_le (k : Nat) (n : Int) (h0 : 0 ≤ n) (h : n ≤ 1000000) : 0 ≤ rr k n ∧ rr k n ≤ 1000000 := by
  induction k with
  | zero => exact ⟨h0, h⟩
  | succ k ih => simp only [rr]; omega
set_option maxHeartbeats 1600000 in
theorem ramount_any (l h u : Int) (l0 : 0 ≤ l) (l1 : l ≤ 255) (h0 : 0 ≤ h) (h1 : h ≤ 15) (hu : u = 16384 ∨ u = 8192) (w : World) : Calls Try.prog 24 #[.int .i64 l, .int .i64 h, .int .i64 u] w fun e w' => e = .returned (.int .i64 (amtR l h u)) ∧ w = w' := by
  obtain ⟨z, hz⟩ : ∃ z, z = amtR l h u := ⟨_, rfl⟩
  rw [← hz]
  unfold amtR at hz
  have HZ := hidI hz; clear hz
  by_cases hh : h = 15
  · subst hh
    have HL : Hid (∀ k, 0 ≤ rr k (l % 4 * 2 + 1) ∧ rr k (l % 4 * 2 + 1) ≤ 1000000) := fun k => rr_le k _ (by omega) (by omega)
    have HZ2 : Hid (z = rr (l / 4).toNat (l % 4 * 2 + 1)) := by show _ = _; rw [HZ.out, if_pos rfl]
    clear HZ
    go_enter Try.func24, Try.ntmps24
    go_wp2_with fail
    go_loop [7, 8] (fun n i => ∃ k : Nat, (k : Int) ≤ l / 4 ∧ i = .int .i64 k ∧ n = .int .i64 (rr k (l % 4 * 2 + 1))) (fun _ i => 64 - (intOf i).toNat)
    case atStart => exact ⟨0, by omega, rfl, rfl⟩
    case round =>
      obtain ⟨k, hk, rfl, rfl⟩ := hrel
      obtain ⟨q0, q1⟩ := HL.out k
      have HN : Hid (rr (k + 1) (l % 4 * 2 + 1) = min (2 * rr k (l % 4 * 2 + 1)) 1000000) := rfl
      obtain ⟨r, hr⟩ : ∃ r, r = rr k (l % 4 * 2 + 1) := ⟨_, rfl⟩
      rw [← hr] at q0 q1 HN ⊢
      have HR := hidI hr; clear hr
      by_cases hlt : (k : Int) < l / 4
      · go_wp2
        exact ⟨⟨k + 1, by omega, by simp, by rw [HN.out]; congr 1; omega⟩, by simp [intOf]; omega⟩
      · have hk2 : k = (l / 4).toNat := by omega
        go_wp2_with fail
        go_ret
        exact ⟨ret_int (by rw [HZ2.out, HR.out, hk2]), rfl⟩
  · have HZ2 : Hid (z = (256 * h + l) * u) := by show _ = _; rw [HZ.out, if_neg hh]
    have e : (h != 15) = true := by simpa using hh
    have e2 : wrap64 ((256 * h + l) * u) = (256 * h + l) * u := wrap_is _ (by rcases hu with rfl | rfl <;> omega) (by rcases hu with rfl | rfl <;> omega)
    clear hh HZ
    go_enter Try.func24, Try.ntmps24
    go_wp2_with fail
    go_ret
    exact ⟨ret_int (by rw [e2]; exact HZ2.out.symm), rfl⟩
theorem few5_any (p : ByteArray) (w : World) : Calls Try.prog 16 #[.string p] w fun e w' => (∃ p', e = .returned (.string p') ∧ p'.size ≤ 100) ∧ w = w' := by
  have e1 := ext_le p 100
  go_enter Try.func16, Try.ntmps16
  go_wp2
  all_goals
    go_ret
    exact ⟨⟨_, rfl, by omega⟩, rfl⟩
theorem info_parts5 {t : TypeId} {z : Option Value} {s b : Nat} (h : (Try.prog.info? t).map (fun i => (i.zero, i.size, i.bytes)) = some (z, s, b)) : ∃ i, Try.prog.info? t = some i ∧ i.zero = z ∧ i.size = s ∧ i.bytes = b := by
  cases hi : Try.prog.info? t with
  | none => rw [hi] at h; cases h
  | some i => rw [hi] at h; cases h; exact ⟨i, rfl, rfl, rfl, rfl⟩
theorem info5 : (Try.prog.info? 5).map (fun i => (i.zero, i.size, i.bytes)) = some (some (.int .u8 0), 1, 1) := by kernel_rfl
theorem made_get (n j : Nat) (v : Value) (h : (List.replicate n (Value.int .u8 0))[j]? = some v) : (madeCells (#[.int .u8 0] : Array Value) n)[j]? = some v := by
  have hj : j < n := by have := (List.getElem?_eq_some_iff.1 h).1; simpa using this
  rw [List.getElem?_replicate, if_pos hj] at h
  rw [← h]
  simp [madeCells, hj, Nat.mod_one]
theorem zeros_any (p : ByteArray) (m : Int) (m0 : 0 ≤ m) (m1 : m ≤ 4294967295) (hp : p.size ≤ 100) (w : World) : Calls Try.prog 17 #[.string p, .int .u32 m] w fun e w' => (∃ p', e = .returned (.string p') ∧ p'.size ≤ 1000100) ∧ Below w.heap.size w w' := by
  obtain ⟨i0, hi, hz0, hz1, hz2⟩ := info_parts5 info5
  have hms := run_makeSlice (P := Try.prog) w 34 5 i0 (.int .u8 0) Try.underlying34 hi hz0 .i64 .i64 (m % 1000000) (m % 1000000) (by omega) (Int.le_refl _) (by rw [hz1]; omega) (by rw [hz2]; omega) (by omega)
  rw [hz1, Nat.mul_one] at hms
  obtain ⟨N, hN⟩ : ∃ N, N = (m % 1000000).toNat := ⟨_, rfl⟩
  have hN6 : N < 1000000 := by omega
  rw [← hN] at hms
  obtain ⟨w1, hw1⟩ : ∃ w1, w1 = w.alloc (.cells (madeCells (Value.int .u8 0).cells N) 5) := ⟨_, rfl⟩
  have b1 : Below w.heap.size w w1 := by rw [hw1]; exact (Below.refl _ _).alloc (Nat.le_refl _) _
  rw [← hw1] at hms
  have hl : (loadCells ⟨w.heap.size, 0, none⟩ N).run Try.prog w1 = .ok ((List.replicate N (0 : Int)).map (Value.int .u8)).toArray w1 := by
    have := run_loadCells_list (P := Try.prog) w1 ⟨w.heap.size, 0, none⟩ ((List.replicate N (0 : Int)).map (Value.int .u8)) (fun j v hv => by
      rw [addr_add, hw1]
      have hb := blk_new w (.cells (madeCells (Value.int .u8 0).cells N) 5)
      refine (blk_cell hb _).trans ?_
      rw [Nat.zero_add]
      exact made_get N j v (by simpa using hv))
    simpa using this
  have hcv : (convert 34 9 (.slice (some ⟨w.heap.size, 0, none⟩) N N)).run Try.prog w1 = .ok (.string ((List.replicate N (0 : Int)).foldl (fun r n => r.push (UInt8.ofNat n.toNat)) ByteArray.empty)) w1 := by
    rw [run_convert_bytes_string w1 34 9 5 _ _ _ Try.underlying34 Try.underlying5 Try.underlying9, run_bytesToString w1 _ _ _ _ hl]
  have hS : ((List.replicate N (0 : Int)).foldl (fun r n => r.push (UInt8.ofNat n.toNat)) ByteArray.empty).size = N := by
    rw [foldl_push]
    simp [ByteArray.size]
  obtain ⟨S, hS2⟩ : ∃ S, S = (List.replicate N (0 : Int)).foldl (fun r n => r.push (UInt8.ofNat n.toNat)) ByteArray.empty := ⟨_, rfl⟩
  rw [← hS2] at hcv hS
  clear hS2 hl hw1 hi hz0 hz1 hz2 hN
  go_enter Try.func17, Try.ntmps17
  go_wp2

  go_ret
  exact ⟨⟨_, rfl, by rw [ByteArray.size_append]; omega⟩, b1⟩
end Go.Proofs.Ytolennlpkpkhhaa
