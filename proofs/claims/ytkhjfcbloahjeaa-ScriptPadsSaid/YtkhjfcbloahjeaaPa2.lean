import Derived.Test.YtkhjfcbloahjeaaPa1
namespace Go.Proofs.Ytkhjfcbloahjeaa
open Go.RowKit Go.Sx
/-- Octet k of a text. -/
def bt (p : ByteArray) (k : Nat) : Int := ((p.data.getD k 0).toNat : Int)
theorem bt_eq (p : ByteArray) (k : Nat) (h : k < p.size) : ((p[k]'h).toNat : Int) = bt p k := by
  have hk : k < p.data.size := h
  have e : p[k]'h = p.data[k]'hk := rfl
  rw [e, bt, Array.getD_eq_getD_getElem?, Array.getElem?_eq_getElem hk, Option.getD_some]
def inR (R : Nat → Int) (n : Nat) (x : Int) : Bool := (List.range n).any fun i => decide (R i = x)
theorem any_succ {n k : Nat} {S : Nat → Bool} (hk : k < n) (h : (List.range k).any S = false) : (S k = true → (List.range n).any S = true) ∧ (S k = false → (List.range (k + 1)).any S = false) := by
  refine ⟨fun hs => ?_, fun hs => ?_⟩
  · rw [List.any_eq_true]; exact ⟨k, by simpa using hk, hs⟩
  · rw [List.range_succ, List.any_append, h]; simp [hs]
theorem index_zero (ao : Option Addr) (c : Nat) (x : Int) (w : World) : Calls Try.prog 44 #[.slice ao 0 c, .int .i64 x] w fun e w' => (∃ z : Int, e = .returned (.int .i64 z) ∧ decide (0 ≤ z) = inR (fun _ => 0) 0 x) ∧ w = w' := by
  go_enter Try.func44, Try.ntmps44
  go_wp2
  refine wp_loop_rounds 1 ?_
  rw [rounds_succ]
  go_wp2
  go_ret
  exact ⟨⟨_, rfl, rfl⟩, rfl⟩
theorem index_some (b off n c : Nat) (R : Nat → Int) (x : Int) (w : World) (hl : n ≤ 1000000) (h : ∀ i, i < n → w.cell? ⟨b, off + i, none⟩ = some (.int .i64 (R i))) : Calls Try.prog 44 #[.slice (some ⟨b, off, none⟩) n c, .int .i64 x] w fun e w' => (∃ z : Int, e = .returned (.int .i64 z) ∧ decide (0 ≤ z) = inR R n x) ∧ w = w' := by
  have H := hidI h; clear h
  go_enter Try.func44, Try.ntmps44
  go_wp2
  go_loop [8] (fun i => ∃ k : Nat, k ≤ n ∧ i = .int .i64 k ∧ inR R k x = false) (fun i => n - (intOf i).toNat)
  case atStart => exact ⟨0, Nat.zero_le _, rfl, rfl⟩
  case round =>
    obtain ⟨k, hk, rfl, ht0⟩ := hrel
    have ht := hidI ht0; clear ht0
    by_cases hlt : k < n
    · have hc := H.out k hlt
      go_wp2
      · go_ret
        have hs : (x == R k) = true := by assumption
        exact ⟨⟨_, rfl, by rw [inR, (any_succ hlt ht.out).1 (by simp at hs; simp [hs])]; simp⟩, rfl⟩
      · go_round
        have hs : (x == R k) = false := by assumption
        case rel => exact ⟨k + 1, by omega, by go_num, (any_succ hlt ht.out).2 (by simp at hs; simp; exact fun e => hs e.symm)⟩
        case measure => simp [intOf]; omega
    · obtain rfl : k = n := by omega
      go_wp2
      go_ret
      exact ⟨⟨_, rfl, by rw [ht.out]; rfl⟩, rfl⟩
/-- Numbers in memory. -/
abbrev IntsAt (w : World) (ao : Option Addr) (n : Nat) (R : Nat → Int) : Prop := RowAt w ao n 1 (fun i _ => .int .i64 (R i))
theorem index_any (ao : Option Addr) (n c : Nat) (R : Nat → Int) (x : Int) (w : World) (hl : n ≤ 1000000) (h : IntsAt w ao n R) : Calls Try.prog 44 #[.slice ao n c, .int .i64 x] w fun e w' => (∃ z : Int, e = .returned (.int .i64 z) ∧ decide (0 ≤ z) = inR R n x) ∧ w = w' := by
  by_cases hn : 0 < n
  · obtain ⟨b, off, rfl, _, hc⟩ := h.some hn
    exact index_some b off n c R x w hl (fun i hi => by have := hc i hi 0 (by omega); rw [Nat.mul_one, Nat.add_zero] at this; exact this)
  · obtain rfl : n = 0 := by omega
    exact index_zero ao c x w
theorem contains_any (ao : Option Addr) (n c : Nat) (R : Nat → Int) (x : Int) (w : World) (hl : n ≤ 1000000) (h : IntsAt w ao n R) : Calls Try.prog 35 #[.slice ao n c, .int .i64 x] w fun e w' => e = .returned (.bool (inR R n x)) ∧ w = w' := by
  go_enter Try.func35, Try.ntmps35
  go_wp2_with (go_at_call 44; refine (index_any _ _ _ R _ _ hl h).mono ?_; rintro e w' ⟨⟨z, rfl, hz⟩, rfl⟩)
  go_ret
  exact ⟨rfl, rfl⟩
theorem reset_any (p : ByteArray) (ao : Option Addr) (n c : Nat) (sv rm : ByteArray) (R : Nat → Int) (x : Int) (w : World) (hl : n ≤ 1000000) (h : IntsAt w ao n R) : Calls Try.prog 20 #[scV p ao n c sv rm, .int .i64 x] w fun e w' => e = .returned (.bool (inR R n x)) ∧ Below w.heap.size w w' := by
  have hb : Below w.heap.size w (w.alloc (.cells #[.string p, .slice ao n c, .string sv, .string rm] 28)) := (Below.refl _ _).alloc (Nat.le_refl _) _
  go_enter Try.func20, Try.ntmps20
  go_wp2_with (go_at_call 35; refine (contains_any _ _ _ R _ _ hl (h.below hb)).mono ?_; rintro e w' ⟨rfl, rfl⟩)
  go_ret
  exact ⟨rfl, hb⟩
theorem pad_no (p : ByteArray) (ao : Option Addr) (n c : Nat) (sv rm : ByteArray) (f o : Int) (w : World) (hp : p.size ≤ 1000000) (h : o < 0 ∨ 2 ≤ o ∨ f < 0 ∨ (fr p : Int) ≤ f) : Calls Try.prog 19 #[scV p ao n c sv rm, .int .i64 f, .int .i64 o] w fun e w' => e = .returned (.int .u8 0) ∧ Below w.heap.size w w' := by
  go_enter Try.func19, Try.ntmps19
  go_wp2_with (go_at_call 18; refine (frames_any _ _ _ _ _ _ _ hp).mono ?_; rintro e w' ⟨rfl, hb⟩)
  all_goals first
    | (exfalso; omega)
    | (go_ret; exact ⟨rfl, (Below.refl _ _).alloc (Nat.le_refl _) _⟩)
    | (go_ret; exact ⟨rfl, ((Below.refl _ _).alloc (Nat.le_refl _) _).trans (hb.mono (by simp))⟩)
theorem pad_yes (p : ByteArray) (ao : Option Addr) (n c : Nat) (sv rm : ByteArray) (f o : Nat) (w : World) (hp : p.size ≤ 1000000) (hf : f < fr p) (ho : o < 2) : Calls Try.prog 19 #[scV p ao n c sv rm, .int .i64 f, .int .i64 o] w fun e w' => e = .returned (.int .u8 (bt p (2 * f + o))) ∧ Below w.heap.size w w' := by
  have hs : 2 * f + o < p.size := by unfold fr at hf; omega
  go_enter Try.func19, Try.ntmps19
  go_wp2_with (go_at_call 18; refine (frames_any _ _ _ _ _ _ _ hp).mono ?_; rintro e w' ⟨rfl, hb⟩; have c0 : w'.cell? ⟨w.heap.size, 0, none⟩ = some (.string p) := blk_cell ((hb.block _ (by simp)).trans (blk_new w _)) 0)
  go_ret
  exact ⟨ret_int (bt_eq p _ hs), ((Below.refl _ _).alloc (Nat.le_refl _) _).trans (hb.mono (by simp))⟩
end Go.Proofs.Ytkhjfcbloahjeaa
