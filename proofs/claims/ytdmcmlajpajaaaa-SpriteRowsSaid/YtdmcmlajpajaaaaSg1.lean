import Derived.Test.YtdmcmlajpajaaaaSf4
namespace Go.Proofs.Ytdmcmlajpajaaaa
open Go.RowKit Go.Sx
theorem any_some (b off : Nat) (n cap : Nat) (V : Nat → Int) (S : Nat → Bool) (w : World) (hb : b < w.heap.size) (hl : n ≤ 1000000) (h : ∀ i, i < n → ∀ j, j < 2 → w.cell? ⟨b, off + i * 2 + j, none⟩ = some (ByC V S i j)) :
    Calls Try.prog 28 #[.slice (some ⟨b, off, none⟩) n cap] w fun e w' => e = .returned (.bool ((List.range n).any S)) ∧ Below w.heap.size w w' := by
  go_enter Try.func28, Try.ntmps28
  go_wp2
  go_loopw [7] (fun i wr => ∃ k : Nat, k ≤ n ∧ i = .int .i64 k ∧ (List.range k).any S = false ∧ Below w.heap.size w wr) (fun i _ => n - (intOf i).toNat)
  case atStart => exact ⟨0, Nat.zero_le _, rfl, rfl, Below.refl _ _⟩
  case round =>
    obtain ⟨k, hk, rfl, ht0, hbl⟩ := hrel
    have ht := hidI ht0; clear ht0
    have hcv : k < n → wr.cell? ⟨b, off + k * 2, none⟩ = some (.int .u8 (V k)) := fun hlt => (hbl.cell (p := ⟨b, off + k * 2, none⟩) (by exact hb)).trans (h k hlt 0 (by omega))
    have hcs : k < n → wr.cell? ⟨b, off + k * 2 + 1, none⟩ = some (.bool (S k)) := fun hlt => (hbl.cell (p := ⟨b, off + k * 2 + 1, none⟩) (by exact hb)).trans (h k hlt 1 (by omega))
    go_wp2
    · go_ret
      have hlt : k < n := by assumption
      have hs : S k = true := by assumption
      exact ⟨ret_bool ((any_succ hlt ht.out).1 hs).symm, hbl.alloc hbl.size _⟩
    · go_roundw
      have hlt : k < n := by assumption
      have hs : S k = false := by assumption
      case rel => exact ⟨k + 1, by omega, by go_num, (any_succ hlt ht.out).2 hs, hbl.alloc hbl.size _⟩
      case measure => simp [intOf]; omega
    · go_ret
      have : k = n := by omega
      subst this
      exact ⟨ret_bool ht.out.symm, hbl⟩
def rowS (y lk line : Int) (tall : Bool) : Int := if 128 ≤ lk then hi tall - 1 - (line - y + 256) % hi tall else (line - y + 256) % hi tall
/-- Where a sprite's row is. -/
def adr (y ti lk line : Int) (tall table : Bool) : Int :=
  if tall then ti % 2 * 4096 + 16 * (ti - ti % 2) + (if 8 ≤ rowS y lk line tall then rowS y lk line tall + 8 else rowS y lk line tall)
  else (if table then 4096 else 0) + 16 * ti + rowS y lk line tall
def tallX (ti r : Int) : Int := bits BinOp.or IntKind.u16 (bits BinOp.andNot IntKind.u16 (ti * 16) 16) (IntKind.u16.wrap (IntKind.u16.wrap (bits BinOp.and IntKind.i64 r 8) * 2))
theorem tall_bits (ti r : Int) (h0 : 0 ≤ ti) (h1 : ti ≤ 255) (r0 : 0 ≤ r) (r1 : r < 16) :
    (0 < bits BinOp.and IntKind.u16 (ti * 16) 16 → bits BinOp.or IntKind.u16 (bits BinOp.or IntKind.u16 (tallX ti r) 4096) (IntKind.u16.wrap (bits BinOp.and IntKind.i64 r 7)) = ti % 2 * 4096 + 16 * (ti - ti % 2) + (if 8 ≤ r then r + 8 else r)) ∧
    (bits BinOp.and IntKind.u16 (ti * 16) 16 ≤ 0 → bits BinOp.or IntKind.u16 (tallX ti r) (IntKind.u16.wrap (bits BinOp.and IntKind.i64 r 7)) = ti % 2 * 4096 + 16 * (ti - ti % 2) + (if 8 ≤ r then r + 8 else r)) := by
  have key : ∀ a : Fin 256, ∀ c : Fin 16, (0 < bits BinOp.and IntKind.u16 (((a.val : Nat) : Int) * 16) 16 → bits BinOp.or IntKind.u16 (bits BinOp.or IntKind.u16 (tallX (a.val : Nat) (c.val : Nat)) 4096) (IntKind.u16.wrap (bits BinOp.and IntKind.i64 ((c.val : Nat) : Int) 7)) = ((a.val : Nat) : Int) % 2 * 4096 + 16 * (((a.val : Nat) : Int) - ((a.val : Nat) : Int) % 2) + (if 8 ≤ ((c.val : Nat) : Int) then ((c.val : Nat) : Int) + 8 else ((c.val : Nat) : Int))) ∧
    (bits BinOp.and IntKind.u16 (((a.val : Nat) : Int) * 16) 16 ≤ 0 → bits BinOp.or IntKind.u16 (tallX (a.val : Nat) (c.val : Nat)) (IntKind.u16.wrap (bits BinOp.and IntKind.i64 ((c.val : Nat) : Int) 7)) = ((a.val : Nat) : Int) % 2 * 4096 + 16 * (((a.val : Nat) : Int) - ((a.val : Nat) : Int) % 2) + (if 8 ≤ ((c.val : Nat) : Int) then ((c.val : Nat) : Int) + 8 else ((c.val : Nat) : Int))) := by decide +kernel
  have := key ⟨ti.toNat, by omega⟩ ⟨r.toNat, by omega⟩
  simp only [Int.toNat_of_nonneg h0, Int.toNat_of_nonneg r0] at this
  exact this
theorem low_bits (ti r : Int) (h0 : 0 ≤ ti) (h1 : ti ≤ 255) (r0 : 0 ≤ r) (r1 : r < 8) :
    bits BinOp.or IntKind.u16 (bits BinOp.or IntKind.u16 (ti * 16) 4096) (IntKind.u16.wrap (bits BinOp.and IntKind.i64 r 7)) = 4096 + 16 * ti + r ∧ bits BinOp.or IntKind.u16 (ti * 16) (IntKind.u16.wrap (bits BinOp.and IntKind.i64 r 7)) = 0 + 16 * ti + r := by
  have key : ∀ a : Fin 256, ∀ c : Fin 8, bits BinOp.or IntKind.u16 (bits BinOp.or IntKind.u16 (((a.val : Nat) : Int) * 16) 4096) (IntKind.u16.wrap (bits BinOp.and IntKind.i64 ((c.val : Nat) : Int) 7)) = 4096 + 16 * ((a.val : Nat) : Int) + ((c.val : Nat) : Int) ∧
    bits BinOp.or IntKind.u16 (((a.val : Nat) : Int) * 16) (IntKind.u16.wrap (bits BinOp.and IntKind.i64 ((c.val : Nat) : Int) 7)) = 0 + 16 * ((a.val : Nat) : Int) + ((c.val : Nat) : Int) := by decide +kernel
  have := key ⟨ti.toNat, by omega⟩ ⟨r.toNat, by omega⟩
  simp only [Int.toNat_of_nonneg h0, Int.toNat_of_nonneg r0] at this
  exact this
theorem like_bits (lk : Int) (h0 : 0 ≤ lk) (h1 : lk ≤ 255) : (0 < bits BinOp.and IntKind.u8 lk 128 ↔ 128 ≤ lk) := by
  have key : ∀ a : Fin 256, (0 < bits BinOp.and IntKind.u8 ((a.val : Nat) : Int) 128 ↔ 128 ≤ ((a.val : Nat) : Int)) := by decide +kernel
  have := key ⟨lk.toNat, by omega⟩
  simp only [Int.toNat_of_nonneg h0] at this
  exact this
theorem adr_tall {y ti lk line r : Int} {table : Bool} (h0 : 0 ≤ ti) (h1 : ti ≤ 255) (hr : r = rowS y lk line true) :
    (0 < bits BinOp.and IntKind.u16 (ti * 16) 16 → bits BinOp.or IntKind.u16 (bits BinOp.or IntKind.u16 (tallX ti r) 4096) (IntKind.u16.wrap (bits BinOp.and IntKind.i64 r 7)) = adr y ti lk line true table) ∧
    (bits BinOp.and IntKind.u16 (ti * 16) 16 ≤ 0 → bits BinOp.or IntKind.u16 (tallX ti r) (IntKind.u16.wrap (bits BinOp.and IntKind.i64 r 7)) = adr y ti lk line true table) := by
  have hb : 0 ≤ r ∧ r < 16 := by rw [hr]; unfold rowS hi; simp only [if_true]; split <;> omega
  have := tall_bits ti r h0 h1 hb.1 hb.2
  unfold adr
  rw [if_pos rfl, ← hr]
  exact this
theorem adr_low {y ti lk line r : Int} (h0 : 0 ≤ ti) (h1 : ti ≤ 255) (hr : r = rowS y lk line false) :
    bits BinOp.or IntKind.u16 (bits BinOp.or IntKind.u16 (ti * 16) 4096) (IntKind.u16.wrap (bits BinOp.and IntKind.i64 r 7)) = adr y ti lk line false true ∧ bits BinOp.or IntKind.u16 (ti * 16) (IntKind.u16.wrap (bits BinOp.and IntKind.i64 r 7)) = adr y ti lk line false false := by
  have hb : 0 ≤ r ∧ r < 8 := by rw [hr]; unfold rowS hi; simp only [Bool.false_eq_true, if_false]; split <;> omega
  have := low_bits ti r h0 h1 hb.1 hb.2
  unfold adr
  simp only [Bool.false_eq_true, if_false, if_true]
  rw [← hr]
  exact this
theorem ret_adr {a b : Int} {c d : Bool} (h : a = b) (h' : c = d) : Ending.returned (.tuple #[.int .u16 a, .bool c, .int .i64 0]) = Ending.returned (.tuple #[.int .u16 b, .bool d, .int .i64 0]) := by rw [h, h']
set_option maxHeartbeats 800000 in
theorem adr_walk (b off cap : Nat) (i : Nat) (y ti lk line : Int) (s0 s1 s2 : Bool) (tall table : Bool) (w : World) (hb : b < w.heap.size) (hi64 : i < 64) (hcap : 256 ≤ cap) (hl0 : 0 ≤ line) (hl1 : line ≤ 255)
    (hy0 : 0 ≤ y) (hy1 : y ≤ 255) (ht0 : 0 ≤ ti) (ht1 : ti ≤ 255) (hk0 : 0 ≤ lk) (hk1 : lk ≤ 255)
    (c0 : w.cell? ⟨b, off + 4 * i * 2, none⟩ = some (.int .u8 y)) (c1 : w.cell? ⟨b, off + 4 * i * 2 + 1, none⟩ = some (.bool s0)) (c2 : w.cell? ⟨b, off + 4 * i * 2 + 2, none⟩ = some (.int .u8 ti)) (c3 : w.cell? ⟨b, off + 4 * i * 2 + 3, none⟩ = some (.bool s1))
    (c4 : w.cell? ⟨b, off + 4 * i * 2 + 4, none⟩ = some (.int .u8 lk)) (c5 : w.cell? ⟨b, off + 4 * i * 2 + 5, none⟩ = some (.bool s2)) :
    Calls Try.prog 13 #[.slice (some ⟨b, off, none⟩) 256 cap, .int .i64 i, .int .i64 line, .bool tall, .bool table] w fun e w' => e = .returned (.tuple #[.int .u16 (adr y ti lk line tall table), .bool (s0 || (s1 || s2)), .int .i64 0]) ∧ Below w.heap.size w w' := by
  have HM : Hid (mayB 256 i line = true) := by show mayB 256 i line = true; unfold mayB; rw [decide_eq_true_iff]; omega
  have hany := any_some b (off + 4 * i * 2) 3 4 (fun j => if j = 0 then y else if j = 1 then ti else lk) (fun j => if j = 0 then s0 else if j = 1 then s1 else s2) w hb (by omega) (fun j hj q hq => by
    match j, hj, q, hq with
    | 0, _, 0, _ => exact c0
    | 0, _, 1, _ => exact c1
    | 1, _, 0, _ => exact c2
    | 1, _, 1, _ => exact c3
    | 2, _, 0, _ => exact c4
    | 2, _, 1, _ => exact c5)
  have HANY := hidI hany; clear hany
  go_enter Try.func13, Try.ntmps13
  go_wp2_with (first
    | (go_at_call 23; refine (may_any _ _ _ _ _ _).mono ?_; rw [HM.out]; rintro e w' ⟨rfl, rfl⟩)
    | (go_at_call 26; refine (one_any b off cap i _ hi64 hcap).mono ?_; rintro e w' ⟨rfl, rfl⟩)
    | (go_at_call 25; refine (high_any _ _).mono ?_; rintro e w' ⟨rfl, rfl⟩)
    | (go_at_call 28; refine HANY.out.mono ?_; rintro e w' ⟨rfl, hbw⟩))
  all_goals
    have HL := like_bits lk hk0 hk1
    go_ret3
  · have hp : 0 < bits BinOp.and IntKind.u8 lk 128 := by assumption
    obtain rfl : tall = true := by assumption
    exact ⟨ret_adr ((adr_tall ht0 ht1 (by unfold rowS hi wrap64; rw [if_pos (HL.1 hp)]; simp only [if_true]; omega)).1 (by assumption)) rfl, hbw⟩
  · have hp : 0 < bits BinOp.and IntKind.u8 lk 128 := by assumption
    obtain rfl : tall = true := by assumption
    exact ⟨ret_adr ((adr_tall ht0 ht1 (by unfold rowS hi wrap64; rw [if_pos (HL.1 hp)]; simp only [if_true]; omega)).2 (by assumption)) rfl, hbw⟩
  · have hp : 0 < bits BinOp.and IntKind.u8 lk 128 := by assumption
    obtain rfl : tall = false := by assumption
    obtain rfl : table = true := by assumption
    exact ⟨ret_adr (adr_low ht0 ht1 (by unfold rowS hi wrap64; rw [if_pos (HL.1 hp)]; simp only [Bool.false_eq_true, if_false]; omega)).1 rfl, hbw⟩
  · have hp : 0 < bits BinOp.and IntKind.u8 lk 128 := by assumption
    obtain rfl : tall = false := by assumption
    obtain rfl : table = false := by assumption
    exact ⟨ret_adr (adr_low ht0 ht1 (by unfold rowS hi wrap64; rw [if_pos (HL.1 hp)]; simp only [Bool.false_eq_true, if_false]; omega)).2 rfl, hbw⟩
  · have hp : bits BinOp.and IntKind.u8 lk 128 ≤ 0 := by assumption
    obtain rfl : tall = true := by assumption
    exact ⟨ret_adr ((adr_tall ht0 ht1 (by unfold rowS hi; rw [if_neg (by omega)]; rfl)).1 (by assumption)) rfl, hbw⟩
  · have hp : bits BinOp.and IntKind.u8 lk 128 ≤ 0 := by assumption
    obtain rfl : tall = true := by assumption
    exact ⟨ret_adr ((adr_tall ht0 ht1 (by unfold rowS hi; rw [if_neg (by omega)]; rfl)).2 (by assumption)) rfl, hbw⟩
  · have hp : bits BinOp.and IntKind.u8 lk 128 ≤ 0 := by assumption
    obtain rfl : tall = false := by assumption
    obtain rfl : table = true := by assumption
    exact ⟨ret_adr (adr_low ht0 ht1 (by unfold rowS hi; rw [if_neg (by omega)]; rfl)).1 rfl, hbw⟩
  · have hp : bits BinOp.and IntKind.u8 lk 128 ≤ 0 := by assumption
    obtain rfl : tall = false := by assumption
    obtain rfl : table = false := by assumption
    exact ⟨ret_adr (adr_low ht0 ht1 (by unfold rowS hi; rw [if_neg (by omega)]; rfl)).2 rfl, hbw⟩
end Go.Proofs.Ytdmcmlajpajaaaa
