import Derived.Test.YtdajfjjocmndhaaProg
import Derived.Test.YtdajfjjocmndhaaSx25
import Derived.WalkKit
import Derived.Outline
import Derived.LoopTactic
import Derived.KernelRfl

namespace Go.Proofs.Ytdajfjjocmndhaa
open Go.RowKit Go.Sx
theorem ret_bool {a b : Bool} (h : a = b) : Ending.returned (.bool a) = Ending.returned (.bool b) := by rw [h]
theorem hidI {p : Prop} (h : p) : Hid p := h

def ByC (V : Nat → Int) (S : Nat → Bool) (i j : Nat) : Value := if j = 0 then .int .u8 (V i) else .bool (S i)

theorem any_zero (ao : Option Addr) (cap : Nat) (w : World) : Calls Try.prog 12 #[.slice ao 0 cap] w fun e w' => e = .returned (.bool false) ∧ Below w.heap.size w w' := by
  go_enter Try.func12, Try.ntmps12
  go_wp2
  refine wp_loop_rounds 1 ?_
  rw [rounds_succ]
  go_wp2
  go_ret
  exact ⟨rfl, Below.refl _ _⟩

theorem any_succ {n k : Nat} {S : Nat → Bool} (hk : k < n) (h : (List.range k).any S = false) : (S k = true → (List.range n).any S = true) ∧ (S k = false → (List.range (k + 1)).any S = false) := by
  refine ⟨fun hs => ?_, fun hs => ?_⟩
  · rw [List.any_eq_true]; exact ⟨k, by simpa using hk, hs⟩
  · rw [List.range_succ, List.any_append, h]; simp [hs]

set_option maxHeartbeats 400000 in
theorem any_some (b off : Nat) (n cap : Nat) (V : Nat → Int) (S : Nat → Bool) (w : World) (hb : b < w.heap.size) (hl : n ≤ 1000000) (h : ∀ i, i < n → ∀ j, j < 2 → w.cell? ⟨b, off + i * 2 + j, none⟩ = some (ByC V S i j)) :
    Calls Try.prog 12 #[.slice (some ⟨b, off, none⟩) n cap] w fun e w' => e = .returned (.bool ((List.range n).any S)) ∧ Below w.heap.size w w' := by
  go_enter Try.func12, Try.ntmps12
  go_wp2
  go_loopw [7] (fun i wr => ∃ k : Nat, k ≤ n ∧ i = .int .i64 k ∧ (List.range k).any S = false ∧ Below w.heap.size w wr) (fun i _ => n - (intOf i).toNat)
  case atStart => exact ⟨0, Nat.zero_le _, rfl, rfl, Below.refl _ _⟩
  case round =>
    obtain ⟨k, hk, rfl, ht0, hbl⟩ := hrel
    have ht := hidI ht0; clear ht0
    have hcv : k < n → wr.cell? ⟨b, off + k * 2, none⟩ = some (.int .u8 (V k)) := fun hlt => (hbl.cell (p := ⟨b, off + k * 2, none⟩) (by exact hb)).trans (h k hlt 0 (by omega))
    have hcs : k < n → wr.cell? ⟨b, off + k * 2 + 1, none⟩ = some (.bool (S k)) := fun hlt => (hbl.cell (p := ⟨b, off + k * 2 + 1, none⟩) (by exact hb)).trans (h k hlt 1 (by omega))
    go_wp2
    · go_ret
      have hlt : k < n := by assumption
      have hs : S k = true := by assumption
      exact ⟨ret_bool ((any_succ hlt ht.out).1 hs).symm, hbl.alloc hbl.size _⟩
    · go_roundw
      have hlt : k < n := by assumption
      have hs : S k = false := by assumption
      case rel => exact ⟨k + 1, by omega, by go_num, (any_succ hlt ht.out).2 hs, hbl.alloc hbl.size _⟩
      case measure => simp [intOf]; omega
    · go_ret
      have : k = n := by omega
      subst this
      exact ⟨ret_bool ht.out.symm, hbl⟩
theorem any_any (ao : Option Addr) (n cap : Nat) (V : Nat → Int) (S : Nat → Bool) (w : World) (hl : n ≤ 1000000) (h : RowAt w ao n 2 (ByC V S)) :
    Calls Try.prog 12 #[.slice ao n cap] w fun e w' => e = .returned (.bool ((List.range n).any S)) ∧ Below w.heap.size w w' := by
  by_cases hn : 0 < n
  · obtain ⟨b, off, rfl, hb, hc⟩ := h.some hn
    exact any_some b off n cap V S w hb hl hc
  · obtain rfl : n = 0 := by omega
    exact any_zero ao cap w

theorem mixed : Try.prog.follows .mixedOrders = true := by kernel_rfl
theorem awake_shown : (tree Try.prog 12 (fun _ => none) 300 14 [] bare 0 ⟨[], []⟩).prove 300 100 ⟨[], []⟩ = true := by kernel_rfl
theorem awake_any (w : World) : Calls Try.prog 14 #[] w fun e w' => e = .returned (.bool true) ∧ Below w.heap.size w w' :=
  (flat_true (ts := []) (ss := []) (ks := []) (r := .any) (base := 0) mixed rfl awake_shown (w := w) rfl (fun j t v h => by simp at h)).mono fun _ _ ⟨⟨_, he, hv⟩, hb⟩ => ⟨by rw [he, hv], hb⟩
theorem of_any (v : Int) (ao : Option Addr) (n cap : Nat) (V : Nat → Int) (S : Nat → Bool) (w : World) (hl : n ≤ 1000000) (h : RowAt w ao n 2 (ByC V S)) :
    Calls Try.prog 11 #[.int .u8 v, .slice ao n cap] w fun e w' => e = .returned (.agg #[.int .u8 v, .bool ((List.range n).any S)]) ∧ Below w.heap.size w w' := by
  go_enter Try.func11, Try.ntmps11
  go_wp2_with fail
  refine (any_any ao n cap V S _ hl (fun i hi => ?_)).mono ?_
  · obtain ⟨b, off, e, hb, hc⟩ := h i hi
    exact ⟨b, off, e, by simp; omega, fun j hj => (World.cell?_alloc_past _ _ _ (by show b < _; exact hb)).trans (hc j hj)⟩
  rintro e w1 ⟨rfl, hb1⟩
  have c : ∀ o, w1.cell? ⟨w.heap.size, o, none⟩ = (w.alloc (.cells #[.int .u8 0, .bool false] 25)).cell? ⟨w.heap.size, o, none⟩ := fun o => hb1.cell (by simp)
  have c0 : w1.cell? ⟨w.heap.size, 0, none⟩ = some (.int .u8 0) := (c 0).trans (by simp [go_sem])
  have c1 : w1.cell? ⟨w.heap.size, 1, none⟩ = some (.bool false) := (c 1).trans (by simp [go_sem])
  have f : ∀ o, w1.frozen? ⟨w.heap.size, o, none⟩ = (w.alloc (.cells #[.int .u8 0, .bool false] 25)).frozen? ⟨w.heap.size, o, none⟩ := fun o => hb1.frozen (by simp)
  have f0 : w1.frozen? ⟨w.heap.size, 0, none⟩ = false := (f 0).trans (by simp [go_sem])
  have f1 : w1.frozen? ⟨w.heap.size, 1, none⟩ = false := (f 1).trans (by simp [go_sem])
  clear c f
  go_wp2
  refine bodyPost_ret (v := .agg #[.int .u8 v, .bool ((List.range n).any S)]) (by simp [results, Try.results11, go_sem, c0, c1]) rfl ⟨rfl, ?_⟩
  exact (((Below.refl _ _).alloc (Nat.le_refl _) _).trans (hb1.mono (by simp)) |>.setCell (Nat.le_refl _) _).setCell (Nat.le_refl _) _
theorem few_any (ao : Option Addr) (n cap : Nat) (w : World) (hc : n ≤ cap) : Calls Try.prog 10 #[.slice ao n cap] w fun e w' => e = .returned (.slice ao (min n 40) cap) ∧ w = w' := by
  go_enter Try.func10, Try.ntmps10
  go_wp2
  · go_ret
    have h : (40 : Int) < n := by assumption
    exact ⟨by rw [Nat.min_eq_right (by omega)]; rfl, rfl⟩
  · go_ret
    have h : (n : Int) ≤ 40 := by assumption
    exact ⟨by rw [Nat.min_eq_left (by omega)]; rfl, rfl⟩
end Go.Proofs.Ytdajfjjocmndhaa
