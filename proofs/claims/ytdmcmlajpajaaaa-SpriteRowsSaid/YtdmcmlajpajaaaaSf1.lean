import Derived.Test.YtdmcmlajpajaaaaSd4
namespace Go.Proofs.Ytdmcmlajpajaaaa
open Go.RowKit Go.Sx
theorem ret_slice {a : Option Addr} {n c m d : Nat} (h : n = m) (h' : c = d) : Ending.returned (.slice a n c) = Ending.returned (.slice a m d) := by rw [h, h']
def mayB (n : Nat) (i line : Int) : Bool := decide (n = 256 ∧ 0 ≤ i ∧ i ≤ 63 ∧ 0 ≤ line ∧ line ≤ 255)
theorem may_any (ao : Option Addr) (n cap : Nat) (i line : Int) (w : World) : Calls Try.prog 23 #[.slice ao n cap, .int .i64 i, .int .i64 line] w fun e w' => e = .returned (.bool (mayB n i line)) ∧ w = w' := by
  go_enter Try.func23, Try.ntmps23
  go_wp2
  all_goals
    go_ret
    refine ⟨ret_bool ?_, rfl⟩
    unfold mayB
    first
      | (symm; rw [decide_eq_false_iff_not]; omega)
      | (rw [decide_eq_decide]; omega)
theorem May_any (ao : Option Addr) (n cap : Nat) (i line : Int) (w : World) : Calls Try.prog 12 #[.slice ao n cap, .int .i64 i, .int .i64 line] w fun e w' => e = .returned (.bool (mayB n i line)) ∧ w = w' := by
  go_enter Try.func12, Try.ntmps12
  go_wp2
  all_goals
    go_ret
    refine ⟨ret_bool ?_, rfl⟩
    unfold mayB
    first
      | (symm; rw [decide_eq_false_iff_not]; omega)
      | (rw [decide_eq_decide]; omega)
theorem high_any (t : Bool) (w : World) : Calls Try.prog 25 #[.bool t] w fun e w' => e = .returned (.int .i64 (if t then 16 else 8)) ∧ w = w' := by
  cases t
  all_goals
    go_enter Try.func25, Try.ntmps25
    go_wp2
    go_ret
    exact ⟨rfl, rfl⟩
theorem lines_any (t : Bool) (w : World) : Calls Try.prog 30 #[.bool t] w fun e w' => e = .returned (.int .i64 (if t then 16 else 8)) ∧ w = w' := by
  cases t
  all_goals
    go_enter Try.func30, Try.ntmps30
    go_wp2
    go_ret
    exact ⟨rfl, rfl⟩
theorem one_any (b off cap : Nat) (i : Nat) (w : World) (hi : i < 64) (hc : 256 ≤ cap) : Calls Try.prog 26 #[.slice (some ⟨b, off, none⟩) 256 cap, .int .i64 i] w fun e w' => e = .returned (.slice (some ⟨b, off + 4 * i * 2, none⟩) 4 4) ∧ w = w' := by
  go_enter Try.func26, Try.ntmps26
  go_wp2
  go_ret
  exact ⟨ret_slice (by omega) (by omega), rfl⟩
theorem few_any (ao : Option Addr) (n cap : Nat) (w : World) (hc : n ≤ cap) : Calls Try.prog 9 #[.slice ao n cap] w fun e w' => (∃ cap', e = .returned (.slice ao (min n 257) cap') ∧ min n 257 ≤ cap') ∧ w = w' := by
  go_enter Try.func9, Try.ntmps9
  go_wp2
  · go_ret
    have h : (257 : Int) < n := by assumption
    exact ⟨⟨cap, by rw [Nat.min_eq_right (by omega)]; rfl, by omega⟩, rfl⟩
  · go_ret
    have h : (n : Int) ≤ 257 := by assumption
    exact ⟨⟨cap, by rw [Nat.min_eq_left (by omega)]; rfl, by omega⟩, rfl⟩
end Go.Proofs.Ytdmcmlajpajaaaa
