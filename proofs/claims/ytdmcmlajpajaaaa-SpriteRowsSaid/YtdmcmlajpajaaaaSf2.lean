import Derived.Test.YtdmcmlajpajaaaaSf1
namespace Go.Proofs.Ytdmcmlajpajaaaa
open Go.RowKit Go.Sx
def ByC (V : Nat → Int) (S : Nat → Bool) (i j : Nat) : Value := if j = 0 then .int .u8 (V i) else .bool (S i)
def hi (t : Bool) : Int := if t then 16 else 8
/-- Is a sprite's Y on the line? -/
def onL (y line : Int) (t : Bool) : Bool := decide (0 ≤ line - y ∧ line - y < hi t)
/-- The same memory. -/
def Same (w w' : World) : Prop := w'.heap = w.heap ∧ w'.os = w.os ∧ w'.tape = w.tape ∧ w'.output = w.output
theorem here_any (b off : Nat) (y line : Int) (s0 sec t : Bool) (Bs Bl Bt : Nat) (w : World) (hy : 0 ≤ y) (hy' : y ≤ 255) (hl : 0 ≤ line) (hl' : line ≤ 255)
    (c0 : w.cell? ⟨b, off, none⟩ = some (.int .u8 y)) (c1 : w.cell? ⟨b, off + 1, none⟩ = some (.bool s0)) (hbs : b ≠ Bs) (hls : Bl ≠ Bs) (hts : Bt ≠ Bs)
    (cs : w.cell? ⟨Bs, 0, none⟩ = some (.bool sec)) (fs : w.frozen? ⟨Bs, 0, none⟩ = false) (cl : w.cell? ⟨Bl, 0, none⟩ = some (.int .i64 line)) (ct : w.cell? ⟨Bt, 0, none⟩ = some (.bool t)) :
    Calls Try.prog 24 #[.slice (some ⟨b, off, none⟩) 4 4, .pointer (some ⟨Bs, 0, none⟩), .pointer (some ⟨Bl, 0, none⟩), .pointer (some ⟨Bt, 0, none⟩)] w
      fun e w' => e = .returned (.bool (onL y line t)) ∧ Same (w.setCell ⟨Bs, 0, none⟩ (.bool (sec || s0))) w' := by
  have k : ∀ v : Value, (w.setCell ⟨Bs, 0, none⟩ v).cell? ⟨b, off, none⟩ = some (.int .u8 y) ∧ (w.setCell ⟨Bs, 0, none⟩ v).cell? ⟨Bl, 0, none⟩ = some (.int .i64 line) ∧ (w.setCell ⟨Bs, 0, none⟩ v).cell? ⟨Bt, 0, none⟩ = some (.bool t) := fun v =>
    ⟨(World.cell?_setCell_other _ _ _ _ (by intro e; cases e; exact hbs rfl)).trans c0, (World.cell?_setCell_other _ _ _ _ (by intro e; cases e; exact hls rfl)).trans cl, (World.cell?_setCell_other _ _ _ _ (by intro e; cases e; exact hts rfl)).trans ct⟩
  obtain ⟨k1, k2, k3⟩ := k (.bool (sec || s0))
  clear k
  cases sec
  all_goals
    simp only [Bool.false_or, Bool.true_or] at k1 k2 k3 ⊢
    go_enter Try.func24, Try.ntmps24
    go_wp2
    go_quiet (fail)
    go_wp2_with (go_at_call 25; refine (high_any _ _).mono ?_; rintro e w' ⟨rfl, rfl⟩)
    all_goals
      go_ret
      refine ⟨ret_bool ?_, rfl, rfl, rfl, rfl⟩
      unfold onL hi
      first
        | (symm; rw [decide_eq_false_iff_not]; omega)
        | (rw [decide_eq_decide]; simp; omega)
end Go.Proofs.Ytdmcmlajpajaaaa
