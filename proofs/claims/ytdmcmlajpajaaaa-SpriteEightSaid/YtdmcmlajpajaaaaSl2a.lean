import Derived.Test.YtdmcmlajpajaaaaSg3
namespace Go.Proofs.Ytdmcmlajpajaaaa
open Go.RowKit Go.Sx
theorem fnd_prefix (V : Nat → Int) (line : Int) (t : Bool) : ∀ {i j : Nat}, i ≤ j → fnd V line t i <+: fnd V line t j := by
  intro i j h
  induction j with
  | zero => obtain rfl : i = 0 := by omega
            exact List.prefix_refl _
  | succ j ih =>
    by_cases e : i = j + 1
    · subst e; exact List.prefix_refl _
    · rw [fnd_succ]; exact (ih (by omega)).trans (List.prefix_append _ _)
theorem fnd_at {V : Nat → Int} {line : Int} {t : Bool} {i : Nat} (h : i < 64) (ho : onL (V (4 * i)) line t = true) : (fnd V line t i).length < (fnd V line t 64).length ∧ (fnd V line t 64).getD (fnd V line t i).length 0 = i := by
  have hp := fnd_prefix V line t (show i + 1 ≤ 64 by omega)
  rw [fnd_succ, ho, if_pos rfl] at hp
  obtain ⟨r, hr⟩ := hp
  rw [← hr]
  simp [List.getD_eq_getElem?_getD]
end Go.Proofs.Ytdmcmlajpajaaaa
