import Derived.Test.YtolennlpkpkhhaaProg
import Derived.WalkKit
import Derived.Outline
import Derived.LoopTactic
import Derived.KernelRfl
import Derived.Deep.QuietTactic
import Derived.BigQuiet
import Derived.Test.YtolennlpkpkhhaaSx25
import Derived.RegionTactic
import Derived.BigRegion
import Derived.Deep.RegionHeld3
import Derived.Deep.RegionWith
import Derived.Deep.DeepCutAuto
namespace Go.Proofs.Ytolennlpkpkhhaa
open Go.RowKit Go.Sx
theorem mixed : Try.prog.follows .mixedOrders = true := by kernel_rfl
theorem awake_shown : (tree Try.prog 12 (fun _ => none) 300 12 [] bare 0 ⟨[], []⟩).prove 300 100 ⟨[], []⟩ = true := by kernel_rfl
theorem awake_any (w : World) : Calls Try.prog 12 #[] w fun e w' => e = .returned (.bool true) ∧ Below w.heap.size w w' :=
  (flat_true (ts := []) (ss := []) (ks := []) (r := .any) (base := 0) mixed rfl awake_shown (w := w) rfl (fun j t v h => by simp at h)).mono fun _ _ ⟨⟨_, he, hv⟩, hb⟩ => ⟨by rw [he, hv], hb⟩
end Go.Proofs.Ytolennlpkpkhhaa
