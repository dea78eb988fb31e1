/-
  No cell of these rows narrows 'for every input' (looked for: loops, veiled, ifaces, maps, wideKeys, modest, calm, conditions, laid).
  DERIVED. THE GIVEN ROWS OF THIS SEAT. 7 by the template 'for every input the law returns true; each argument reads behind the call as it read before'; 0 by the template 'total and deterministic' (their statements: YtdajfjjocmndhaaTotals.lean).
  GIVEN WITH THE SEED: the statements are not yours to turn. If you find one false, say at which input.
  Laid BY PROGRAM, IN A SANDBOX (cutbox-rows.mjs): the forced cells as the released guide's own fill.sh prints them over the translation 8242a8e7ed8ee14d… (all of the seat's roots in one cut). By AI agents, Wed Nov 11 2026. No macro, syntax, notation, axiom, sorry.
-/
import Derived.Test.YtdajfjjocmndhaaChecked
import GoSem.Claim
import GoSem.ClaimJoined
import GoSem.ClaimMapViews
import Derived.JoinedTies
import Derived.KernelRfl
namespace Go.Proofs.Ytdajfjjocmndhaa
/- THE CELL 'sum', in the pinned program and in every row, IS THE sha256 OF THE DUMP (.gsa) THAT YtdajfjjocmndhaaProg.lean LOADS. Nothing in Lean hashes anything: it is a label: what it is worth is what the hold of that sum in a sandbox is worth. -/
noncomputable def Try.pinned : Pinned := { name := "ytdajfjjocmndhaa", sum := "8242a8e7ed8ee14dafe1c1807995170eedd28e1116c3503c68c4455f47e280ef", checked := Try.checked }
namespace Rows
def none {H : Type} : Left H := { results := [], args := [] }

/-- 'seepagelaw01.LabelJoins': WHATEVER THE INPUT: true; the input reads as it did. -/
def labelJoinsSpec : ChangeSpec := { name := "labelJoins", fn := fun _ => fun
  | [d1, d2, d3] => { results := [.lit (.bool true)], args := [d1, d2, d3] }
  | _ => none }
def labelJoinsRow : OpenClaim := { program := "ytdajfjjocmndhaa", sum := "8242a8e7ed8ee14dafe1c1807995170eedd28e1116c3503c68c4455f47e280ef", func := "seepage/seepagelaw01.LabelJoins", spec := "labelJoins", apart := false }
def LabelJoinsSaid : Prop := labelJoinsRow.holds Try.pinned (OpenSpec.ofChange labelJoinsSpec)

/-- ITS FALSE NEIGHBOUR: 'it returns false'. Refute it at one input. -/
def labelJoinsWrong : ChangeSpec := { name := "labelJoins", fn := fun _ => fun
  | [d1, d2, d3] => { results := [.lit (.bool false)], args := [d1, d2, d3] }
  | _ => none }
def LabelJoinsWrongFalsely : Prop := labelJoinsRow.holds Try.pinned (OpenSpec.ofChange labelJoinsWrong)

/-- 'seepagelaw01.LabelMakes': WHATEVER THE INPUT: true; the input reads as it did. -/
def labelMakesSpec : ChangeSpec := { name := "labelMakes", fn := fun _ => fun
  | [d1, d2, d3] => { results := [.lit (.bool true)], args := [d1, d2, d3] }
  | _ => none }
def labelMakesRow : OpenClaim := { program := "ytdajfjjocmndhaa", sum := "8242a8e7ed8ee14dafe1c1807995170eedd28e1116c3503c68c4455f47e280ef", func := "seepage/seepagelaw01.LabelMakes", spec := "labelMakes", apart := false }
def LabelMakesSaid : Prop := labelMakesRow.holds Try.pinned (OpenSpec.ofChange labelMakesSpec)

/-- ITS FALSE NEIGHBOUR: 'it returns false'. Refute it at one input. -/
def labelMakesWrong : ChangeSpec := { name := "labelMakes", fn := fun _ => fun
  | [d1, d2, d3] => { results := [.lit (.bool false)], args := [d1, d2, d3] }
  | _ => none }
def LabelMakesWrongFalsely : Prop := labelMakesRow.holds Try.pinned (OpenSpec.ofChange labelMakesWrong)

/-- 'seepagelaw01.LabelWords': WHATEVER THE INPUT: true; the input reads as it did. -/
def labelWordsSpec : ChangeSpec := { name := "labelWords", fn := fun _ => fun
  | [d] => { results := [.lit (.bool true)], args := [d] }
  | _ => none }
def labelWordsRow : OpenClaim := { program := "ytdajfjjocmndhaa", sum := "8242a8e7ed8ee14dafe1c1807995170eedd28e1116c3503c68c4455f47e280ef", func := "seepage/seepagelaw01.LabelWords", spec := "labelWords", apart := false }
def LabelWordsSaid : Prop := labelWordsRow.holds Try.pinned (OpenSpec.ofChange labelWordsSpec)

/-- ITS FALSE NEIGHBOUR: 'it returns false'. Refute it at one input. -/
def labelWordsWrong : ChangeSpec := { name := "labelWords", fn := fun _ => fun
  | [d] => { results := [.lit (.bool false)], args := [d] }
  | _ => none }
def LabelWordsWrongFalsely : Prop := labelWordsRow.holds Try.pinned (OpenSpec.ofChange labelWordsWrong)

/-- 'seepagelaw01.LabelBack': WHATEVER THE INPUT: true; the input reads as it did. -/
def labelBackSpec : ChangeSpec := { name := "labelBack", fn := fun _ => fun
  | [d] => { results := [.lit (.bool true)], args := [d] }
  | _ => none }
def labelBackRow : OpenClaim := { program := "ytdajfjjocmndhaa", sum := "8242a8e7ed8ee14dafe1c1807995170eedd28e1116c3503c68c4455f47e280ef", func := "seepage/seepagelaw01.LabelBack", spec := "labelBack", apart := false }
def LabelBackSaid : Prop := labelBackRow.holds Try.pinned (OpenSpec.ofChange labelBackSpec)

/-- ITS FALSE NEIGHBOUR: 'it returns false'. Refute it at one input. -/
def labelBackWrong : ChangeSpec := { name := "labelBack", fn := fun _ => fun
  | [d] => { results := [.lit (.bool false)], args := [d] }
  | _ => none }
def LabelBackWrongFalsely : Prop := labelBackRow.holds Try.pinned (OpenSpec.ofChange labelBackWrong)

/-- 'seepagelaw01.LabelBits': WHATEVER THE INPUT: true; the input reads as it did. -/
def labelBitsSpec : ChangeSpec := { name := "labelBits", fn := fun _ => fun
  | [d] => { results := [.lit (.bool true)], args := [d] }
  | _ => none }
def labelBitsRow : OpenClaim := { program := "ytdajfjjocmndhaa", sum := "8242a8e7ed8ee14dafe1c1807995170eedd28e1116c3503c68c4455f47e280ef", func := "seepage/seepagelaw01.LabelBits", spec := "labelBits", apart := false }
def LabelBitsSaid : Prop := labelBitsRow.holds Try.pinned (OpenSpec.ofChange labelBitsSpec)

/-- ITS FALSE NEIGHBOUR: 'it returns false'. Refute it at one input. -/
def labelBitsWrong : ChangeSpec := { name := "labelBits", fn := fun _ => fun
  | [d] => { results := [.lit (.bool false)], args := [d] }
  | _ => none }
def LabelBitsWrongFalsely : Prop := labelBitsRow.holds Try.pinned (OpenSpec.ofChange labelBitsWrong)

/-- 'seepagelaw01.LabelAlike': WHATEVER THE INPUT: true; the input reads as it did. -/
def labelAlikeSpec : ChangeSpec := { name := "labelAlike", fn := fun _ => fun
  | [d] => { results := [.lit (.bool true)], args := [d] }
  | _ => none }
def labelAlikeRow : OpenClaim := { program := "ytdajfjjocmndhaa", sum := "8242a8e7ed8ee14dafe1c1807995170eedd28e1116c3503c68c4455f47e280ef", func := "seepage/seepagelaw01.LabelAlike", spec := "labelAlike", apart := false }
def LabelAlikeSaid : Prop := labelAlikeRow.holds Try.pinned (OpenSpec.ofChange labelAlikeSpec)

/-- ITS FALSE NEIGHBOUR: 'it returns false'. Refute it at one input. -/
def labelAlikeWrong : ChangeSpec := { name := "labelAlike", fn := fun _ => fun
  | [d] => { results := [.lit (.bool false)], args := [d] }
  | _ => none }
def LabelAlikeWrongFalsely : Prop := labelAlikeRow.holds Try.pinned (OpenSpec.ofChange labelAlikeWrong)

/-- 'seepagelaw01.LabelErased': WHATEVER THE INPUT: true; the input reads as it did. -/
def labelErasedSpec : ChangeSpec := { name := "labelErased", fn := fun _ => fun
  | [d] => { results := [.lit (.bool true)], args := [d] }
  | _ => none }
def labelErasedRow : OpenClaim := { program := "ytdajfjjocmndhaa", sum := "8242a8e7ed8ee14dafe1c1807995170eedd28e1116c3503c68c4455f47e280ef", func := "seepage/seepagelaw01.LabelErased", spec := "labelErased", apart := false }
def LabelErasedSaid : Prop := labelErasedRow.holds Try.pinned (OpenSpec.ofChange labelErasedSpec)

/-- ITS FALSE NEIGHBOUR: 'it returns false'. Refute it at one input. -/
def labelErasedWrong : ChangeSpec := { name := "labelErased", fn := fun _ => fun
  | [d] => { results := [.lit (.bool false)], args := [d] }
  | _ => none }
def LabelErasedWrongFalsely : Prop := labelErasedRow.holds Try.pinned (OpenSpec.ofChange labelErasedWrong)

/- THE SECOND FORM. 'bulk': how many values and letters a reading holds, each counted each time it is reached (what is shared counts as often as it is met; a slice's spare places count too). A statement '..UptoSaid' is the law's where the arguments, and the package variables that the reading takes, are together of bulk at most 1048576: NARROWER than '..Said'. Prove '..Said' where nothing that the law and all that it calls make is longer than what came in: it says more and counts as full. Else prove '..UptoSaid'. A law counts once. -/
mutual
def uptoBulk {H : Type} : DataW H → Nat
  | .lit (.string bytes) => bytes.length + 1
  | .lit _ => 1
  | .nil => 1
  | .ptr d => uptoBulk d + 1
  | .slice elems spare => uptoBulkAll elems + uptoBulkAll spare + 1
  | .agg parts => uptoBulkAll parts + 1
  | .iface _ d => uptoBulk d + 1
  | .map entries => uptoBulkEntries entries + 1
  | .held _ => 1
def uptoBulkAll {H : Type} : List (DataW H) → Nat
  | [] => 0
  | d :: r => uptoBulk d + uptoBulkAll r
def uptoBulkEntries {H : Type} : List (Lit × DataW H) → Nat
  | [] => 0
  | x :: r => uptoBulkEntry x + uptoBulkEntries r
def uptoBulkEntry {H : Type} : Lit × DataW H → Nat
  | (.string bytes, d) => bytes.length + uptoBulk d + 1
  | (_, d) => uptoBulk d + 1
 end
def uptoSmall : (H : Type) → List (DataW H) → Bool := fun _ ds => decide (uptoBulkAll ds ≤ 1048576)
def OpenSpec.upto (s : _root_.Go.ChangeSpec) : _root_.Go.OpenSpec := { _root_.Go.OpenSpec.ofChange s with cond := some uptoSmall }

/-- 'seepagelaw01.LabelJoins', WHERE WHAT IT READS IS OF BULK AT MOST 1048576: true; the input reads as it did. -/
def labelJoinsUptoRow : OpenClaim := { program := "ytdajfjjocmndhaa", sum := "8242a8e7ed8ee14dafe1c1807995170eedd28e1116c3503c68c4455f47e280ef", func := "seepage/seepagelaw01.LabelJoins", spec := "labelJoins", apart := false, narrowed := true }
def LabelJoinsUptoSaid : Prop := labelJoinsUptoRow.holds Try.pinned (OpenSpec.upto labelJoinsSpec)

/-- 'seepagelaw01.LabelMakes', WHERE WHAT IT READS IS OF BULK AT MOST 1048576: true; the input reads as it did. -/
def labelMakesUptoRow : OpenClaim := { program := "ytdajfjjocmndhaa", sum := "8242a8e7ed8ee14dafe1c1807995170eedd28e1116c3503c68c4455f47e280ef", func := "seepage/seepagelaw01.LabelMakes", spec := "labelMakes", apart := false, narrowed := true }
def LabelMakesUptoSaid : Prop := labelMakesUptoRow.holds Try.pinned (OpenSpec.upto labelMakesSpec)

/-- 'seepagelaw01.LabelWords', WHERE WHAT IT READS IS OF BULK AT MOST 1048576: true; the input reads as it did. -/
def labelWordsUptoRow : OpenClaim := { program := "ytdajfjjocmndhaa", sum := "8242a8e7ed8ee14dafe1c1807995170eedd28e1116c3503c68c4455f47e280ef", func := "seepage/seepagelaw01.LabelWords", spec := "labelWords", apart := false, narrowed := true }
def LabelWordsUptoSaid : Prop := labelWordsUptoRow.holds Try.pinned (OpenSpec.upto labelWordsSpec)

/-- 'seepagelaw01.LabelBack', WHERE WHAT IT READS IS OF BULK AT MOST 1048576: true; the input reads as it did. -/
def labelBackUptoRow : OpenClaim := { program := "ytdajfjjocmndhaa", sum := "8242a8e7ed8ee14dafe1c1807995170eedd28e1116c3503c68c4455f47e280ef", func := "seepage/seepagelaw01.LabelBack", spec := "labelBack", apart := false, narrowed := true }
def LabelBackUptoSaid : Prop := labelBackUptoRow.holds Try.pinned (OpenSpec.upto labelBackSpec)

/-- 'seepagelaw01.LabelBits', WHERE WHAT IT READS IS OF BULK AT MOST 1048576: true; the input reads as it did. -/
def labelBitsUptoRow : OpenClaim := { program := "ytdajfjjocmndhaa", sum := "8242a8e7ed8ee14dafe1c1807995170eedd28e1116c3503c68c4455f47e280ef", func := "seepage/seepagelaw01.LabelBits", spec := "labelBits", apart := false, narrowed := true }
def LabelBitsUptoSaid : Prop := labelBitsUptoRow.holds Try.pinned (OpenSpec.upto labelBitsSpec)

/-- 'seepagelaw01.LabelAlike', WHERE WHAT IT READS IS OF BULK AT MOST 1048576: true; the input reads as it did. -/
def labelAlikeUptoRow : OpenClaim := { program := "ytdajfjjocmndhaa", sum := "8242a8e7ed8ee14dafe1c1807995170eedd28e1116c3503c68c4455f47e280ef", func := "seepage/seepagelaw01.LabelAlike", spec := "labelAlike", apart := false, narrowed := true }
def LabelAlikeUptoSaid : Prop := labelAlikeUptoRow.holds Try.pinned (OpenSpec.upto labelAlikeSpec)

/-- 'seepagelaw01.LabelErased', WHERE WHAT IT READS IS OF BULK AT MOST 1048576: true; the input reads as it did. -/
def labelErasedUptoRow : OpenClaim := { program := "ytdajfjjocmndhaa", sum := "8242a8e7ed8ee14dafe1c1807995170eedd28e1116c3503c68c4455f47e280ef", func := "seepage/seepagelaw01.LabelErased", spec := "labelErased", apart := false, narrowed := true }
def LabelErasedUptoSaid : Prop := labelErasedUptoRow.holds Try.pinned (OpenSpec.upto labelErasedSpec)

end Rows
end Go.Proofs.Ytdajfjjocmndhaa
