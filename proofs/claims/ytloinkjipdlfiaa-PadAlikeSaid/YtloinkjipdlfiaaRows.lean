/-
  No cell of these rows narrows 'for every input' (looked for: loops, veiled, ifaces, maps, wideKeys, modest, calm, conditions, laid).
  DERIVED. THE GIVEN ROWS OF THIS SEAT. 5 by the template 'for every input the law returns true; each argument reads behind the call as it read before'; 0 by the template 'total and deterministic' (their statements: YtloinkjipdlfiaaTotals.lean).
  GIVEN WITH THE SEED: the statements are not yours to turn. If you find one false, say at which input.
  Laid BY PROGRAM, IN A SANDBOX (cutbox-rows.mjs): the forced cells as the released guide's own fill.sh prints them over the translation 1a0ee70c648c5f71… (all of the seat's roots in one cut). By AI agents, Wed Nov 11 2026. No macro, syntax, notation, axiom, sorry.
-/
import Derived.Test.YtloinkjipdlfiaaChecked
import GoSem.Claim
import GoSem.ClaimJoined
import GoSem.ClaimMapViews
import Derived.JoinedTies
import Derived.KernelRfl
namespace Go.Proofs.Ytloinkjipdlfiaa
/- THE CELL 'sum', in the pinned program and in every row, IS THE sha256 OF THE DUMP (.gsa) THAT YtloinkjipdlfiaaProg.lean LOADS. Nothing in Lean hashes anything: it is a label: what it is worth is what the hold of that sum in a sandbox is worth. -/
noncomputable def Try.pinned : Pinned := { name := "ytloinkjipdlfiaa", sum := "1a0ee70c648c5f71ed92811291d75d50510ece19e6a97246093fd0da803e1f2e", checked := Try.checked }
namespace Rows
def none {H : Type} : Left H := { results := [], args := [] }

/-- 'seepagelaw21.PadEight': WHATEVER THE INPUT: true; the input reads as it did. -/
def padEightSpec : ChangeSpec := { name := "padEight", fn := fun _ => fun
  | [d] => { results := [.lit (.bool true)], args := [d] }
  | _ => none }
def padEightRow : OpenClaim := { program := "ytloinkjipdlfiaa", sum := "1a0ee70c648c5f71ed92811291d75d50510ece19e6a97246093fd0da803e1f2e", func := "seepage/seepagelaw21.PadEight", spec := "padEight", apart := false }
def PadEightSaid : Prop := padEightRow.holds Try.pinned (OpenSpec.ofChange padEightSpec)

/-- ITS FALSE NEIGHBOUR: 'it returns false'. Refute it at one input. -/
def padEightWrong : ChangeSpec := { name := "padEight", fn := fun _ => fun
  | [d] => { results := [.lit (.bool false)], args := [d] }
  | _ => none }
def PadEightWrongFalsely : Prop := padEightRow.holds Try.pinned (OpenSpec.ofChange padEightWrong)

/-- 'seepagelaw21.PadFollows': WHATEVER THE INPUT: true; the input reads as it did. -/
def padFollowsSpec : ChangeSpec := { name := "padFollows", fn := fun _ => fun
  | [d1, d2] => { results := [.lit (.bool true)], args := [d1, d2] }
  | _ => none }
def padFollowsRow : OpenClaim := { program := "ytloinkjipdlfiaa", sum := "1a0ee70c648c5f71ed92811291d75d50510ece19e6a97246093fd0da803e1f2e", func := "seepage/seepagelaw21.PadFollows", spec := "padFollows", apart := false }
def PadFollowsSaid : Prop := padFollowsRow.holds Try.pinned (OpenSpec.ofChange padFollowsSpec)

/-- ITS FALSE NEIGHBOUR: 'it returns false'. Refute it at one input. -/
def padFollowsWrong : ChangeSpec := { name := "padFollows", fn := fun _ => fun
  | [d1, d2] => { results := [.lit (.bool false)], args := [d1, d2] }
  | _ => none }
def PadFollowsWrongFalsely : Prop := padFollowsRow.holds Try.pinned (OpenSpec.ofChange padFollowsWrong)

/-- 'seepagelaw21.PadErased': WHATEVER THE INPUT: true; the input reads as it did. -/
def padErasedSpec : ChangeSpec := { name := "padErased", fn := fun _ => fun
  | [d] => { results := [.lit (.bool true)], args := [d] }
  | _ => none }
def padErasedRow : OpenClaim := { program := "ytloinkjipdlfiaa", sum := "1a0ee70c648c5f71ed92811291d75d50510ece19e6a97246093fd0da803e1f2e", func := "seepage/seepagelaw21.PadErased", spec := "padErased", apart := false }
def PadErasedSaid : Prop := padErasedRow.holds Try.pinned (OpenSpec.ofChange padErasedSpec)

/-- ITS FALSE NEIGHBOUR: 'it returns false'. Refute it at one input. -/
def padErasedWrong : ChangeSpec := { name := "padErased", fn := fun _ => fun
  | [d] => { results := [.lit (.bool false)], args := [d] }
  | _ => none }
def PadErasedWrongFalsely : Prop := padErasedRow.holds Try.pinned (OpenSpec.ofChange padErasedWrong)

/-- 'seepagelaw21.PadAlike': WHATEVER THE INPUT: true; the input reads as it did. -/
def padAlikeSpec : ChangeSpec := { name := "padAlike", fn := fun _ => fun
  | [d1, d2, d3] => { results := [.lit (.bool true)], args := [d1, d2, d3] }
  | _ => none }
def padAlikeRow : OpenClaim := { program := "ytloinkjipdlfiaa", sum := "1a0ee70c648c5f71ed92811291d75d50510ece19e6a97246093fd0da803e1f2e", func := "seepage/seepagelaw21.PadAlike", spec := "padAlike", apart := false }
def PadAlikeSaid : Prop := padAlikeRow.holds Try.pinned (OpenSpec.ofChange padAlikeSpec)

/-- ITS FALSE NEIGHBOUR: 'it returns false'. Refute it at one input. -/
def padAlikeWrong : ChangeSpec := { name := "padAlike", fn := fun _ => fun
  | [d1, d2, d3] => { results := [.lit (.bool false)], args := [d1, d2, d3] }
  | _ => none }
def PadAlikeWrongFalsely : Prop := padAlikeRow.holds Try.pinned (OpenSpec.ofChange padAlikeWrong)

/-- 'seepagelaw21.PadTells': WHATEVER THE INPUT: true; the input reads as it did. -/
def padTellsSpec : ChangeSpec := { name := "padTells", fn := fun _ => fun
  | [d1, d2] => { results := [.lit (.bool true)], args := [d1, d2] }
  | _ => none }
def padTellsRow : OpenClaim := { program := "ytloinkjipdlfiaa", sum := "1a0ee70c648c5f71ed92811291d75d50510ece19e6a97246093fd0da803e1f2e", func := "seepage/seepagelaw21.PadTells", spec := "padTells", apart := false }
def PadTellsSaid : Prop := padTellsRow.holds Try.pinned (OpenSpec.ofChange padTellsSpec)

/-- ITS FALSE NEIGHBOUR: 'it returns false'. Refute it at one input. -/
def padTellsWrong : ChangeSpec := { name := "padTells", fn := fun _ => fun
  | [d1, d2] => { results := [.lit (.bool false)], args := [d1, d2] }
  | _ => none }
def PadTellsWrongFalsely : Prop := padTellsRow.holds Try.pinned (OpenSpec.ofChange padTellsWrong)

/- THE SECOND FORM. 'bulk': how many values and letters a reading holds, each counted each time it is reached (what is shared counts as often as it is met; a slice's spare places count too). A statement '..UptoSaid' is the law's where the arguments, and the package variables that the reading takes, are together of bulk at most 1048576: NARROWER than '..Said'. Prove '..Said' where nothing that the law and all that it calls make is longer than what came in: it says more and counts as full. Else prove '..UptoSaid'. A law counts once. -/
mutual
def uptoBulk {H : Type} : DataW H → Nat
  | .lit (.string bytes) => bytes.length + 1
  | .lit _ => 1
  | .nil => 1
  | .ptr d => uptoBulk d + 1
  | .slice elems spare => uptoBulkAll elems + uptoBulkAll spare + 1
  | .agg parts => uptoBulkAll parts + 1
  | .iface _ d => uptoBulk d + 1
  | .map entries => uptoBulkEntries entries + 1
  | .held _ => 1
def uptoBulkAll {H : Type} : List (DataW H) → Nat
  | [] => 0
  | d :: r => uptoBulk d + uptoBulkAll r
def uptoBulkEntries {H : Type} : List (Lit × DataW H) → Nat
  | [] => 0
  | x :: r => uptoBulkEntry x + uptoBulkEntries r
def uptoBulkEntry {H : Type} : Lit × DataW H → Nat
  | (.string bytes, d) => bytes.length + uptoBulk d + 1
  | (_, d) => uptoBulk d + 1
 end
def uptoSmall : (H : Type) → List (DataW H) → Bool := fun _ ds => decide (uptoBulkAll ds ≤ 1048576)
def OpenSpec.upto (s : _root_.Go.ChangeSpec) : _root_.Go.OpenSpec := { _root_.Go.OpenSpec.ofChange s with cond := some uptoSmall }

/-- 'seepagelaw21.PadEight', WHERE WHAT IT READS IS OF BULK AT MOST 1048576: true; the input reads as it did. -/
def padEightUptoRow : OpenClaim := { program := "ytloinkjipdlfiaa", sum := "1a0ee70c648c5f71ed92811291d75d50510ece19e6a97246093fd0da803e1f2e", func := "seepage/seepagelaw21.PadEight", spec := "padEight", apart := false, narrowed := true }
def PadEightUptoSaid : Prop := padEightUptoRow.holds Try.pinned (OpenSpec.upto padEightSpec)

/-- 'seepagelaw21.PadFollows', WHERE WHAT IT READS IS OF BULK AT MOST 1048576: true; the input reads as it did. -/
def padFollowsUptoRow : OpenClaim := { program := "ytloinkjipdlfiaa", sum := "1a0ee70c648c5f71ed92811291d75d50510ece19e6a97246093fd0da803e1f2e", func := "seepage/seepagelaw21.PadFollows", spec := "padFollows", apart := false, narrowed := true }
def PadFollowsUptoSaid : Prop := padFollowsUptoRow.holds Try.pinned (OpenSpec.upto padFollowsSpec)

/-- 'seepagelaw21.PadErased', WHERE WHAT IT READS IS OF BULK AT MOST 1048576: true; the input reads as it did. -/
def padErasedUptoRow : OpenClaim := { program := "ytloinkjipdlfiaa", sum := "1a0ee70c648c5f71ed92811291d75d50510ece19e6a97246093fd0da803e1f2e", func := "seepage/seepagelaw21.PadErased", spec := "padErased", apart := false, narrowed := true }
def PadErasedUptoSaid : Prop := padErasedUptoRow.holds Try.pinned (OpenSpec.upto padErasedSpec)

/-- 'seepagelaw21.PadAlike', WHERE WHAT IT READS IS OF BULK AT MOST 1048576: true; the input reads as it did. -/
def padAlikeUptoRow : OpenClaim := { program := "ytloinkjipdlfiaa", sum := "1a0ee70c648c5f71ed92811291d75d50510ece19e6a97246093fd0da803e1f2e", func := "seepage/seepagelaw21.PadAlike", spec := "padAlike", apart := false, narrowed := true }
def PadAlikeUptoSaid : Prop := padAlikeUptoRow.holds Try.pinned (OpenSpec.upto padAlikeSpec)

/-- 'seepagelaw21.PadTells', WHERE WHAT IT READS IS OF BULK AT MOST 1048576: true; the input reads as it did. -/
def padTellsUptoRow : OpenClaim := { program := "ytloinkjipdlfiaa", sum := "1a0ee70c648c5f71ed92811291d75d50510ece19e6a97246093fd0da803e1f2e", func := "seepage/seepagelaw21.PadTells", spec := "padTells", apart := false, narrowed := true }
def PadTellsUptoSaid : Prop := padTellsUptoRow.holds Try.pinned (OpenSpec.upto padTellsSpec)

end Rows
end Go.Proofs.Ytloinkjipdlfiaa
