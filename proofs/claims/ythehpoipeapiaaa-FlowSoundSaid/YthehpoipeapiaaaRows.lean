/-
  No cell of these rows narrows 'for every input' (looked for: loops, veiled, ifaces, maps, wideKeys, modest, calm, conditions, laid).
  DERIVED. THE GIVEN ROWS OF THIS SEAT. 4 by the template 'for every input the law returns true; each argument reads behind the call as it read before'; 0 by the template 'total and deterministic' (their statements: YthehpoipeapiaaaTotals.lean).
  GIVEN WITH THE SEED: the statements are not yours to turn. If you find one false, say at which input.
  Laid BY PROGRAM, IN A SANDBOX (cutbox-rows.mjs): the forced cells as the released guide's own fill.sh prints them over the translation b229b0b79edd3335… (all of the seat's roots in one cut). By AI agents, Wed Nov 11 2026. No macro, syntax, notation, axiom, sorry.
-/
import Derived.Test.YthehpoipeapiaaaChecked
import GoSem.Claim
import GoSem.ClaimJoined
import GoSem.ClaimMapViews
import Derived.JoinedTies
import Derived.KernelRfl
namespace Go.Proofs.Ythehpoipeapiaaa
/- THE CELL 'sum', in the pinned program and in every row, IS THE sha256 OF THE DUMP (.gsa) THAT YthehpoipeapiaaaProg.lean LOADS. Nothing in Lean hashes anything: it is a label: what it is worth is what the hold of that sum in a sandbox is worth. -/
noncomputable def Try.pinned : Pinned := { name := "ythehpoipeapiaaa", sum := "b229b0b79edd3335708825722c0fffbd12e823a9f7cec0f0ec166d513527e091", checked := Try.checked }
namespace Rows
def none {H : Type} : Left H := { results := [], args := [] }

/-- 'seepagelaw22.FlowTells': WHATEVER THE INPUT: true; the input reads as it did. -/
def flowTellsSpec : ChangeSpec := { name := "flowTells", fn := fun _ => fun
  | [d] => { results := [.lit (.bool true)], args := [d] }
  | _ => none }
def flowTellsRow : OpenClaim := { program := "ythehpoipeapiaaa", sum := "b229b0b79edd3335708825722c0fffbd12e823a9f7cec0f0ec166d513527e091", func := "seepage/seepagelaw22.FlowTells", spec := "flowTells", apart := false }
def FlowTellsSaid : Prop := flowTellsRow.holds Try.pinned (OpenSpec.ofChange flowTellsSpec)

/-- ITS FALSE NEIGHBOUR: 'it returns false'. Refute it at one input. -/
def flowTellsWrong : ChangeSpec := { name := "flowTells", fn := fun _ => fun
  | [d] => { results := [.lit (.bool false)], args := [d] }
  | _ => none }
def FlowTellsWrongFalsely : Prop := flowTellsRow.holds Try.pinned (OpenSpec.ofChange flowTellsWrong)

/-- 'seepagelaw22.FlowFirst': WHATEVER THE INPUT: true; the input reads as it did. -/
def flowFirstSpec : ChangeSpec := { name := "flowFirst", fn := fun _ => fun
  | [d1, d2] => { results := [.lit (.bool true)], args := [d1, d2] }
  | _ => none }
def flowFirstRow : OpenClaim := { program := "ythehpoipeapiaaa", sum := "b229b0b79edd3335708825722c0fffbd12e823a9f7cec0f0ec166d513527e091", func := "seepage/seepagelaw22.FlowFirst", spec := "flowFirst", apart := false }
def FlowFirstSaid : Prop := flowFirstRow.holds Try.pinned (OpenSpec.ofChange flowFirstSpec)

/-- ITS FALSE NEIGHBOUR: 'it returns false'. Refute it at one input. -/
def flowFirstWrong : ChangeSpec := { name := "flowFirst", fn := fun _ => fun
  | [d1, d2] => { results := [.lit (.bool false)], args := [d1, d2] }
  | _ => none }
def FlowFirstWrongFalsely : Prop := flowFirstRow.holds Try.pinned (OpenSpec.ofChange flowFirstWrong)

/-- 'seepagelaw22.FlowFour': WHATEVER THE INPUT: true; the input reads as it did. -/
def flowFourSpec : ChangeSpec := { name := "flowFour", fn := fun _ => fun
  | [d1, d2, d3] => { results := [.lit (.bool true)], args := [d1, d2, d3] }
  | _ => none }
def flowFourRow : OpenClaim := { program := "ythehpoipeapiaaa", sum := "b229b0b79edd3335708825722c0fffbd12e823a9f7cec0f0ec166d513527e091", func := "seepage/seepagelaw22.FlowFour", spec := "flowFour", apart := false }
def FlowFourSaid : Prop := flowFourRow.holds Try.pinned (OpenSpec.ofChange flowFourSpec)

/-- ITS FALSE NEIGHBOUR: 'it returns false'. Refute it at one input. -/
def flowFourWrong : ChangeSpec := { name := "flowFour", fn := fun _ => fun
  | [d1, d2, d3] => { results := [.lit (.bool false)], args := [d1, d2, d3] }
  | _ => none }
def FlowFourWrongFalsely : Prop := flowFourRow.holds Try.pinned (OpenSpec.ofChange flowFourWrong)

/-- 'seepagelaw22.FlowSound': WHATEVER THE INPUT: true; the input reads as it did. -/
def flowSoundSpec : ChangeSpec := { name := "flowSound", fn := fun _ => fun
  | [d1, d2] => { results := [.lit (.bool true)], args := [d1, d2] }
  | _ => none }
def flowSoundRow : OpenClaim := { program := "ythehpoipeapiaaa", sum := "b229b0b79edd3335708825722c0fffbd12e823a9f7cec0f0ec166d513527e091", func := "seepage/seepagelaw22.FlowSound", spec := "flowSound", unfollowed := true, recurses := true, apart := false }
def FlowSoundSaid : Prop := flowSoundRow.holds Try.pinned (OpenSpec.ofChange flowSoundSpec)

/-- ITS FALSE NEIGHBOUR: 'it returns false'. Refute it at one input. -/
def flowSoundWrong : ChangeSpec := { name := "flowSound", fn := fun _ => fun
  | [d1, d2] => { results := [.lit (.bool false)], args := [d1, d2] }
  | _ => none }
def FlowSoundWrongFalsely : Prop := flowSoundRow.holds Try.pinned (OpenSpec.ofChange flowSoundWrong)

/- THE SECOND FORM. 'bulk': how many values and letters a reading holds, each counted each time it is reached (what is shared counts as often as it is met; a slice's spare places count too). A statement '..UptoSaid' is the law's where the arguments, and the package variables that the reading takes, are together of bulk at most 1048576: NARROWER than '..Said'. Prove '..Said' where nothing that the law and all that it calls make is longer than what came in: it says more and counts as full. Else prove '..UptoSaid'. A law counts once. -/
mutual
def uptoBulk {H : Type} : DataW H → Nat
  | .lit (.string bytes) => bytes.length + 1
  | .lit _ => 1
  | .nil => 1
  | .ptr d => uptoBulk d + 1
  | .slice elems spare => uptoBulkAll elems + uptoBulkAll spare + 1
  | .agg parts => uptoBulkAll parts + 1
  | .iface _ d => uptoBulk d + 1
  | .map entries => uptoBulkEntries entries + 1
  | .held _ => 1
def uptoBulkAll {H : Type} : List (DataW H) → Nat
  | [] => 0
  | d :: r => uptoBulk d + uptoBulkAll r
def uptoBulkEntries {H : Type} : List (Lit × DataW H) → Nat
  | [] => 0
  | x :: r => uptoBulkEntry x + uptoBulkEntries r
def uptoBulkEntry {H : Type} : Lit × DataW H → Nat
  | (.string bytes, d) => bytes.length + uptoBulk d + 1
  | (_, d) => uptoBulk d + 1
 end
def uptoSmall : (H : Type) → List (DataW H) → Bool := fun _ ds => decide (uptoBulkAll ds ≤ 1048576)
def OpenSpec.upto (s : _root_.Go.ChangeSpec) : _root_.Go.OpenSpec := { _root_.Go.OpenSpec.ofChange s with cond := some uptoSmall }

/-- 'seepagelaw22.FlowTells', WHERE WHAT IT READS IS OF BULK AT MOST 1048576: true; the input reads as it did. -/
def flowTellsUptoRow : OpenClaim := { program := "ythehpoipeapiaaa", sum := "b229b0b79edd3335708825722c0fffbd12e823a9f7cec0f0ec166d513527e091", func := "seepage/seepagelaw22.FlowTells", spec := "flowTells", apart := false, narrowed := true }
def FlowTellsUptoSaid : Prop := flowTellsUptoRow.holds Try.pinned (OpenSpec.upto flowTellsSpec)

/-- 'seepagelaw22.FlowFirst', WHERE WHAT IT READS IS OF BULK AT MOST 1048576: true; the input reads as it did. -/
def flowFirstUptoRow : OpenClaim := { program := "ythehpoipeapiaaa", sum := "b229b0b79edd3335708825722c0fffbd12e823a9f7cec0f0ec166d513527e091", func := "seepage/seepagelaw22.FlowFirst", spec := "flowFirst", apart := false, narrowed := true }
def FlowFirstUptoSaid : Prop := flowFirstUptoRow.holds Try.pinned (OpenSpec.upto flowFirstSpec)

/-- 'seepagelaw22.FlowFour', WHERE WHAT IT READS IS OF BULK AT MOST 1048576: true; the input reads as it did. -/
def flowFourUptoRow : OpenClaim := { program := "ythehpoipeapiaaa", sum := "b229b0b79edd3335708825722c0fffbd12e823a9f7cec0f0ec166d513527e091", func := "seepage/seepagelaw22.FlowFour", spec := "flowFour", apart := false, narrowed := true }
def FlowFourUptoSaid : Prop := flowFourUptoRow.holds Try.pinned (OpenSpec.upto flowFourSpec)

/-- 'seepagelaw22.FlowSound', WHERE WHAT IT READS IS OF BULK AT MOST 1048576: true; the input reads as it did. -/
def flowSoundUptoRow : OpenClaim := { program := "ythehpoipeapiaaa", sum := "b229b0b79edd3335708825722c0fffbd12e823a9f7cec0f0ec166d513527e091", func := "seepage/seepagelaw22.FlowSound", spec := "flowSound", unfollowed := true, recurses := true, apart := false, narrowed := true }
def FlowSoundUptoSaid : Prop := flowSoundUptoRow.holds Try.pinned (OpenSpec.upto flowSoundSpec)

end Rows
end Go.Proofs.Ythehpoipeapiaaa
