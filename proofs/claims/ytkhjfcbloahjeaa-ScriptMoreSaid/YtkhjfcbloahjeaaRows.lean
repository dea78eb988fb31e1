/-
  No cell of these rows narrows 'for every input' (looked for: loops, veiled, ifaces, maps, wideKeys, modest, calm, conditions, laid).
  DERIVED. THE GIVEN ROWS OF THIS SEAT. 5 by the template 'for every input the law returns true; each argument reads behind the call as it read before'; 0 by the template 'total and deterministic' (their statements: YtkhjfcbloahjeaaTotals.lean).
  GIVEN WITH THE SEED: the statements are not yours to turn. If you find one false, say at which input.
  Laid BY PROGRAM, IN A SANDBOX (cutbox-rows.mjs): the forced cells as the released guide's own fill.sh prints them over the translation 422efc483990735a… (all of the seat's roots in one cut). By AI agents, Wed Nov 11 2026. No macro, syntax, notation, axiom, sorry.
-/
import Derived.Test.YtkhjfcbloahjeaaChecked
import GoSem.Claim
import GoSem.ClaimJoined
import GoSem.ClaimMapViews
import Derived.JoinedTies
import Derived.KernelRfl
namespace Go.Proofs.Ytkhjfcbloahjeaa
/- THE CELL 'sum', in the pinned program and in every row, IS THE sha256 OF THE DUMP (.gsa) THAT YtkhjfcbloahjeaaProg.lean LOADS. Nothing in Lean hashes anything: it is a label: what it is worth is what the hold of that sum in a sandbox is worth. -/
noncomputable def Try.pinned : Pinned := { name := "ytkhjfcbloahjeaa", sum := "422efc483990735a74f6f8b35e7130fc18764e0b4b7d8256485b75cf799760a6", checked := Try.checked }
namespace Rows
def none {H : Type} : Left H := { results := [], args := [] }

/-- 'seepagelaw04.ScriptMore': WHATEVER THE INPUT: true; the input reads as it did. -/
def scriptMoreSpec : ChangeSpec := { name := "scriptMore", fn := fun _ => fun
  | [d] => { results := [.lit (.bool true)], args := [d] }
  | _ => none }
def scriptMoreRow : OpenClaim := { program := "ytkhjfcbloahjeaa", sum := "422efc483990735a74f6f8b35e7130fc18764e0b4b7d8256485b75cf799760a6", func := "seepage/seepagelaw04.ScriptMore", spec := "scriptMore", unfollowed := true, recurses := true, apart := false }
def ScriptMoreSaid : Prop := scriptMoreRow.holds Try.pinned (OpenSpec.ofChange scriptMoreSpec)

/-- ITS FALSE NEIGHBOUR: 'it returns false'. Refute it at one input. -/
def scriptMoreWrong : ChangeSpec := { name := "scriptMore", fn := fun _ => fun
  | [d] => { results := [.lit (.bool false)], args := [d] }
  | _ => none }
def ScriptMoreWrongFalsely : Prop := scriptMoreRow.holds Try.pinned (OpenSpec.ofChange scriptMoreWrong)

/-- 'seepagelaw04.ScriptChange': WHATEVER THE INPUT: true; the input reads as it did. -/
def scriptChangeSpec : ChangeSpec := { name := "scriptChange", fn := fun _ => fun
  | [d1, d2, d3] => { results := [.lit (.bool true)], args := [d1, d2, d3] }
  | _ => none }
def scriptChangeRow : OpenClaim := { program := "ytkhjfcbloahjeaa", sum := "422efc483990735a74f6f8b35e7130fc18764e0b4b7d8256485b75cf799760a6", func := "seepage/seepagelaw04.ScriptChange", spec := "scriptChange", unfollowed := true, recurses := true, apart := false }
def ScriptChangeSaid : Prop := scriptChangeRow.holds Try.pinned (OpenSpec.ofChange scriptChangeSpec)

/-- ITS FALSE NEIGHBOUR: 'it returns false'. Refute it at one input. -/
def scriptChangeWrong : ChangeSpec := { name := "scriptChange", fn := fun _ => fun
  | [d1, d2, d3] => { results := [.lit (.bool false)], args := [d1, d2, d3] }
  | _ => none }
def ScriptChangeWrongFalsely : Prop := scriptChangeRow.holds Try.pinned (OpenSpec.ofChange scriptChangeWrong)

/-- 'seepagelaw04.ScriptPads': WHATEVER THE INPUT: true; the input reads as it did. -/
def scriptPadsSpec : ChangeSpec := { name := "scriptPads", fn := fun _ => fun
  | [d] => { results := [.lit (.bool true)], args := [d] }
  | _ => none }
def scriptPadsRow : OpenClaim := { program := "ytkhjfcbloahjeaa", sum := "422efc483990735a74f6f8b35e7130fc18764e0b4b7d8256485b75cf799760a6", func := "seepage/seepagelaw04.ScriptPads", spec := "scriptPads", unfollowed := true, recurses := true, apart := false }
def ScriptPadsSaid : Prop := scriptPadsRow.holds Try.pinned (OpenSpec.ofChange scriptPadsSpec)

/-- ITS FALSE NEIGHBOUR: 'it returns false'. Refute it at one input. -/
def scriptPadsWrong : ChangeSpec := { name := "scriptPads", fn := fun _ => fun
  | [d] => { results := [.lit (.bool false)], args := [d] }
  | _ => none }
def ScriptPadsWrongFalsely : Prop := scriptPadsRow.holds Try.pinned (OpenSpec.ofChange scriptPadsWrong)

/-- 'seepagelaw04.ScriptCells': WHATEVER THE INPUT: true; the input reads as it did. -/
def scriptCellsSpec : ChangeSpec := { name := "scriptCells", fn := fun _ => fun
  | [d1, d2] => { results := [.lit (.bool true)], args := [d1, d2] }
  | _ => none }
def scriptCellsRow : OpenClaim := { program := "ytkhjfcbloahjeaa", sum := "422efc483990735a74f6f8b35e7130fc18764e0b4b7d8256485b75cf799760a6", func := "seepage/seepagelaw04.ScriptCells", spec := "scriptCells", unfollowed := true, recurses := true, apart := false }
def ScriptCellsSaid : Prop := scriptCellsRow.holds Try.pinned (OpenSpec.ofChange scriptCellsSpec)

/-- ITS FALSE NEIGHBOUR: 'it returns false'. Refute it at one input. -/
def scriptCellsWrong : ChangeSpec := { name := "scriptCells", fn := fun _ => fun
  | [d1, d2] => { results := [.lit (.bool false)], args := [d1, d2] }
  | _ => none }
def ScriptCellsWrongFalsely : Prop := scriptCellsRow.holds Try.pinned (OpenSpec.ofChange scriptCellsWrong)

/-- 'seepagelaw04.ScriptAlike': WHATEVER THE INPUT: true; the input reads as it did. -/
def scriptAlikeSpec : ChangeSpec := { name := "scriptAlike", fn := fun _ => fun
  | [d1, d2, d3] => { results := [.lit (.bool true)], args := [d1, d2, d3] }
  | _ => none }
def scriptAlikeRow : OpenClaim := { program := "ytkhjfcbloahjeaa", sum := "422efc483990735a74f6f8b35e7130fc18764e0b4b7d8256485b75cf799760a6", func := "seepage/seepagelaw04.ScriptAlike", spec := "scriptAlike", unfollowed := true, recurses := true, apart := false }
def ScriptAlikeSaid : Prop := scriptAlikeRow.holds Try.pinned (OpenSpec.ofChange scriptAlikeSpec)

/-- ITS FALSE NEIGHBOUR: 'it returns false'. Refute it at one input. -/
def scriptAlikeWrong : ChangeSpec := { name := "scriptAlike", fn := fun _ => fun
  | [d1, d2, d3] => { results := [.lit (.bool false)], args := [d1, d2, d3] }
  | _ => none }
def ScriptAlikeWrongFalsely : Prop := scriptAlikeRow.holds Try.pinned (OpenSpec.ofChange scriptAlikeWrong)

/- THE SECOND FORM. 'bulk': how many values and letters a reading holds, each counted each time it is reached (what is shared counts as often as it is met; a slice's spare places count too). A statement '..UptoSaid' is the law's where the arguments, and the package variables that the reading takes, are together of bulk at most 1048576: NARROWER than '..Said'. Prove '..Said' where nothing that the law and all that it calls make is longer than what came in: it says more and counts as full. Else prove '..UptoSaid'. A law counts once. -/
mutual
def uptoBulk {H : Type} : DataW H → Nat
  | .lit (.string bytes) => bytes.length + 1
  | .lit _ => 1
  | .nil => 1
  | .ptr d => uptoBulk d + 1
  | .slice elems spare => uptoBulkAll elems + uptoBulkAll spare + 1
  | .agg parts => uptoBulkAll parts + 1
  | .iface _ d => uptoBulk d + 1
  | .map entries => uptoBulkEntries entries + 1
  | .held _ => 1
def uptoBulkAll {H : Type} : List (DataW H) → Nat
  | [] => 0
  | d :: r => uptoBulk d + uptoBulkAll r
def uptoBulkEntries {H : Type} : List (Lit × DataW H) → Nat
  | [] => 0
  | x :: r => uptoBulkEntry x + uptoBulkEntries r
def uptoBulkEntry {H : Type} : Lit × DataW H → Nat
  | (.string bytes, d) => bytes.length + uptoBulk d + 1
  | (_, d) => uptoBulk d + 1
 end
def uptoSmall : (H : Type) → List (DataW H) → Bool := fun _ ds => decide (uptoBulkAll ds ≤ 1048576)
def OpenSpec.upto (s : _root_.Go.ChangeSpec) : _root_.Go.OpenSpec := { _root_.Go.OpenSpec.ofChange s with cond := some uptoSmall }

/-- 'seepagelaw04.ScriptMore', WHERE WHAT IT READS IS OF BULK AT MOST 1048576: true; the input reads as it did. -/
def scriptMoreUptoRow : OpenClaim := { program := "ytkhjfcbloahjeaa", sum := "422efc483990735a74f6f8b35e7130fc18764e0b4b7d8256485b75cf799760a6", func := "seepage/seepagelaw04.ScriptMore", spec := "scriptMore", unfollowed := true, recurses := true, apart := false, narrowed := true }
def ScriptMoreUptoSaid : Prop := scriptMoreUptoRow.holds Try.pinned (OpenSpec.upto scriptMoreSpec)

/-- 'seepagelaw04.ScriptChange', WHERE WHAT IT READS IS OF BULK AT MOST 1048576: true; the input reads as it did. -/
def scriptChangeUptoRow : OpenClaim := { program := "ytkhjfcbloahjeaa", sum := "422efc483990735a74f6f8b35e7130fc18764e0b4b7d8256485b75cf799760a6", func := "seepage/seepagelaw04.ScriptChange", spec := "scriptChange", unfollowed := true, recurses := true, apart := false, narrowed := true }
def ScriptChangeUptoSaid : Prop := scriptChangeUptoRow.holds Try.pinned (OpenSpec.upto scriptChangeSpec)

/-- 'seepagelaw04.ScriptPads', WHERE WHAT IT READS IS OF BULK AT MOST 1048576: true; the input reads as it did. -/
def scriptPadsUptoRow : OpenClaim := { program := "ytkhjfcbloahjeaa", sum := "422efc483990735a74f6f8b35e7130fc18764e0b4b7d8256485b75cf799760a6", func := "seepage/seepagelaw04.ScriptPads", spec := "scriptPads", unfollowed := true, recurses := true, apart := false, narrowed := true }
def ScriptPadsUptoSaid : Prop := scriptPadsUptoRow.holds Try.pinned (OpenSpec.upto scriptPadsSpec)

/-- 'seepagelaw04.ScriptCells', WHERE WHAT IT READS IS OF BULK AT MOST 1048576: true; the input reads as it did. -/
def scriptCellsUptoRow : OpenClaim := { program := "ytkhjfcbloahjeaa", sum := "422efc483990735a74f6f8b35e7130fc18764e0b4b7d8256485b75cf799760a6", func := "seepage/seepagelaw04.ScriptCells", spec := "scriptCells", unfollowed := true, recurses := true, apart := false, narrowed := true }
def ScriptCellsUptoSaid : Prop := scriptCellsUptoRow.holds Try.pinned (OpenSpec.upto scriptCellsSpec)

/-- 'seepagelaw04.ScriptAlike', WHERE WHAT IT READS IS OF BULK AT MOST 1048576: true; the input reads as it did. -/
def scriptAlikeUptoRow : OpenClaim := { program := "ytkhjfcbloahjeaa", sum := "422efc483990735a74f6f8b35e7130fc18764e0b4b7d8256485b75cf799760a6", func := "seepage/seepagelaw04.ScriptAlike", spec := "scriptAlike", unfollowed := true, recurses := true, apart := false, narrowed := true }
def ScriptAlikeUptoSaid : Prop := scriptAlikeUptoRow.holds Try.pinned (OpenSpec.upto scriptAlikeSpec)

end Rows
end Go.Proofs.Ytkhjfcbloahjeaa
