/-
  No cell of these rows narrows 'for every input' (looked for: loops, veiled, ifaces, maps, wideKeys, modest, calm, conditions, laid).
  DERIVED. THE GIVEN ROWS OF THIS SEAT. 6 by the template 'for every input the law returns true; each argument reads behind the call as it read before'; 0 by the template 'total and deterministic' (their statements: YtolennlpkpkhhaaTotals.lean).
  GIVEN WITH THE SEED: the statements are not yours to turn. If you find one false, say at which input.
  Laid BY PROGRAM, IN A SANDBOX (cutbox-rows.mjs): the forced cells as the released guide's own fill.sh prints them over the translation 12608851c5084267… (all of the seat's roots in one cut). By AI agents, Wed Nov 11 2026. No macro, syntax, notation, axiom, sorry.
-/
import Derived.Test.YtolennlpkpkhhaaChecked
import GoSem.Claim
import GoSem.ClaimJoined
import GoSem.ClaimMapViews
import Derived.JoinedTies
import Derived.KernelRfl
namespace Go.Proofs.Ytolennlpkpkhhaa
/- THE CELL 'sum', in the pinned program and in every row, IS THE sha256 OF THE DUMP (.gsa) THAT YtolennlpkpkhhaaProg.lean LOADS. Nothing in Lean hashes anything: it is a label: what it is worth is what the hold of that sum in a sandbox is worth. -/
noncomputable def Try.pinned : Pinned := { name := "ytolennlpkpkhhaa", sum := "12608851c508426719e1976d46ce413482092318653634ec8fb998ee0d5da5fc", checked := Try.checked }
namespace Rows
def none {H : Type} : Left H := { results := [], args := [] }

/-- 'seepagelaw05.HeaderMakes': WHATEVER THE INPUT: true; the input reads as it did. -/
def headerMakesSpec : ChangeSpec := { name := "headerMakes", fn := fun _ => fun
  | [d] => { results := [.lit (.bool true)], args := [d] }
  | _ => none }
def headerMakesRow : OpenClaim := { program := "ytolennlpkpkhhaa", sum := "12608851c508426719e1976d46ce413482092318653634ec8fb998ee0d5da5fc", func := "seepage/seepagelaw05.HeaderMakes", spec := "headerMakes", apart := false }
def HeaderMakesSaid : Prop := headerMakesRow.holds Try.pinned (OpenSpec.ofChange headerMakesSpec)

/-- ITS FALSE NEIGHBOUR: 'it returns false'. Refute it at one input. -/
def headerMakesWrong : ChangeSpec := { name := "headerMakes", fn := fun _ => fun
  | [d] => { results := [.lit (.bool false)], args := [d] }
  | _ => none }
def HeaderMakesWrongFalsely : Prop := headerMakesRow.holds Try.pinned (OpenSpec.ofChange headerMakesWrong)

/-- 'seepagelaw05.HeaderBack': WHATEVER THE INPUT: true; the input reads as it did. -/
def headerBackSpec : ChangeSpec := { name := "headerBack", fn := fun _ => fun
  | [d1, d2] => { results := [.lit (.bool true)], args := [d1, d2] }
  | _ => none }
def headerBackRow : OpenClaim := { program := "ytolennlpkpkhhaa", sum := "12608851c508426719e1976d46ce413482092318653634ec8fb998ee0d5da5fc", func := "seepage/seepagelaw05.HeaderBack", spec := "headerBack", apart := false }
def HeaderBackSaid : Prop := headerBackRow.holds Try.pinned (OpenSpec.ofChange headerBackSpec)

/-- ITS FALSE NEIGHBOUR: 'it returns false'. Refute it at one input. -/
def headerBackWrong : ChangeSpec := { name := "headerBack", fn := fun _ => fun
  | [d1, d2] => { results := [.lit (.bool false)], args := [d1, d2] }
  | _ => none }
def HeaderBackWrongFalsely : Prop := headerBackRow.holds Try.pinned (OpenSpec.ofChange headerBackWrong)

/-- 'seepagelaw05.HeaderMagic': WHATEVER THE INPUT: true; the input reads as it did. -/
def headerMagicSpec : ChangeSpec := { name := "headerMagic", fn := fun _ => fun
  | [d] => { results := [.lit (.bool true)], args := [d] }
  | _ => none }
def headerMagicRow : OpenClaim := { program := "ytolennlpkpkhhaa", sum := "12608851c508426719e1976d46ce413482092318653634ec8fb998ee0d5da5fc", func := "seepage/seepagelaw05.HeaderMagic", spec := "headerMagic", apart := false }
def HeaderMagicSaid : Prop := headerMagicRow.holds Try.pinned (OpenSpec.ofChange headerMagicSpec)

/-- ITS FALSE NEIGHBOUR: 'it returns false'. Refute it at one input. -/
def headerMagicWrong : ChangeSpec := { name := "headerMagic", fn := fun _ => fun
  | [d] => { results := [.lit (.bool false)], args := [d] }
  | _ => none }
def HeaderMagicWrongFalsely : Prop := headerMagicRow.holds Try.pinned (OpenSpec.ofChange headerMagicWrong)

/-- 'seepagelaw05.HeaderKinds': WHATEVER THE INPUT: true; the input reads as it did. -/
def headerKindsSpec : ChangeSpec := { name := "headerKinds", fn := fun _ => fun
  | [d] => { results := [.lit (.bool true)], args := [d] }
  | _ => none }
def headerKindsRow : OpenClaim := { program := "ytolennlpkpkhhaa", sum := "12608851c508426719e1976d46ce413482092318653634ec8fb998ee0d5da5fc", func := "seepage/seepagelaw05.HeaderKinds", spec := "headerKinds", apart := false }
def HeaderKindsSaid : Prop := headerKindsRow.holds Try.pinned (OpenSpec.ofChange headerKindsSpec)

/-- ITS FALSE NEIGHBOUR: 'it returns false'. Refute it at one input. -/
def headerKindsWrong : ChangeSpec := { name := "headerKinds", fn := fun _ => fun
  | [d] => { results := [.lit (.bool false)], args := [d] }
  | _ => none }
def HeaderKindsWrongFalsely : Prop := headerKindsRow.holds Try.pinned (OpenSpec.ofChange headerKindsWrong)

/-- 'seepagelaw05.HeaderParses': WHATEVER THE INPUT: true; the input reads as it did. -/
def headerParsesSpec : ChangeSpec := { name := "headerParses", fn := fun _ => fun
  | [d1, d2] => { results := [.lit (.bool true)], args := [d1, d2] }
  | _ => none }
def headerParsesRow : OpenClaim := { program := "ytolennlpkpkhhaa", sum := "12608851c508426719e1976d46ce413482092318653634ec8fb998ee0d5da5fc", func := "seepage/seepagelaw05.HeaderParses", spec := "headerParses", apart := false }
def HeaderParsesSaid : Prop := headerParsesRow.holds Try.pinned (OpenSpec.ofChange headerParsesSpec)

/-- ITS FALSE NEIGHBOUR: 'it returns false'. Refute it at one input. -/
def headerParsesWrong : ChangeSpec := { name := "headerParses", fn := fun _ => fun
  | [d1, d2] => { results := [.lit (.bool false)], args := [d1, d2] }
  | _ => none }
def HeaderParsesWrongFalsely : Prop := headerParsesRow.holds Try.pinned (OpenSpec.ofChange headerParsesWrong)

/-- 'seepagelaw05.HeaderParts': WHATEVER THE INPUT: true; the input reads as it did. -/
def headerPartsSpec : ChangeSpec := { name := "headerParts", fn := fun _ => fun
  | [d] => { results := [.lit (.bool true)], args := [d] }
  | _ => none }
def headerPartsRow : OpenClaim := { program := "ytolennlpkpkhhaa", sum := "12608851c508426719e1976d46ce413482092318653634ec8fb998ee0d5da5fc", func := "seepage/seepagelaw05.HeaderParts", spec := "headerParts", apart := false }
def HeaderPartsSaid : Prop := headerPartsRow.holds Try.pinned (OpenSpec.ofChange headerPartsSpec)

/-- ITS FALSE NEIGHBOUR: 'it returns false'. Refute it at one input. -/
def headerPartsWrong : ChangeSpec := { name := "headerParts", fn := fun _ => fun
  | [d] => { results := [.lit (.bool false)], args := [d] }
  | _ => none }
def HeaderPartsWrongFalsely : Prop := headerPartsRow.holds Try.pinned (OpenSpec.ofChange headerPartsWrong)

/- THE SECOND FORM. 'bulk': how many values and letters a reading holds, each counted each time it is reached (what is shared counts as often as it is met; a slice's spare places count too). A statement '..UptoSaid' is the law's where the arguments, and the package variables that the reading takes, are together of bulk at most 1048576: NARROWER than '..Said'. Prove '..Said' where nothing that the law and all that it calls make is longer than what came in: it says more and counts as full. Else prove '..UptoSaid'. A law counts once. -/
mutual
def uptoBulk {H : Type} : DataW H → Nat
  | .lit (.string bytes) => bytes.length + 1
  | .lit _ => 1
  | .nil => 1
  | .ptr d => uptoBulk d + 1
  | .slice elems spare => uptoBulkAll elems + uptoBulkAll spare + 1
  | .agg parts => uptoBulkAll parts + 1
  | .iface _ d => uptoBulk d + 1
  | .map entries => uptoBulkEntries entries + 1
  | .held _ => 1
def uptoBulkAll {H : Type} : List (DataW H) → Nat
  | [] => 0
  | d :: r => uptoBulk d + uptoBulkAll r
def uptoBulkEntries {H : Type} : List (Lit × DataW H) → Nat
  | [] => 0
  | x :: r => uptoBulkEntry x + uptoBulkEntries r
def uptoBulkEntry {H : Type} : Lit × DataW H → Nat
  | (.string bytes, d) => bytes.length + uptoBulk d + 1
  | (_, d) => uptoBulk d + 1
 end
def uptoSmall : (H : Type) → List (DataW H) → Bool := fun _ ds => decide (uptoBulkAll ds ≤ 1048576)
def OpenSpec.upto (s : _root_.Go.ChangeSpec) : _root_.Go.OpenSpec := { _root_.Go.OpenSpec.ofChange s with cond := some uptoSmall }

/-- 'seepagelaw05.HeaderMakes', WHERE WHAT IT READS IS OF BULK AT MOST 1048576: true; the input reads as it did. -/
def headerMakesUptoRow : OpenClaim := { program := "ytolennlpkpkhhaa", sum := "12608851c508426719e1976d46ce413482092318653634ec8fb998ee0d5da5fc", func := "seepage/seepagelaw05.HeaderMakes", spec := "headerMakes", apart := false, narrowed := true }
def HeaderMakesUptoSaid : Prop := headerMakesUptoRow.holds Try.pinned (OpenSpec.upto headerMakesSpec)

/-- 'seepagelaw05.HeaderBack', WHERE WHAT IT READS IS OF BULK AT MOST 1048576: true; the input reads as it did. -/
def headerBackUptoRow : OpenClaim := { program := "ytolennlpkpkhhaa", sum := "12608851c508426719e1976d46ce413482092318653634ec8fb998ee0d5da5fc", func := "seepage/seepagelaw05.HeaderBack", spec := "headerBack", apart := false, narrowed := true }
def HeaderBackUptoSaid : Prop := headerBackUptoRow.holds Try.pinned (OpenSpec.upto headerBackSpec)

/-- 'seepagelaw05.HeaderMagic', WHERE WHAT IT READS IS OF BULK AT MOST 1048576: true; the input reads as it did. -/
def headerMagicUptoRow : OpenClaim := { program := "ytolennlpkpkhhaa", sum := "12608851c508426719e1976d46ce413482092318653634ec8fb998ee0d5da5fc", func := "seepage/seepagelaw05.HeaderMagic", spec := "headerMagic", apart := false, narrowed := true }
def HeaderMagicUptoSaid : Prop := headerMagicUptoRow.holds Try.pinned (OpenSpec.upto headerMagicSpec)

/-- 'seepagelaw05.HeaderKinds', WHERE WHAT IT READS IS OF BULK AT MOST 1048576: true; the input reads as it did. -/
def headerKindsUptoRow : OpenClaim := { program := "ytolennlpkpkhhaa", sum := "12608851c508426719e1976d46ce413482092318653634ec8fb998ee0d5da5fc", func := "seepage/seepagelaw05.HeaderKinds", spec := "headerKinds", apart := false, narrowed := true }
def HeaderKindsUptoSaid : Prop := headerKindsUptoRow.holds Try.pinned (OpenSpec.upto headerKindsSpec)

/-- 'seepagelaw05.HeaderParses', WHERE WHAT IT READS IS OF BULK AT MOST 1048576: true; the input reads as it did. -/
def headerParsesUptoRow : OpenClaim := { program := "ytolennlpkpkhhaa", sum := "12608851c508426719e1976d46ce413482092318653634ec8fb998ee0d5da5fc", func := "seepage/seepagelaw05.HeaderParses", spec := "headerParses", apart := false, narrowed := true }
def HeaderParsesUptoSaid : Prop := headerParsesUptoRow.holds Try.pinned (OpenSpec.upto headerParsesSpec)

/-- 'seepagelaw05.HeaderParts', WHERE WHAT IT READS IS OF BULK AT MOST 1048576: true; the input reads as it did. -/
def headerPartsUptoRow : OpenClaim := { program := "ytolennlpkpkhhaa", sum := "12608851c508426719e1976d46ce413482092318653634ec8fb998ee0d5da5fc", func := "seepage/seepagelaw05.HeaderParts", spec := "headerParts", apart := false, narrowed := true }
def HeaderPartsUptoSaid : Prop := headerPartsUptoRow.holds Try.pinned (OpenSpec.upto headerPartsSpec)

end Rows
end Go.Proofs.Ytolennlpkpkhhaa
