/-
  No cell of these rows narrows 'for every input' (looked for: loops, veiled, ifaces, maps, wideKeys, modest, calm, conditions, laid).
  DERIVED. THE GIVEN ROWS OF THIS SEAT. 6 by the template 'for every input the law returns true; each argument reads behind the call as it read before'; 0 by the template 'total and deterministic' (their statements: YtnjjdakmpkddhaaTotals.lean).
  GIVEN WITH THE SEED: the statements are not yours to turn. If you find one false, say at which input.
  Laid BY PROGRAM, IN A SANDBOX (cutbox-rows.mjs): the forced cells as the released guide's own fill.sh prints them over the translation a617b272a783e26b… (all of the seat's roots in one cut). By AI agents, Wed Nov 11 2026. No macro, syntax, notation, axiom, sorry.
-/
import Derived.Test.YtnjjdakmpkddhaaChecked
import GoSem.Claim
import GoSem.ClaimJoined
import GoSem.ClaimMapViews
import Derived.JoinedTies
import Derived.KernelRfl
namespace Go.Proofs.Ytnjjdakmpkddhaa
/- THE CELL 'sum', in the pinned program and in every row, IS THE sha256 OF THE DUMP (.gsa) THAT YtnjjdakmpkddhaaProg.lean LOADS. Nothing in Lean hashes anything: it is a label: what it is worth is what the hold of that sum in a sandbox is worth. -/
noncomputable def Try.pinned : Pinned := { name := "ytnjjdakmpkddhaa", sum := "a617b272a783e26bd257385477dc0c035d7f4285162f1f34c91d43f3ea14aa8b", checked := Try.checked }
namespace Rows
def none {H : Type} : Left H := { results := [], args := [] }

/-- 'seepagelaw06.MapperFive': WHATEVER THE INPUT: true; the input reads as it did. -/
def mapperFiveSpec : ChangeSpec := { name := "mapperFive", fn := fun _ => fun
  | [d] => { results := [.lit (.bool true)], args := [d] }
  | _ => none }
def mapperFiveRow : OpenClaim := { program := "ytnjjdakmpkddhaa", sum := "a617b272a783e26bd257385477dc0c035d7f4285162f1f34c91d43f3ea14aa8b", func := "seepage/seepagelaw06.MapperFive", spec := "mapperFive", apart := false }
def MapperFiveSaid : Prop := mapperFiveRow.holds Try.pinned (OpenSpec.ofChange mapperFiveSpec)

/-- ITS FALSE NEIGHBOUR: 'it returns false'. Refute it at one input. -/
def mapperFiveWrong : ChangeSpec := { name := "mapperFive", fn := fun _ => fun
  | [d] => { results := [.lit (.bool false)], args := [d] }
  | _ => none }
def MapperFiveWrongFalsely : Prop := mapperFiveRow.holds Try.pinned (OpenSpec.ofChange mapperFiveWrong)

/-- 'seepagelaw06.MapperScreens': WHATEVER THE INPUT: true; the input reads as it did. -/
def mapperScreensSpec : ChangeSpec := { name := "mapperScreens", fn := fun _ => fun
  | [d] => { results := [.lit (.bool true)], args := [d] }
  | _ => none }
def mapperScreensRow : OpenClaim := { program := "ytnjjdakmpkddhaa", sum := "a617b272a783e26bd257385477dc0c035d7f4285162f1f34c91d43f3ea14aa8b", func := "seepage/seepagelaw06.MapperScreens", spec := "mapperScreens", apart := false }
def MapperScreensSaid : Prop := mapperScreensRow.holds Try.pinned (OpenSpec.ofChange mapperScreensSpec)

/-- ITS FALSE NEIGHBOUR: 'it returns false'. Refute it at one input. -/
def mapperScreensWrong : ChangeSpec := { name := "mapperScreens", fn := fun _ => fun
  | [d] => { results := [.lit (.bool false)], args := [d] }
  | _ => none }
def MapperScreensWrongFalsely : Prop := mapperScreensRow.holds Try.pinned (OpenSpec.ofChange mapperScreensWrong)

/-- 'seepagelaw06.MapperCounts': WHATEVER THE INPUT: true; the input reads as it did. -/
def mapperCountsSpec : ChangeSpec := { name := "mapperCounts", fn := fun _ => fun
  | [d1, d2, d3] => { results := [.lit (.bool true)], args := [d1, d2, d3] }
  | _ => none }
def mapperCountsRow : OpenClaim := { program := "ytnjjdakmpkddhaa", sum := "a617b272a783e26bd257385477dc0c035d7f4285162f1f34c91d43f3ea14aa8b", func := "seepage/seepagelaw06.MapperCounts", spec := "mapperCounts", apart := false }
def MapperCountsSaid : Prop := mapperCountsRow.holds Try.pinned (OpenSpec.ofChange mapperCountsSpec)

/-- ITS FALSE NEIGHBOUR: 'it returns false'. Refute it at one input. -/
def mapperCountsWrong : ChangeSpec := { name := "mapperCounts", fn := fun _ => fun
  | [d1, d2, d3] => { results := [.lit (.bool false)], args := [d1, d2, d3] }
  | _ => none }
def MapperCountsWrongFalsely : Prop := mapperCountsRow.holds Try.pinned (OpenSpec.ofChange mapperCountsWrong)

/-- 'seepagelaw06.MapperOthers': WHATEVER THE INPUT: true; the input reads as it did. -/
def mapperOthersSpec : ChangeSpec := { name := "mapperOthers", fn := fun _ => fun
  | [d] => { results := [.lit (.bool true)], args := [d] }
  | _ => none }
def mapperOthersRow : OpenClaim := { program := "ytnjjdakmpkddhaa", sum := "a617b272a783e26bd257385477dc0c035d7f4285162f1f34c91d43f3ea14aa8b", func := "seepage/seepagelaw06.MapperOthers", spec := "mapperOthers", apart := false }
def MapperOthersSaid : Prop := mapperOthersRow.holds Try.pinned (OpenSpec.ofChange mapperOthersSpec)

/-- ITS FALSE NEIGHBOUR: 'it returns false'. Refute it at one input. -/
def mapperOthersWrong : ChangeSpec := { name := "mapperOthers", fn := fun _ => fun
  | [d] => { results := [.lit (.bool false)], args := [d] }
  | _ => none }
def MapperOthersWrongFalsely : Prop := mapperOthersRow.holds Try.pinned (OpenSpec.ofChange mapperOthersWrong)

/-- 'seepagelaw06.MapperTells': WHATEVER THE INPUT: true; the input reads as it did. -/
def mapperTellsSpec : ChangeSpec := { name := "mapperTells", fn := fun _ => fun
  | [d] => { results := [.lit (.bool true)], args := [d] }
  | _ => none }
def mapperTellsRow : OpenClaim := { program := "ytnjjdakmpkddhaa", sum := "a617b272a783e26bd257385477dc0c035d7f4285162f1f34c91d43f3ea14aa8b", func := "seepage/seepagelaw06.MapperTells", spec := "mapperTells", apart := false }
def MapperTellsSaid : Prop := mapperTellsRow.holds Try.pinned (OpenSpec.ofChange mapperTellsSpec)

/-- ITS FALSE NEIGHBOUR: 'it returns false'. Refute it at one input. -/
def mapperTellsWrong : ChangeSpec := { name := "mapperTells", fn := fun _ => fun
  | [d] => { results := [.lit (.bool false)], args := [d] }
  | _ => none }
def MapperTellsWrongFalsely : Prop := mapperTellsRow.holds Try.pinned (OpenSpec.ofChange mapperTellsWrong)

/-- 'seepagelaw06.MapperStays': WHATEVER THE INPUT: true; the input reads as it did. -/
def mapperStaysSpec : ChangeSpec := { name := "mapperStays", fn := fun _ => fun
  | [d1, d2] => { results := [.lit (.bool true)], args := [d1, d2] }
  | _ => none }
def mapperStaysRow : OpenClaim := { program := "ytnjjdakmpkddhaa", sum := "a617b272a783e26bd257385477dc0c035d7f4285162f1f34c91d43f3ea14aa8b", func := "seepage/seepagelaw06.MapperStays", spec := "mapperStays", apart := false }
def MapperStaysSaid : Prop := mapperStaysRow.holds Try.pinned (OpenSpec.ofChange mapperStaysSpec)

/-- ITS FALSE NEIGHBOUR: 'it returns false'. Refute it at one input. -/
def mapperStaysWrong : ChangeSpec := { name := "mapperStays", fn := fun _ => fun
  | [d1, d2] => { results := [.lit (.bool false)], args := [d1, d2] }
  | _ => none }
def MapperStaysWrongFalsely : Prop := mapperStaysRow.holds Try.pinned (OpenSpec.ofChange mapperStaysWrong)

/- THE SECOND FORM. 'bulk': how many values and letters a reading holds, each counted each time it is reached (what is shared counts as often as it is met; a slice's spare places count too). A statement '..UptoSaid' is the law's where the arguments, and the package variables that the reading takes, are together of bulk at most 1048576: NARROWER than '..Said'. Prove '..Said' where nothing that the law and all that it calls make is longer than what came in: it says more and counts as full. Else prove '..UptoSaid'. A law counts once. -/
mutual
def uptoBulk {H : Type} : DataW H → Nat
  | .lit (.string bytes) => bytes.length + 1
  | .lit _ => 1
  | .nil => 1
  | .ptr d => uptoBulk d + 1
  | .slice elems spare => uptoBulkAll elems + uptoBulkAll spare + 1
  | .agg parts => uptoBulkAll parts + 1
  | .iface _ d => uptoBulk d + 1
  | .map entries => uptoBulkEntries entries + 1
  | .held _ => 1
def uptoBulkAll {H : Type} : List (DataW H) → Nat
  | [] => 0
  | d :: r => uptoBulk d + uptoBulkAll r
def uptoBulkEntries {H : Type} : List (Lit × DataW H) → Nat
  | [] => 0
  | x :: r => uptoBulkEntry x + uptoBulkEntries r
def uptoBulkEntry {H : Type} : Lit × DataW H → Nat
  | (.string bytes, d) => bytes.length + uptoBulk d + 1
  | (_, d) => uptoBulk d + 1
 end
def uptoSmall : (H : Type) → List (DataW H) → Bool := fun _ ds => decide (uptoBulkAll ds ≤ 1048576)
def OpenSpec.upto (s : _root_.Go.ChangeSpec) : _root_.Go.OpenSpec := { _root_.Go.OpenSpec.ofChange s with cond := some uptoSmall }

/-- 'seepagelaw06.MapperFive', WHERE WHAT IT READS IS OF BULK AT MOST 1048576: true; the input reads as it did. -/
def mapperFiveUptoRow : OpenClaim := { program := "ytnjjdakmpkddhaa", sum := "a617b272a783e26bd257385477dc0c035d7f4285162f1f34c91d43f3ea14aa8b", func := "seepage/seepagelaw06.MapperFive", spec := "mapperFive", apart := false, narrowed := true }
def MapperFiveUptoSaid : Prop := mapperFiveUptoRow.holds Try.pinned (OpenSpec.upto mapperFiveSpec)

/-- 'seepagelaw06.MapperScreens', WHERE WHAT IT READS IS OF BULK AT MOST 1048576: true; the input reads as it did. -/
def mapperScreensUptoRow : OpenClaim := { program := "ytnjjdakmpkddhaa", sum := "a617b272a783e26bd257385477dc0c035d7f4285162f1f34c91d43f3ea14aa8b", func := "seepage/seepagelaw06.MapperScreens", spec := "mapperScreens", apart := false, narrowed := true }
def MapperScreensUptoSaid : Prop := mapperScreensUptoRow.holds Try.pinned (OpenSpec.upto mapperScreensSpec)

/-- 'seepagelaw06.MapperCounts', WHERE WHAT IT READS IS OF BULK AT MOST 1048576: true; the input reads as it did. -/
def mapperCountsUptoRow : OpenClaim := { program := "ytnjjdakmpkddhaa", sum := "a617b272a783e26bd257385477dc0c035d7f4285162f1f34c91d43f3ea14aa8b", func := "seepage/seepagelaw06.MapperCounts", spec := "mapperCounts", apart := false, narrowed := true }
def MapperCountsUptoSaid : Prop := mapperCountsUptoRow.holds Try.pinned (OpenSpec.upto mapperCountsSpec)

/-- 'seepagelaw06.MapperOthers', WHERE WHAT IT READS IS OF BULK AT MOST 1048576: true; the input reads as it did. -/
def mapperOthersUptoRow : OpenClaim := { program := "ytnjjdakmpkddhaa", sum := "a617b272a783e26bd257385477dc0c035d7f4285162f1f34c91d43f3ea14aa8b", func := "seepage/seepagelaw06.MapperOthers", spec := "mapperOthers", apart := false, narrowed := true }
def MapperOthersUptoSaid : Prop := mapperOthersUptoRow.holds Try.pinned (OpenSpec.upto mapperOthersSpec)

/-- 'seepagelaw06.MapperTells', WHERE WHAT IT READS IS OF BULK AT MOST 1048576: true; the input reads as it did. -/
def mapperTellsUptoRow : OpenClaim := { program := "ytnjjdakmpkddhaa", sum := "a617b272a783e26bd257385477dc0c035d7f4285162f1f34c91d43f3ea14aa8b", func := "seepage/seepagelaw06.MapperTells", spec := "mapperTells", apart := false, narrowed := true }
def MapperTellsUptoSaid : Prop := mapperTellsUptoRow.holds Try.pinned (OpenSpec.upto mapperTellsSpec)

/-- 'seepagelaw06.MapperStays', WHERE WHAT IT READS IS OF BULK AT MOST 1048576: true; the input reads as it did. -/
def mapperStaysUptoRow : OpenClaim := { program := "ytnjjdakmpkddhaa", sum := "a617b272a783e26bd257385477dc0c035d7f4285162f1f34c91d43f3ea14aa8b", func := "seepage/seepagelaw06.MapperStays", spec := "mapperStays", apart := false, narrowed := true }
def MapperStaysUptoSaid : Prop := mapperStaysUptoRow.holds Try.pinned (OpenSpec.upto mapperStaysSpec)

end Rows
end Go.Proofs.Ytnjjdakmpkddhaa
