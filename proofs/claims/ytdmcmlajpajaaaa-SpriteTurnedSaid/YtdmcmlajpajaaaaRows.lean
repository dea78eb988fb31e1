/-
  No cell of these rows narrows 'for every input' (looked for: loops, veiled, ifaces, maps, wideKeys, modest, calm, conditions, laid).
  DERIVED. THE GIVEN ROWS OF THIS SEAT. 6 by the template 'for every input the law returns true; each argument reads behind the call as it read before'; 0 by the template 'total and deterministic' (their statements: YtdmcmlajpajaaaaTotals.lean).
  GIVEN WITH THE SEED: the statements are not yours to turn. If you find one false, say at which input.
  Laid BY PROGRAM, IN A SANDBOX (cutbox-rows.mjs): the forced cells as the released guide's own fill.sh prints them over the translation 4c0e1073fd7d4b7a… (all of the seat's roots in one cut). By AI agents, Wed Nov 11 2026. No macro, syntax, notation, axiom, sorry.
-/
import Derived.Test.YtdmcmlajpajaaaaChecked
import GoSem.Claim
import GoSem.ClaimJoined
import GoSem.ClaimMapViews
import Derived.JoinedTies
import Derived.KernelRfl
namespace Go.Proofs.Ytdmcmlajpajaaaa
/- THE CELL 'sum', in the pinned program and in every row, IS THE sha256 OF THE DUMP (.gsa) THAT YtdmcmlajpajaaaaProg.lean LOADS. Nothing in Lean hashes anything: it is a label: what it is worth is what the hold of that sum in a sandbox is worth. -/
noncomputable def Try.pinned : Pinned := { name := "ytdmcmlajpajaaaa", sum := "4c0e1073fd7d4b7a17e953cd269546501e3f98312383d73e42f18115aed4c308", checked := Try.checked }
namespace Rows
def none {H : Type} : Left H := { results := [], args := [] }

/-- 'seepagelaw15.SpriteFinds': WHATEVER THE INPUT: true; the input reads as it did. -/
def spriteFindsSpec : ChangeSpec := { name := "spriteFinds", fn := fun _ => fun
  | [d1, d2] => { results := [.lit (.bool true)], args := [d1, d2] }
  | _ => none }
def spriteFindsRow : OpenClaim := { program := "ytdmcmlajpajaaaa", sum := "4c0e1073fd7d4b7a17e953cd269546501e3f98312383d73e42f18115aed4c308", func := "seepage/seepagelaw15.SpriteFinds", spec := "spriteFinds", unfollowed := true, recurses := true, apart := false }
def SpriteFindsSaid : Prop := spriteFindsRow.holds Try.pinned (OpenSpec.ofChange spriteFindsSpec)

/-- ITS FALSE NEIGHBOUR: 'it returns false'. Refute it at one input. -/
def spriteFindsWrong : ChangeSpec := { name := "spriteFinds", fn := fun _ => fun
  | [d1, d2] => { results := [.lit (.bool false)], args := [d1, d2] }
  | _ => none }
def SpriteFindsWrongFalsely : Prop := spriteFindsRow.holds Try.pinned (OpenSpec.ofChange spriteFindsWrong)

/-- 'seepagelaw15.SpriteRows': WHATEVER THE INPUT: true; the input reads as it did. -/
def spriteRowsSpec : ChangeSpec := { name := "spriteRows", fn := fun _ => fun
  | [d1, d2] => { results := [.lit (.bool true)], args := [d1, d2] }
  | _ => none }
def spriteRowsRow : OpenClaim := { program := "ytdmcmlajpajaaaa", sum := "4c0e1073fd7d4b7a17e953cd269546501e3f98312383d73e42f18115aed4c308", func := "seepage/seepagelaw15.SpriteRows", spec := "spriteRows", unfollowed := true, recurses := true, apart := false }
def SpriteRowsSaid : Prop := spriteRowsRow.holds Try.pinned (OpenSpec.ofChange spriteRowsSpec)

/-- ITS FALSE NEIGHBOUR: 'it returns false'. Refute it at one input. -/
def spriteRowsWrong : ChangeSpec := { name := "spriteRows", fn := fun _ => fun
  | [d1, d2] => { results := [.lit (.bool false)], args := [d1, d2] }
  | _ => none }
def SpriteRowsWrongFalsely : Prop := spriteRowsRow.holds Try.pinned (OpenSpec.ofChange spriteRowsWrong)

/-- 'seepagelaw15.SpriteEight': WHATEVER THE INPUT: true; the input reads as it did. -/
def spriteEightSpec : ChangeSpec := { name := "spriteEight", fn := fun _ => fun
  | [d] => { results := [.lit (.bool true)], args := [d] }
  | _ => none }
def spriteEightRow : OpenClaim := { program := "ytdmcmlajpajaaaa", sum := "4c0e1073fd7d4b7a17e953cd269546501e3f98312383d73e42f18115aed4c308", func := "seepage/seepagelaw15.SpriteEight", spec := "spriteEight", unfollowed := true, recurses := true, apart := false }
def SpriteEightSaid : Prop := spriteEightRow.holds Try.pinned (OpenSpec.ofChange spriteEightSpec)

/-- ITS FALSE NEIGHBOUR: 'it returns false'. Refute it at one input. -/
def spriteEightWrong : ChangeSpec := { name := "spriteEight", fn := fun _ => fun
  | [d] => { results := [.lit (.bool false)], args := [d] }
  | _ => none }
def SpriteEightWrongFalsely : Prop := spriteEightRow.holds Try.pinned (OpenSpec.ofChange spriteEightWrong)

/-- 'seepagelaw15.SpriteTells': WHATEVER THE INPUT: true; the input reads as it did. -/
def spriteTellsSpec : ChangeSpec := { name := "spriteTells", fn := fun _ => fun
  | [d1, d2] => { results := [.lit (.bool true)], args := [d1, d2] }
  | _ => none }
def spriteTellsRow : OpenClaim := { program := "ytdmcmlajpajaaaa", sum := "4c0e1073fd7d4b7a17e953cd269546501e3f98312383d73e42f18115aed4c308", func := "seepage/seepagelaw15.SpriteTells", spec := "spriteTells", unfollowed := true, recurses := true, apart := false }
def SpriteTellsSaid : Prop := spriteTellsRow.holds Try.pinned (OpenSpec.ofChange spriteTellsSpec)

/-- ITS FALSE NEIGHBOUR: 'it returns false'. Refute it at one input. -/
def spriteTellsWrong : ChangeSpec := { name := "spriteTells", fn := fun _ => fun
  | [d1, d2] => { results := [.lit (.bool false)], args := [d1, d2] }
  | _ => none }
def SpriteTellsWrongFalsely : Prop := spriteTellsRow.holds Try.pinned (OpenSpec.ofChange spriteTellsWrong)

/-- 'seepagelaw15.SpriteDots': WHATEVER THE INPUT: true; the input reads as it did. -/
def spriteDotsSpec : ChangeSpec := { name := "spriteDots", fn := fun _ => fun
  | [d1, d2] => { results := [.lit (.bool true)], args := [d1, d2] }
  | _ => none }
def spriteDotsRow : OpenClaim := { program := "ytdmcmlajpajaaaa", sum := "4c0e1073fd7d4b7a17e953cd269546501e3f98312383d73e42f18115aed4c308", func := "seepage/seepagelaw15.SpriteDots", spec := "spriteDots", unfollowed := true, recurses := true, apart := false }
def SpriteDotsSaid : Prop := spriteDotsRow.holds Try.pinned (OpenSpec.ofChange spriteDotsSpec)

/-- ITS FALSE NEIGHBOUR: 'it returns false'. Refute it at one input. -/
def spriteDotsWrong : ChangeSpec := { name := "spriteDots", fn := fun _ => fun
  | [d1, d2] => { results := [.lit (.bool false)], args := [d1, d2] }
  | _ => none }
def SpriteDotsWrongFalsely : Prop := spriteDotsRow.holds Try.pinned (OpenSpec.ofChange spriteDotsWrong)

/-- 'seepagelaw15.SpriteTurned': WHATEVER THE INPUT: true; the input reads as it did. -/
def spriteTurnedSpec : ChangeSpec := { name := "spriteTurned", fn := fun _ => fun
  | [d1, d2] => { results := [.lit (.bool true)], args := [d1, d2] }
  | _ => none }
def spriteTurnedRow : OpenClaim := { program := "ytdmcmlajpajaaaa", sum := "4c0e1073fd7d4b7a17e953cd269546501e3f98312383d73e42f18115aed4c308", func := "seepage/seepagelaw15.SpriteTurned", spec := "spriteTurned", unfollowed := true, recurses := true, apart := false }
def SpriteTurnedSaid : Prop := spriteTurnedRow.holds Try.pinned (OpenSpec.ofChange spriteTurnedSpec)

/-- ITS FALSE NEIGHBOUR: 'it returns false'. Refute it at one input. -/
def spriteTurnedWrong : ChangeSpec := { name := "spriteTurned", fn := fun _ => fun
  | [d1, d2] => { results := [.lit (.bool false)], args := [d1, d2] }
  | _ => none }
def SpriteTurnedWrongFalsely : Prop := spriteTurnedRow.holds Try.pinned (OpenSpec.ofChange spriteTurnedWrong)

/- THE SECOND FORM. 'bulk': how many values and letters a reading holds, each counted each time it is reached (what is shared counts as often as it is met; a slice's spare places count too). A statement '..UptoSaid' is the law's where the arguments, and the package variables that the reading takes, are together of bulk at most 1048576: NARROWER than '..Said'. Prove '..Said' where nothing that the law and all that it calls make is longer than what came in: it says more and counts as full. Else prove '..UptoSaid'. A law counts once. -/
mutual
def uptoBulk {H : Type} : DataW H → Nat
  | .lit (.string bytes) => bytes.length + 1
  | .lit _ => 1
  | .nil => 1
  | .ptr d => uptoBulk d + 1
  | .slice elems spare => uptoBulkAll elems + uptoBulkAll spare + 1
  | .agg parts => uptoBulkAll parts + 1
  | .iface _ d => uptoBulk d + 1
  | .map entries => uptoBulkEntries entries + 1
  | .held _ => 1
def uptoBulkAll {H : Type} : List (DataW H) → Nat
  | [] => 0
  | d :: r => uptoBulk d + uptoBulkAll r
def uptoBulkEntries {H : Type} : List (Lit × DataW H) → Nat
  | [] => 0
  | x :: r => uptoBulkEntry x + uptoBulkEntries r
def uptoBulkEntry {H : Type} : Lit × DataW H → Nat
  | (.string bytes, d) => bytes.length + uptoBulk d + 1
  | (_, d) => uptoBulk d + 1
 end
def uptoSmall : (H : Type) → List (DataW H) → Bool := fun _ ds => decide (uptoBulkAll ds ≤ 1048576)
def OpenSpec.upto (s : _root_.Go.ChangeSpec) : _root_.Go.OpenSpec := { _root_.Go.OpenSpec.ofChange s with cond := some uptoSmall }

/-- 'seepagelaw15.SpriteFinds', WHERE WHAT IT READS IS OF BULK AT MOST 1048576: true; the input reads as it did. -/
def spriteFindsUptoRow : OpenClaim := { program := "ytdmcmlajpajaaaa", sum := "4c0e1073fd7d4b7a17e953cd269546501e3f98312383d73e42f18115aed4c308", func := "seepage/seepagelaw15.SpriteFinds", spec := "spriteFinds", unfollowed := true, recurses := true, apart := false, narrowed := true }
def SpriteFindsUptoSaid : Prop := spriteFindsUptoRow.holds Try.pinned (OpenSpec.upto spriteFindsSpec)

/-- 'seepagelaw15.SpriteRows', WHERE WHAT IT READS IS OF BULK AT MOST 1048576: true; the input reads as it did. -/
def spriteRowsUptoRow : OpenClaim := { program := "ytdmcmlajpajaaaa", sum := "4c0e1073fd7d4b7a17e953cd269546501e3f98312383d73e42f18115aed4c308", func := "seepage/seepagelaw15.SpriteRows", spec := "spriteRows", unfollowed := true, recurses := true, apart := false, narrowed := true }
def SpriteRowsUptoSaid : Prop := spriteRowsUptoRow.holds Try.pinned (OpenSpec.upto spriteRowsSpec)

/-- 'seepagelaw15.SpriteEight', WHERE WHAT IT READS IS OF BULK AT MOST 1048576: true; the input reads as it did. -/
def spriteEightUptoRow : OpenClaim := { program := "ytdmcmlajpajaaaa", sum := "4c0e1073fd7d4b7a17e953cd269546501e3f98312383d73e42f18115aed4c308", func := "seepage/seepagelaw15.SpriteEight", spec := "spriteEight", unfollowed := true, recurses := true, apart := false, narrowed := true }
def SpriteEightUptoSaid : Prop := spriteEightUptoRow.holds Try.pinned (OpenSpec.upto spriteEightSpec)

/-- 'seepagelaw15.SpriteTells', WHERE WHAT IT READS IS OF BULK AT MOST 1048576: true; the input reads as it did. -/
def spriteTellsUptoRow : OpenClaim := { program := "ytdmcmlajpajaaaa", sum := "4c0e1073fd7d4b7a17e953cd269546501e3f98312383d73e42f18115aed4c308", func := "seepage/seepagelaw15.SpriteTells", spec := "spriteTells", unfollowed := true, recurses := true, apart := false, narrowed := true }
def SpriteTellsUptoSaid : Prop := spriteTellsUptoRow.holds Try.pinned (OpenSpec.upto spriteTellsSpec)

/-- 'seepagelaw15.SpriteDots', WHERE WHAT IT READS IS OF BULK AT MOST 1048576: true; the input reads as it did. -/
def spriteDotsUptoRow : OpenClaim := { program := "ytdmcmlajpajaaaa", sum := "4c0e1073fd7d4b7a17e953cd269546501e3f98312383d73e42f18115aed4c308", func := "seepage/seepagelaw15.SpriteDots", spec := "spriteDots", unfollowed := true, recurses := true, apart := false, narrowed := true }
def SpriteDotsUptoSaid : Prop := spriteDotsUptoRow.holds Try.pinned (OpenSpec.upto spriteDotsSpec)

/-- 'seepagelaw15.SpriteTurned', WHERE WHAT IT READS IS OF BULK AT MOST 1048576: true; the input reads as it did. -/
def spriteTurnedUptoRow : OpenClaim := { program := "ytdmcmlajpajaaaa", sum := "4c0e1073fd7d4b7a17e953cd269546501e3f98312383d73e42f18115aed4c308", func := "seepage/seepagelaw15.SpriteTurned", spec := "spriteTurned", unfollowed := true, recurses := true, apart := false, narrowed := true }
def SpriteTurnedUptoSaid : Prop := spriteTurnedUptoRow.holds Try.pinned (OpenSpec.upto spriteTurnedSpec)

end Rows
end Go.Proofs.Ytdmcmlajpajaaaa
