/-
  No cell of these rows narrows 'for every input' (looked for: loops, veiled, ifaces, maps, wideKeys, modest, calm, conditions, laid).
  DERIVED. THE GIVEN ROWS OF THIS SEAT. 6 by the template 'for every input the law returns true; each argument reads behind the call as it read before'; 0 by the template 'total and deterministic' (their statements: YtdgjenlejalgeaaTotals.lean).
  GIVEN WITH THE SEED: the statements are not yours to turn. If you find one false, say at which input.
  Laid BY PROGRAM, IN A SANDBOX (cutbox-rows.mjs): the forced cells as the released guide's own fill.sh prints them over the translation 10551bcf4c47d663… (all of the seat's roots in one cut). By AI agents, Wed Nov 11 2026. No macro, syntax, notation, axiom, sorry.
-/
import Derived.Test.YtdgjenlejalgeaaChecked
import GoSem.Claim
import GoSem.ClaimJoined
import GoSem.ClaimMapViews
import Derived.JoinedTies
import Derived.KernelRfl
namespace Go.Proofs.Ytdgjenlejalgeaa
/- THE CELL 'sum', in the pinned program and in every row, IS THE sha256 OF THE DUMP (.gsa) THAT YtdgjenlejalgeaaProg.lean LOADS. Nothing in Lean hashes anything: it is a label: what it is worth is what the hold of that sum in a sandbox is worth. -/
noncomputable def Try.pinned : Pinned := { name := "ytdgjenlejalgeaa", sum := "10551bcf4c47d663551d827bbb0f9f2bedd8f0106c2902bfb9266e8226e66920", checked := Try.checked }
namespace Rows
def none {H : Type} : Left H := { results := [], args := [] }

/-- 'seepagelaw08.AluFlags': WHATEVER THE INPUT: true; the input reads as it did. -/
def aluFlagsSpec : ChangeSpec := { name := "aluFlags", fn := fun _ => fun
  | [d] => { results := [.lit (.bool true)], args := [d] }
  | _ => none }
def aluFlagsRow : OpenClaim := { program := "ytdgjenlejalgeaa", sum := "10551bcf4c47d663551d827bbb0f9f2bedd8f0106c2902bfb9266e8226e66920", func := "seepage/seepagelaw08.AluFlags", spec := "aluFlags", unfollowed := true, recurses := true, apart := false }
def AluFlagsSaid : Prop := aluFlagsRow.holds Try.pinned (OpenSpec.ofChange aluFlagsSpec)

/-- ITS FALSE NEIGHBOUR: 'it returns false'. Refute it at one input. -/
def aluFlagsWrong : ChangeSpec := { name := "aluFlags", fn := fun _ => fun
  | [d] => { results := [.lit (.bool false)], args := [d] }
  | _ => none }
def AluFlagsWrongFalsely : Prop := aluFlagsRow.holds Try.pinned (OpenSpec.ofChange aluFlagsWrong)

/-- 'seepagelaw08.AluAdds': WHATEVER THE INPUT: true; the input reads as it did. -/
def aluAddsSpec : ChangeSpec := { name := "aluAdds", fn := fun _ => fun
  | [d] => { results := [.lit (.bool true)], args := [d] }
  | _ => none }
def aluAddsRow : OpenClaim := { program := "ytdgjenlejalgeaa", sum := "10551bcf4c47d663551d827bbb0f9f2bedd8f0106c2902bfb9266e8226e66920", func := "seepage/seepagelaw08.AluAdds", spec := "aluAdds", unfollowed := true, recurses := true, apart := false }
def AluAddsSaid : Prop := aluAddsRow.holds Try.pinned (OpenSpec.ofChange aluAddsSpec)

/-- ITS FALSE NEIGHBOUR: 'it returns false'. Refute it at one input. -/
def aluAddsWrong : ChangeSpec := { name := "aluAdds", fn := fun _ => fun
  | [d] => { results := [.lit (.bool false)], args := [d] }
  | _ => none }
def AluAddsWrongFalsely : Prop := aluAddsRow.holds Try.pinned (OpenSpec.ofChange aluAddsWrong)

/-- 'seepagelaw08.AluBack': WHATEVER THE INPUT: true; the input reads as it did. -/
def aluBackSpec : ChangeSpec := { name := "aluBack", fn := fun _ => fun
  | [d] => { results := [.lit (.bool true)], args := [d] }
  | _ => none }
def aluBackRow : OpenClaim := { program := "ytdgjenlejalgeaa", sum := "10551bcf4c47d663551d827bbb0f9f2bedd8f0106c2902bfb9266e8226e66920", func := "seepage/seepagelaw08.AluBack", spec := "aluBack", unfollowed := true, recurses := true, apart := false }
def AluBackSaid : Prop := aluBackRow.holds Try.pinned (OpenSpec.ofChange aluBackSpec)

/-- ITS FALSE NEIGHBOUR: 'it returns false'. Refute it at one input. -/
def aluBackWrong : ChangeSpec := { name := "aluBack", fn := fun _ => fun
  | [d] => { results := [.lit (.bool false)], args := [d] }
  | _ => none }
def AluBackWrongFalsely : Prop := aluBackRow.holds Try.pinned (OpenSpec.ofChange aluBackWrong)

/-- 'seepagelaw08.AluShifts': WHATEVER THE INPUT: true; the input reads as it did. -/
def aluShiftsSpec : ChangeSpec := { name := "aluShifts", fn := fun _ => fun
  | [d] => { results := [.lit (.bool true)], args := [d] }
  | _ => none }
def aluShiftsRow : OpenClaim := { program := "ytdgjenlejalgeaa", sum := "10551bcf4c47d663551d827bbb0f9f2bedd8f0106c2902bfb9266e8226e66920", func := "seepage/seepagelaw08.AluShifts", spec := "aluShifts", unfollowed := true, recurses := true, apart := false }
def AluShiftsSaid : Prop := aluShiftsRow.holds Try.pinned (OpenSpec.ofChange aluShiftsSpec)

/-- ITS FALSE NEIGHBOUR: 'it returns false'. Refute it at one input. -/
def aluShiftsWrong : ChangeSpec := { name := "aluShifts", fn := fun _ => fun
  | [d] => { results := [.lit (.bool false)], args := [d] }
  | _ => none }
def AluShiftsWrongFalsely : Prop := aluShiftsRow.holds Try.pinned (OpenSpec.ofChange aluShiftsWrong)

/-- 'seepagelaw08.AluAlike': WHATEVER THE INPUT: true; the input reads as it did. -/
def aluAlikeSpec : ChangeSpec := { name := "aluAlike", fn := fun _ => fun
  | [d] => { results := [.lit (.bool true)], args := [d] }
  | _ => none }
def aluAlikeRow : OpenClaim := { program := "ytdgjenlejalgeaa", sum := "10551bcf4c47d663551d827bbb0f9f2bedd8f0106c2902bfb9266e8226e66920", func := "seepage/seepagelaw08.AluAlike", spec := "aluAlike", unfollowed := true, recurses := true, apart := false }
def AluAlikeSaid : Prop := aluAlikeRow.holds Try.pinned (OpenSpec.ofChange aluAlikeSpec)

/-- ITS FALSE NEIGHBOUR: 'it returns false'. Refute it at one input. -/
def aluAlikeWrong : ChangeSpec := { name := "aluAlike", fn := fun _ => fun
  | [d] => { results := [.lit (.bool false)], args := [d] }
  | _ => none }
def AluAlikeWrongFalsely : Prop := aluAlikeRow.holds Try.pinned (OpenSpec.ofChange aluAlikeWrong)

/-- 'seepagelaw08.AluErased': WHATEVER THE INPUT: true; the input reads as it did. -/
def aluErasedSpec : ChangeSpec := { name := "aluErased", fn := fun _ => fun
  | [d] => { results := [.lit (.bool true)], args := [d] }
  | _ => none }
def aluErasedRow : OpenClaim := { program := "ytdgjenlejalgeaa", sum := "10551bcf4c47d663551d827bbb0f9f2bedd8f0106c2902bfb9266e8226e66920", func := "seepage/seepagelaw08.AluErased", spec := "aluErased", unfollowed := true, recurses := true, apart := false }
def AluErasedSaid : Prop := aluErasedRow.holds Try.pinned (OpenSpec.ofChange aluErasedSpec)

/-- ITS FALSE NEIGHBOUR: 'it returns false'. Refute it at one input. -/
def aluErasedWrong : ChangeSpec := { name := "aluErased", fn := fun _ => fun
  | [d] => { results := [.lit (.bool false)], args := [d] }
  | _ => none }
def AluErasedWrongFalsely : Prop := aluErasedRow.holds Try.pinned (OpenSpec.ofChange aluErasedWrong)

/- THE SECOND FORM. 'bulk': how many values and letters a reading holds, each counted each time it is reached (what is shared counts as often as it is met; a slice's spare places count too). A statement '..UptoSaid' is the law's where the arguments, and the package variables that the reading takes, are together of bulk at most 1048576: NARROWER than '..Said'. Prove '..Said' where nothing that the law and all that it calls make is longer than what came in: it says more and counts as full. Else prove '..UptoSaid'. A law counts once. -/
mutual
def uptoBulk {H : Type} : DataW H → Nat
  | .lit (.string bytes) => bytes.length + 1
  | .lit _ => 1
  | .nil => 1
  | .ptr d => uptoBulk d + 1
  | .slice elems spare => uptoBulkAll elems + uptoBulkAll spare + 1
  | .agg parts => uptoBulkAll parts + 1
  | .iface _ d => uptoBulk d + 1
  | .map entries => uptoBulkEntries entries + 1
  | .held _ => 1
def uptoBulkAll {H : Type} : List (DataW H) → Nat
  | [] => 0
  | d :: r => uptoBulk d + uptoBulkAll r
def uptoBulkEntries {H : Type} : List (Lit × DataW H) → Nat
  | [] => 0
  | x :: r => uptoBulkEntry x + uptoBulkEntries r
def uptoBulkEntry {H : Type} : Lit × DataW H → Nat
  | (.string bytes, d) => bytes.length + uptoBulk d + 1
  | (_, d) => uptoBulk d + 1
 end
def uptoSmall : (H : Type) → List (DataW H) → Bool := fun _ ds => decide (uptoBulkAll ds ≤ 1048576)
def OpenSpec.upto (s : _root_.Go.ChangeSpec) : _root_.Go.OpenSpec := { _root_.Go.OpenSpec.ofChange s with cond := some uptoSmall }

/-- 'seepagelaw08.AluFlags', WHERE WHAT IT READS IS OF BULK AT MOST 1048576: true; the input reads as it did. -/
def aluFlagsUptoRow : OpenClaim := { program := "ytdgjenlejalgeaa", sum := "10551bcf4c47d663551d827bbb0f9f2bedd8f0106c2902bfb9266e8226e66920", func := "seepage/seepagelaw08.AluFlags", spec := "aluFlags", unfollowed := true, recurses := true, apart := false, narrowed := true }
def AluFlagsUptoSaid : Prop := aluFlagsUptoRow.holds Try.pinned (OpenSpec.upto aluFlagsSpec)

/-- 'seepagelaw08.AluAdds', WHERE WHAT IT READS IS OF BULK AT MOST 1048576: true; the input reads as it did. -/
def aluAddsUptoRow : OpenClaim := { program := "ytdgjenlejalgeaa", sum := "10551bcf4c47d663551d827bbb0f9f2bedd8f0106c2902bfb9266e8226e66920", func := "seepage/seepagelaw08.AluAdds", spec := "aluAdds", unfollowed := true, recurses := true, apart := false, narrowed := true }
def AluAddsUptoSaid : Prop := aluAddsUptoRow.holds Try.pinned (OpenSpec.upto aluAddsSpec)

/-- 'seepagelaw08.AluBack', WHERE WHAT IT READS IS OF BULK AT MOST 1048576: true; the input reads as it did. -/
def aluBackUptoRow : OpenClaim := { program := "ytdgjenlejalgeaa", sum := "10551bcf4c47d663551d827bbb0f9f2bedd8f0106c2902bfb9266e8226e66920", func := "seepage/seepagelaw08.AluBack", spec := "aluBack", unfollowed := true, recurses := true, apart := false, narrowed := true }
def AluBackUptoSaid : Prop := aluBackUptoRow.holds Try.pinned (OpenSpec.upto aluBackSpec)

/-- 'seepagelaw08.AluShifts', WHERE WHAT IT READS IS OF BULK AT MOST 1048576: true; the input reads as it did. -/
def aluShiftsUptoRow : OpenClaim := { program := "ytdgjenlejalgeaa", sum := "10551bcf4c47d663551d827bbb0f9f2bedd8f0106c2902bfb9266e8226e66920", func := "seepage/seepagelaw08.AluShifts", spec := "aluShifts", unfollowed := true, recurses := true, apart := false, narrowed := true }
def AluShiftsUptoSaid : Prop := aluShiftsUptoRow.holds Try.pinned (OpenSpec.upto aluShiftsSpec)

/-- 'seepagelaw08.AluAlike', WHERE WHAT IT READS IS OF BULK AT MOST 1048576: true; the input reads as it did. -/
def aluAlikeUptoRow : OpenClaim := { program := "ytdgjenlejalgeaa", sum := "10551bcf4c47d663551d827bbb0f9f2bedd8f0106c2902bfb9266e8226e66920", func := "seepage/seepagelaw08.AluAlike", spec := "aluAlike", unfollowed := true, recurses := true, apart := false, narrowed := true }
def AluAlikeUptoSaid : Prop := aluAlikeUptoRow.holds Try.pinned (OpenSpec.upto aluAlikeSpec)

/-- 'seepagelaw08.AluErased', WHERE WHAT IT READS IS OF BULK AT MOST 1048576: true; the input reads as it did. -/
def aluErasedUptoRow : OpenClaim := { program := "ytdgjenlejalgeaa", sum := "10551bcf4c47d663551d827bbb0f9f2bedd8f0106c2902bfb9266e8226e66920", func := "seepage/seepagelaw08.AluErased", spec := "aluErased", unfollowed := true, recurses := true, apart := false, narrowed := true }
def AluErasedUptoSaid : Prop := aluErasedUptoRow.holds Try.pinned (OpenSpec.upto aluErasedSpec)

end Rows
end Go.Proofs.Ytdgjenlejalgeaa
