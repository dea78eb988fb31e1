/-
  No cell of these rows narrows 'for every input' (looked for: loops, veiled, ifaces, maps, wideKeys, modest, calm, conditions, laid).
  DERIVED. THE GIVEN ROWS OF THIS SEAT. 6 by the template 'for every input the law returns true; each argument reads behind the call as it read before'; 0 by the template 'total and deterministic' (their statements: YtnakkaaobhpcjaaTotals.lean).
  GIVEN WITH THE SEED: the statements are not yours to turn. If you find one false, say at which input.
  Laid BY PROGRAM, IN A SANDBOX (cutbox-rows.mjs): the forced cells as the released guide's own fill.sh prints them over the translation a03da8df0e1af61c… (all of the seat's roots in one cut). By AI agents, Wed Nov 11 2026. No macro, syntax, notation, axiom, sorry.
-/
import Derived.Test.YtnakkaaobhpcjaaChecked
import GoSem.Claim
import GoSem.ClaimJoined
import GoSem.ClaimMapViews
import Derived.JoinedTies
import Derived.KernelRfl
namespace Go.Proofs.Ytnakkaaobhpcjaa
/- THE CELL 'sum', in the pinned program and in every row, IS THE sha256 OF THE DUMP (.gsa) THAT YtnakkaaobhpcjaaProg.lean LOADS. Nothing in Lean hashes anything: it is a label: what it is worth is what the hold of that sum in a sandbox is worth. -/
noncomputable def Try.pinned : Pinned := { name := "ytnakkaaobhpcjaa", sum := "a03da8df0e1af61c45795e9e108e6f6baf0c0f7d83c8adbe93740d96762fda32", checked := Try.checked }
namespace Rows
def none {H : Type} : Left H := { results := [], args := [] }

/-- 'seepagelaw07.BankLast': WHATEVER THE INPUT: true; the input reads as it did. -/
def bankLastSpec : ChangeSpec := { name := "bankLast", fn := fun _ => fun
  | [d1, d2] => { results := [.lit (.bool true)], args := [d1, d2] }
  | _ => none }
def bankLastRow : OpenClaim := { program := "ytnakkaaobhpcjaa", sum := "a03da8df0e1af61c45795e9e108e6f6baf0c0f7d83c8adbe93740d96762fda32", func := "seepage/seepagelaw07.BankLast", spec := "bankLast", apart := false }
def BankLastSaid : Prop := bankLastRow.holds Try.pinned (OpenSpec.ofChange bankLastSpec)

/-- ITS FALSE NEIGHBOUR: 'it returns false'. Refute it at one input. -/
def bankLastWrong : ChangeSpec := { name := "bankLast", fn := fun _ => fun
  | [d1, d2] => { results := [.lit (.bool false)], args := [d1, d2] }
  | _ => none }
def BankLastWrongFalsely : Prop := bankLastRow.holds Try.pinned (OpenSpec.ofChange bankLastWrong)

/-- 'seepagelaw07.BankTells': WHATEVER THE INPUT: true; the input reads as it did. -/
def bankTellsSpec : ChangeSpec := { name := "bankTells", fn := fun _ => fun
  | [d] => { results := [.lit (.bool true)], args := [d] }
  | _ => none }
def bankTellsRow : OpenClaim := { program := "ytnakkaaobhpcjaa", sum := "a03da8df0e1af61c45795e9e108e6f6baf0c0f7d83c8adbe93740d96762fda32", func := "seepage/seepagelaw07.BankTells", spec := "bankTells", apart := false }
def BankTellsSaid : Prop := bankTellsRow.holds Try.pinned (OpenSpec.ofChange bankTellsSpec)

/-- ITS FALSE NEIGHBOUR: 'it returns false'. Refute it at one input. -/
def bankTellsWrong : ChangeSpec := { name := "bankTells", fn := fun _ => fun
  | [d] => { results := [.lit (.bool false)], args := [d] }
  | _ => none }
def BankTellsWrongFalsely : Prop := bankTellsRow.holds Try.pinned (OpenSpec.ofChange bankTellsWrong)

/-- 'seepagelaw07.BankWithin': WHATEVER THE INPUT: true; the input reads as it did. -/
def bankWithinSpec : ChangeSpec := { name := "bankWithin", fn := fun _ => fun
  | [d] => { results := [.lit (.bool true)], args := [d] }
  | _ => none }
def bankWithinRow : OpenClaim := { program := "ytnakkaaobhpcjaa", sum := "a03da8df0e1af61c45795e9e108e6f6baf0c0f7d83c8adbe93740d96762fda32", func := "seepage/seepagelaw07.BankWithin", spec := "bankWithin", apart := false }
def BankWithinSaid : Prop := bankWithinRow.holds Try.pinned (OpenSpec.ofChange bankWithinSpec)

/-- ITS FALSE NEIGHBOUR: 'it returns false'. Refute it at one input. -/
def bankWithinWrong : ChangeSpec := { name := "bankWithin", fn := fun _ => fun
  | [d] => { results := [.lit (.bool false)], args := [d] }
  | _ => none }
def BankWithinWrongFalsely : Prop := bankWithinRow.holds Try.pinned (OpenSpec.ofChange bankWithinWrong)

/-- 'seepagelaw07.BankFollows': WHATEVER THE INPUT: true; the input reads as it did. -/
def bankFollowsSpec : ChangeSpec := { name := "bankFollows", fn := fun _ => fun
  | [d] => { results := [.lit (.bool true)], args := [d] }
  | _ => none }
def bankFollowsRow : OpenClaim := { program := "ytnakkaaobhpcjaa", sum := "a03da8df0e1af61c45795e9e108e6f6baf0c0f7d83c8adbe93740d96762fda32", func := "seepage/seepagelaw07.BankFollows", spec := "bankFollows", apart := false }
def BankFollowsSaid : Prop := bankFollowsRow.holds Try.pinned (OpenSpec.ofChange bankFollowsSpec)

/-- ITS FALSE NEIGHBOUR: 'it returns false'. Refute it at one input. -/
def bankFollowsWrong : ChangeSpec := { name := "bankFollows", fn := fun _ => fun
  | [d] => { results := [.lit (.bool false)], args := [d] }
  | _ => none }
def BankFollowsWrongFalsely : Prop := bankFollowsRow.holds Try.pinned (OpenSpec.ofChange bankFollowsWrong)

/-- 'seepagelaw07.BankRegisters': WHATEVER THE INPUT: true; the input reads as it did. -/
def bankRegistersSpec : ChangeSpec := { name := "bankRegisters", fn := fun _ => fun
  | [d1, d2] => { results := [.lit (.bool true)], args := [d1, d2] }
  | _ => none }
def bankRegistersRow : OpenClaim := { program := "ytnakkaaobhpcjaa", sum := "a03da8df0e1af61c45795e9e108e6f6baf0c0f7d83c8adbe93740d96762fda32", func := "seepage/seepagelaw07.BankRegisters", spec := "bankRegisters", apart := false }
def BankRegistersSaid : Prop := bankRegistersRow.holds Try.pinned (OpenSpec.ofChange bankRegistersSpec)

/-- ITS FALSE NEIGHBOUR: 'it returns false'. Refute it at one input. -/
def bankRegistersWrong : ChangeSpec := { name := "bankRegisters", fn := fun _ => fun
  | [d1, d2] => { results := [.lit (.bool false)], args := [d1, d2] }
  | _ => none }
def BankRegistersWrongFalsely : Prop := bankRegistersRow.holds Try.pinned (OpenSpec.ofChange bankRegistersWrong)

/-- 'seepagelaw07.BankReaches': WHATEVER THE INPUT: true; the input reads as it did. -/
def bankReachesSpec : ChangeSpec := { name := "bankReaches", fn := fun _ => fun
  | [d1, d2] => { results := [.lit (.bool true)], args := [d1, d2] }
  | _ => none }
def bankReachesRow : OpenClaim := { program := "ytnakkaaobhpcjaa", sum := "a03da8df0e1af61c45795e9e108e6f6baf0c0f7d83c8adbe93740d96762fda32", func := "seepage/seepagelaw07.BankReaches", spec := "bankReaches", apart := false }
def BankReachesSaid : Prop := bankReachesRow.holds Try.pinned (OpenSpec.ofChange bankReachesSpec)

/-- ITS FALSE NEIGHBOUR: 'it returns false'. Refute it at one input. -/
def bankReachesWrong : ChangeSpec := { name := "bankReaches", fn := fun _ => fun
  | [d1, d2] => { results := [.lit (.bool false)], args := [d1, d2] }
  | _ => none }
def BankReachesWrongFalsely : Prop := bankReachesRow.holds Try.pinned (OpenSpec.ofChange bankReachesWrong)

/- THE SECOND FORM. 'bulk': how many values and letters a reading holds, each counted each time it is reached (what is shared counts as often as it is met; a slice's spare places count too). A statement '..UptoSaid' is the law's where the arguments, and the package variables that the reading takes, are together of bulk at most 1048576: NARROWER than '..Said'. Prove '..Said' where nothing that the law and all that it calls make is longer than what came in: it says more and counts as full. Else prove '..UptoSaid'. A law counts once. -/
mutual
def uptoBulk {H : Type} : DataW H → Nat
  | .lit (.string bytes) => bytes.length + 1
  | .lit _ => 1
  | .nil => 1
  | .ptr d => uptoBulk d + 1
  | .slice elems spare => uptoBulkAll elems + uptoBulkAll spare + 1
  | .agg parts => uptoBulkAll parts + 1
  | .iface _ d => uptoBulk d + 1
  | .map entries => uptoBulkEntries entries + 1
  | .held _ => 1
def uptoBulkAll {H : Type} : List (DataW H) → Nat
  | [] => 0
  | d :: r => uptoBulk d + uptoBulkAll r
def uptoBulkEntries {H : Type} : List (Lit × DataW H) → Nat
  | [] => 0
  | x :: r => uptoBulkEntry x + uptoBulkEntries r
def uptoBulkEntry {H : Type} : Lit × DataW H → Nat
  | (.string bytes, d) => bytes.length + uptoBulk d + 1
  | (_, d) => uptoBulk d + 1
 end
def uptoSmall : (H : Type) → List (DataW H) → Bool := fun _ ds => decide (uptoBulkAll ds ≤ 1048576)
def OpenSpec.upto (s : _root_.Go.ChangeSpec) : _root_.Go.OpenSpec := { _root_.Go.OpenSpec.ofChange s with cond := some uptoSmall }

/-- 'seepagelaw07.BankLast', WHERE WHAT IT READS IS OF BULK AT MOST 1048576: true; the input reads as it did. -/
def bankLastUptoRow : OpenClaim := { program := "ytnakkaaobhpcjaa", sum := "a03da8df0e1af61c45795e9e108e6f6baf0c0f7d83c8adbe93740d96762fda32", func := "seepage/seepagelaw07.BankLast", spec := "bankLast", apart := false, narrowed := true }
def BankLastUptoSaid : Prop := bankLastUptoRow.holds Try.pinned (OpenSpec.upto bankLastSpec)

/-- 'seepagelaw07.BankTells', WHERE WHAT IT READS IS OF BULK AT MOST 1048576: true; the input reads as it did. -/
def bankTellsUptoRow : OpenClaim := { program := "ytnakkaaobhpcjaa", sum := "a03da8df0e1af61c45795e9e108e6f6baf0c0f7d83c8adbe93740d96762fda32", func := "seepage/seepagelaw07.BankTells", spec := "bankTells", apart := false, narrowed := true }
def BankTellsUptoSaid : Prop := bankTellsUptoRow.holds Try.pinned (OpenSpec.upto bankTellsSpec)

/-- 'seepagelaw07.BankWithin', WHERE WHAT IT READS IS OF BULK AT MOST 1048576: true; the input reads as it did. -/
def bankWithinUptoRow : OpenClaim := { program := "ytnakkaaobhpcjaa", sum := "a03da8df0e1af61c45795e9e108e6f6baf0c0f7d83c8adbe93740d96762fda32", func := "seepage/seepagelaw07.BankWithin", spec := "bankWithin", apart := false, narrowed := true }
def BankWithinUptoSaid : Prop := bankWithinUptoRow.holds Try.pinned (OpenSpec.upto bankWithinSpec)

/-- 'seepagelaw07.BankFollows', WHERE WHAT IT READS IS OF BULK AT MOST 1048576: true; the input reads as it did. -/
def bankFollowsUptoRow : OpenClaim := { program := "ytnakkaaobhpcjaa", sum := "a03da8df0e1af61c45795e9e108e6f6baf0c0f7d83c8adbe93740d96762fda32", func := "seepage/seepagelaw07.BankFollows", spec := "bankFollows", apart := false, narrowed := true }
def BankFollowsUptoSaid : Prop := bankFollowsUptoRow.holds Try.pinned (OpenSpec.upto bankFollowsSpec)

/-- 'seepagelaw07.BankRegisters', WHERE WHAT IT READS IS OF BULK AT MOST 1048576: true; the input reads as it did. -/
def bankRegistersUptoRow : OpenClaim := { program := "ytnakkaaobhpcjaa", sum := "a03da8df0e1af61c45795e9e108e6f6baf0c0f7d83c8adbe93740d96762fda32", func := "seepage/seepagelaw07.BankRegisters", spec := "bankRegisters", apart := false, narrowed := true }
def BankRegistersUptoSaid : Prop := bankRegistersUptoRow.holds Try.pinned (OpenSpec.upto bankRegistersSpec)

/-- 'seepagelaw07.BankReaches', WHERE WHAT IT READS IS OF BULK AT MOST 1048576: true; the input reads as it did. -/
def bankReachesUptoRow : OpenClaim := { program := "ytnakkaaobhpcjaa", sum := "a03da8df0e1af61c45795e9e108e6f6baf0c0f7d83c8adbe93740d96762fda32", func := "seepage/seepagelaw07.BankReaches", spec := "bankReaches", apart := false, narrowed := true }
def BankReachesUptoSaid : Prop := bankReachesUptoRow.holds Try.pinned (OpenSpec.upto bankReachesSpec)

end Rows
end Go.Proofs.Ytnakkaaobhpcjaa
