/-
  No cell of these rows narrows 'for every input' (looked for: loops, veiled, ifaces, maps, wideKeys, modest, calm, conditions, laid).
  DERIVED. THE GIVEN ROWS OF THIS SEAT. 5 by the template 'for every input the law returns true; each argument reads behind the call as it read before'; 0 by the template 'total and deterministic' (their statements: YtaabkgkhjmmleaaTotals.lean).
  GIVEN WITH THE SEED: the statements are not yours to turn. If you find one false, say at which input.
  Laid BY PROGRAM, IN A SANDBOX (cutbox-rows.mjs): the forced cells as the released guide's own fill.sh prints them over the translation 61a0d4461be06431… (all of the seat's roots in one cut). By AI agents, Wed Nov 11 2026. No macro, syntax, notation, axiom, sorry.
-/
import Derived.Test.YtaabkgkhjmmleaaChecked
import GoSem.Claim
import GoSem.ClaimJoined
import GoSem.ClaimMapViews
import Derived.JoinedTies
import Derived.KernelRfl
namespace Go.Proofs.Ytaabkgkhjmmleaa
/- THE CELL 'sum', in the pinned program and in every row, IS THE sha256 OF THE DUMP (.gsa) THAT YtaabkgkhjmmleaaProg.lean LOADS. Nothing in Lean hashes anything: it is a label: what it is worth is what the hold of that sum in a sandbox is worth. -/
noncomputable def Try.pinned : Pinned := { name := "ytaabkgkhjmmleaa", sum := "61a0d4461be06431d1f915d2affc70fdca9941528a26258b12c960a6e7e37517", checked := Try.checked }
namespace Rows
def none {H : Type} : Left H := { results := [], args := [] }

/-- 'seepagelaw16.PixelPlaces': WHATEVER THE INPUT: true; the input reads as it did. -/
def pixelPlacesSpec : ChangeSpec := { name := "pixelPlaces", fn := fun _ => fun
  | [d] => { results := [.lit (.bool true)], args := [d] }
  | _ => none }
def pixelPlacesRow : OpenClaim := { program := "ytaabkgkhjmmleaa", sum := "61a0d4461be06431d1f915d2affc70fdca9941528a26258b12c960a6e7e37517", func := "seepage/seepagelaw16.PixelPlaces", spec := "pixelPlaces", unfollowed := true, recurses := true, apart := false }
def PixelPlacesSaid : Prop := pixelPlacesRow.holds Try.pinned (OpenSpec.ofChange pixelPlacesSpec)

/-- ITS FALSE NEIGHBOUR: 'it returns false'. Refute it at one input. -/
def pixelPlacesWrong : ChangeSpec := { name := "pixelPlaces", fn := fun _ => fun
  | [d] => { results := [.lit (.bool false)], args := [d] }
  | _ => none }
def PixelPlacesWrongFalsely : Prop := pixelPlacesRow.holds Try.pinned (OpenSpec.ofChange pixelPlacesWrong)

/-- 'seepagelaw16.PixelSecrets': WHATEVER THE INPUT: true; the input reads as it did. -/
def pixelSecretsSpec : ChangeSpec := { name := "pixelSecrets", fn := fun _ => fun
  | [d1, d2, d3] => { results := [.lit (.bool true)], args := [d1, d2, d3] }
  | _ => none }
def pixelSecretsRow : OpenClaim := { program := "ytaabkgkhjmmleaa", sum := "61a0d4461be06431d1f915d2affc70fdca9941528a26258b12c960a6e7e37517", func := "seepage/seepagelaw16.PixelSecrets", spec := "pixelSecrets", unfollowed := true, recurses := true, apart := false }
def PixelSecretsSaid : Prop := pixelSecretsRow.holds Try.pinned (OpenSpec.ofChange pixelSecretsSpec)

/-- ITS FALSE NEIGHBOUR: 'it returns false'. Refute it at one input. -/
def pixelSecretsWrong : ChangeSpec := { name := "pixelSecrets", fn := fun _ => fun
  | [d1, d2, d3] => { results := [.lit (.bool false)], args := [d1, d2, d3] }
  | _ => none }
def PixelSecretsWrongFalsely : Prop := pixelSecretsRow.holds Try.pinned (OpenSpec.ofChange pixelSecretsWrong)

/-- 'seepagelaw16.PixelGrey': WHATEVER THE INPUT: true; the input reads as it did. -/
def pixelGreySpec : ChangeSpec := { name := "pixelGrey", fn := fun _ => fun
  | [d1, d2] => { results := [.lit (.bool true)], args := [d1, d2] }
  | _ => none }
def pixelGreyRow : OpenClaim := { program := "ytaabkgkhjmmleaa", sum := "61a0d4461be06431d1f915d2affc70fdca9941528a26258b12c960a6e7e37517", func := "seepage/seepagelaw16.PixelGrey", spec := "pixelGrey", unfollowed := true, recurses := true, apart := false }
def PixelGreySaid : Prop := pixelGreyRow.holds Try.pinned (OpenSpec.ofChange pixelGreySpec)

/-- ITS FALSE NEIGHBOUR: 'it returns false'. Refute it at one input. -/
def pixelGreyWrong : ChangeSpec := { name := "pixelGrey", fn := fun _ => fun
  | [d1, d2] => { results := [.lit (.bool false)], args := [d1, d2] }
  | _ => none }
def PixelGreyWrongFalsely : Prop := pixelGreyRow.holds Try.pinned (OpenSpec.ofChange pixelGreyWrong)

/-- 'seepagelaw16.PixelColumns': WHATEVER THE INPUT: true; the input reads as it did. -/
def pixelColumnsSpec : ChangeSpec := { name := "pixelColumns", fn := fun _ => fun
  | [d1, d2, d3] => { results := [.lit (.bool true)], args := [d1, d2, d3] }
  | _ => none }
def pixelColumnsRow : OpenClaim := { program := "ytaabkgkhjmmleaa", sum := "61a0d4461be06431d1f915d2affc70fdca9941528a26258b12c960a6e7e37517", func := "seepage/seepagelaw16.PixelColumns", spec := "pixelColumns", unfollowed := true, recurses := true, apart := false }
def PixelColumnsSaid : Prop := pixelColumnsRow.holds Try.pinned (OpenSpec.ofChange pixelColumnsSpec)

/-- ITS FALSE NEIGHBOUR: 'it returns false'. Refute it at one input. -/
def pixelColumnsWrong : ChangeSpec := { name := "pixelColumns", fn := fun _ => fun
  | [d1, d2, d3] => { results := [.lit (.bool false)], args := [d1, d2, d3] }
  | _ => none }
def PixelColumnsWrongFalsely : Prop := pixelColumnsRow.holds Try.pinned (OpenSpec.ofChange pixelColumnsWrong)

/-- 'seepagelaw16.PixelTells': WHATEVER THE INPUT: true; the input reads as it did. -/
def pixelTellsSpec : ChangeSpec := { name := "pixelTells", fn := fun _ => fun
  | [d1, d2] => { results := [.lit (.bool true)], args := [d1, d2] }
  | _ => none }
def pixelTellsRow : OpenClaim := { program := "ytaabkgkhjmmleaa", sum := "61a0d4461be06431d1f915d2affc70fdca9941528a26258b12c960a6e7e37517", func := "seepage/seepagelaw16.PixelTells", spec := "pixelTells", unfollowed := true, recurses := true, apart := false }
def PixelTellsSaid : Prop := pixelTellsRow.holds Try.pinned (OpenSpec.ofChange pixelTellsSpec)

/-- ITS FALSE NEIGHBOUR: 'it returns false'. Refute it at one input. -/
def pixelTellsWrong : ChangeSpec := { name := "pixelTells", fn := fun _ => fun
  | [d1, d2] => { results := [.lit (.bool false)], args := [d1, d2] }
  | _ => none }
def PixelTellsWrongFalsely : Prop := pixelTellsRow.holds Try.pinned (OpenSpec.ofChange pixelTellsWrong)

/- THE SECOND FORM. 'bulk': how many values and letters a reading holds, each counted each time it is reached (what is shared counts as often as it is met; a slice's spare places count too). A statement '..UptoSaid' is the law's where the arguments, and the package variables that the reading takes, are together of bulk at most 1048576: NARROWER than '..Said'. Prove '..Said' where nothing that the law and all that it calls make is longer than what came in: it says more and counts as full. Else prove '..UptoSaid'. A law counts once. -/
mutual
def uptoBulk {H : Type} : DataW H → Nat
  | .lit (.string bytes) => bytes.length + 1
  | .lit _ => 1
  | .nil => 1
  | .ptr d => uptoBulk d + 1
  | .slice elems spare => uptoBulkAll elems + uptoBulkAll spare + 1
  | .agg parts => uptoBulkAll parts + 1
  | .iface _ d => uptoBulk d + 1
  | .map entries => uptoBulkEntries entries + 1
  | .held _ => 1
def uptoBulkAll {H : Type} : List (DataW H) → Nat
  | [] => 0
  | d :: r => uptoBulk d + uptoBulkAll r
def uptoBulkEntries {H : Type} : List (Lit × DataW H) → Nat
  | [] => 0
  | x :: r => uptoBulkEntry x + uptoBulkEntries r
def uptoBulkEntry {H : Type} : Lit × DataW H → Nat
  | (.string bytes, d) => bytes.length + uptoBulk d + 1
  | (_, d) => uptoBulk d + 1
 end
def uptoSmall : (H : Type) → List (DataW H) → Bool := fun _ ds => decide (uptoBulkAll ds ≤ 1048576)
def OpenSpec.upto (s : _root_.Go.ChangeSpec) : _root_.Go.OpenSpec := { _root_.Go.OpenSpec.ofChange s with cond := some uptoSmall }

/-- 'seepagelaw16.PixelPlaces', WHERE WHAT IT READS IS OF BULK AT MOST 1048576: true; the input reads as it did. -/
def pixelPlacesUptoRow : OpenClaim := { program := "ytaabkgkhjmmleaa", sum := "61a0d4461be06431d1f915d2affc70fdca9941528a26258b12c960a6e7e37517", func := "seepage/seepagelaw16.PixelPlaces", spec := "pixelPlaces", unfollowed := true, recurses := true, apart := false, narrowed := true }
def PixelPlacesUptoSaid : Prop := pixelPlacesUptoRow.holds Try.pinned (OpenSpec.upto pixelPlacesSpec)

/-- 'seepagelaw16.PixelSecrets', WHERE WHAT IT READS IS OF BULK AT MOST 1048576: true; the input reads as it did. -/
def pixelSecretsUptoRow : OpenClaim := { program := "ytaabkgkhjmmleaa", sum := "61a0d4461be06431d1f915d2affc70fdca9941528a26258b12c960a6e7e37517", func := "seepage/seepagelaw16.PixelSecrets", spec := "pixelSecrets", unfollowed := true, recurses := true, apart := false, narrowed := true }
def PixelSecretsUptoSaid : Prop := pixelSecretsUptoRow.holds Try.pinned (OpenSpec.upto pixelSecretsSpec)

/-- 'seepagelaw16.PixelGrey', WHERE WHAT IT READS IS OF BULK AT MOST 1048576: true; the input reads as it did. -/
def pixelGreyUptoRow : OpenClaim := { program := "ytaabkgkhjmmleaa", sum := "61a0d4461be06431d1f915d2affc70fdca9941528a26258b12c960a6e7e37517", func := "seepage/seepagelaw16.PixelGrey", spec := "pixelGrey", unfollowed := true, recurses := true, apart := false, narrowed := true }
def PixelGreyUptoSaid : Prop := pixelGreyUptoRow.holds Try.pinned (OpenSpec.upto pixelGreySpec)

/-- 'seepagelaw16.PixelColumns', WHERE WHAT IT READS IS OF BULK AT MOST 1048576: true; the input reads as it did. -/
def pixelColumnsUptoRow : OpenClaim := { program := "ytaabkgkhjmmleaa", sum := "61a0d4461be06431d1f915d2affc70fdca9941528a26258b12c960a6e7e37517", func := "seepage/seepagelaw16.PixelColumns", spec := "pixelColumns", unfollowed := true, recurses := true, apart := false, narrowed := true }
def PixelColumnsUptoSaid : Prop := pixelColumnsUptoRow.holds Try.pinned (OpenSpec.upto pixelColumnsSpec)

/-- 'seepagelaw16.PixelTells', WHERE WHAT IT READS IS OF BULK AT MOST 1048576: true; the input reads as it did. -/
def pixelTellsUptoRow : OpenClaim := { program := "ytaabkgkhjmmleaa", sum := "61a0d4461be06431d1f915d2affc70fdca9941528a26258b12c960a6e7e37517", func := "seepage/seepagelaw16.PixelTells", spec := "pixelTells", unfollowed := true, recurses := true, apart := false, narrowed := true }
def PixelTellsUptoSaid : Prop := pixelTellsUptoRow.holds Try.pinned (OpenSpec.upto pixelTellsSpec)

end Rows
end Go.Proofs.Ytaabkgkhjmmleaa
