/- Cases told to the arguments. -/
import Derived.Test.YtdgjenlejalgeaaSx23
namespace Go.Sx
open Go.ChangeShapes Go.WideShapes Go.ChangeAt Go.RowKit

/-- A tree of arguments of which some are known. -/
def treeS (P : Program) (q : Nat) (sum : Sums) (fuel : Nat) (f : FuncId) (args : List SV) (S : St) (d : Nat) (K : Known) : Tree :=
  tree P q sum fuel f (mapS (simpV K) args) S d K

theorem simpVs_den {K : Known} {ρ : Env} {β : Nat → Nat} (hK : K.ok ρ) (l : List SV) : (mapS (simpV K) l).map (SV.den ρ β) = l.map (SV.den ρ β) := by
  rw [mapS_eq, List.map_map]
  exact List.map_congr_left fun x _ => (simpV_ok hK x).1

section
variable {H : Type} {enc : TypeId × Value → H} {P : Program} {w : World} {r : Reach} {base : Nat}
/-- A function with slices and texts among its arguments that answers true, whatever they are; case by case. -/
theorem rows_planS (hm : P.follows .mixedOrders = true) {sums : List Sm} (hS : SumsOk P sums) {fn : FuncId} {ts : List TypeId} {ss : List SV} {ks : List LK} {rs : List RowV} (hts : argRs P ts 0 0 = some (ss, ks, rs)) {q fuel big n : Nat}
    (hp : ∀ ρ, (addRows rs ⟨ks.map LK.rg, []⟩).ok ρ → ∃ K d, K.ok ρ ∧ (treeS P q (sumsIn sums) fuel fn ss bare d K).prove big n K = true)
    {args : Array Value} {ds : List (DataW H)} {p : List MemPlace} (hv : ∀ (j : Nat) (t : TypeId) (v : Value), ts[j]? = some t → args[j]? = some v → Value.okWide P w r base t v)
    (hd : DataW.TrodAll enc P w 0 (fun _ => true) true ts args.toList ds p) :
    Calls P fn args w fun e w' => (∃ v, e = .returned v ∧ v = .bool true) ∧ RowKit.Below w.heap.size w w' := by
  obtain ⟨rows, cells, _, _, hk, hin, ha⟩ := rows_env hts (fun _ _ _ => 0) (fun _ _ _ => false) (fun j t v ht hv' => hv j t v ht (by simpa using hv')) hd
  obtain ⟨K, d, hK, ht⟩ := hp _ hk
  have := tree_ok hm (hS _) (q := q) (fuel := fuel) (f := fn) (args := mapS (simpV K) ss) w hin d K hK (Tree.free_of_prove ht)
  rw [simpVs_den hK, ha] at this
  exact Calls.mono this fun e w' h => ⟨⟨_, h.1, Tree.prove_ok hK ht⟩, h.2⟩
end
end Go.Sx
