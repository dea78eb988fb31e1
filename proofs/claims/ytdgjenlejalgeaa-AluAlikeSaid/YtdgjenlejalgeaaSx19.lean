/- Truths of trees, shown by cases. -/
import Derived.Test.YtdgjenlejalgeaaSx18b
namespace Go.Sx

/-- A tree whose ways all end in what is true. -/
def Tree.prove (big : Nat) (n : Nat) (K : Known) : Tree → Bool
  | .leaf (.v (.c (.cb e))) => X.proveE big n K e
  | .node c t e => if Tree.prove big n (K.assume c true) t then Tree.prove big n (K.assume c false) e else false
  | _ => false
theorem Tree.prove_ok {big n : Nat} {ρ : Env} : ∀ {t : Tree} {K : Known}, K.ok ρ → t.prove big n K = true → t.den ρ = .bool true := by
  intro t
  induction t with
  | leaf x =>
    intro K hK h
    unfold Tree.prove at h
    split at h
    · next e he =>
      cases he
      simp only [Tree.den, ST.den, SV.den, SC.den, Sx.proveE_ok hK h]
    · next h1 h2 => cases h2
    · cases h
  | node c t e iht ihe =>
    intro K hK h
    simp only [Tree.prove] at h
    split at h
    · next ht =>
      simp only [Tree.den]
      split
      · next hc => exact iht (assume_ok c true hK hc) ht
      · next hc => exact ihe (assume_ok c false hK (by simpa using hc)) h
    · cases h
  | bad m => intro K hK h; simp [Tree.prove] at h
  | deep c => intro K hK h; simp [Tree.prove] at h

theorem Tree.free_of_prove {big n : Nat} : ∀ {t : Tree} {K : Known}, t.prove big n K = true → t.free = true := by
  intro t
  induction t with
  | leaf x =>
    intro K h
    unfold Tree.prove at h
    split at h
    · next e he => cases he; rfl
    · next h1 h2 => cases h2
    · cases h
  | node c t e iht ihe =>
    intro K h
    simp only [Tree.prove] at h
    split at h
    · next ht => simp only [Tree.free, iht ht, ihe h, Bool.and_self]
    · cases h
  | bad m => intro K h; simp [Tree.prove] at h
  | deep c => intro K h; simp [Tree.prove] at h

/-- A function of numbers and truths that answers true, whatever they are. -/
theorem flat_true {P : Program} (hm : P.follows .mixedOrders = true) {fn : FuncId} {ts : List TypeId} {ss : List SV} {ks : List LK} (hts : argTs P ts 0 = some (ss, ks)) {q fuel d big n : Nat}
    (hp : (tree P q (fun _ => none) fuel fn ss bare d ⟨ks.map LK.rg, []⟩).prove big n ⟨ks.map LK.rg, []⟩ = true)
    {w : World} {r : Reach} {base : Nat} {args : Array Value} (hl : args.size = ts.length) (hv : ∀ (j : Nat) (t : TypeId) (v : Value), ts[j]? = some t → args[j]? = some v → Value.okWide P w r base t v) :
    Calls P fn args w fun e w' => (∃ v, e = .returned v ∧ v = .bool true) ∧ RowKit.Below w.heap.size w w' :=
  flat_calls (r := r) (base := base) hm (fun _ _ => 0) (fun _ _ => false) (fun _ => rfl) (fun _ => rfl) (fun ρ _ _ => noSum _ ρ) hts (fuel := fuel) (d := d) (Tree.free_of_prove hp) (T := fun v => v = .bool true) (fun _ h => Tree.prove_ok h.2.2 hp) hl hv
end Go.Sx
