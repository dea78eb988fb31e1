/- Functions that are told by hand: summaries with functions of the environment's own. -/
import Derived.Test.YtdgjenlejalgeaaSx24
namespace Go.Sx
open Go.ChangeShapes Go.WideShapes Go.ChangeAt Go.RowKit

/-- A summary that is told by hand. -/
abbrev Gh := List (FuncId × (Known → List SV → St → R ST))
def findG (l : Gh) (f : FuncId) : Option (Known → List SV → St → R ST) :=
  match l with
  | [] => none
  | (g, u) :: l => if Nat.beq g f then some u else findG l f
def sumG (gh : Gh) (sums : List Sm) (f : FuncId) : Option (Known → List SV → St → R ST) :=
  match findG gh f with
  | some u => some u
  | none => sumsIn sums f
/-- What is asked of one. -/
def GhOk1 (P : Program) (ρ : Env) (f : FuncId) (g : Known → List SV → St → R ST) : Prop :=
  FuncOk P f ∧ ∀ A vs S v, A.ok ρ → g A vs S = .ok v → ∀ β wr w, Rep ρ β S wr w → Calls P f (vs.map (SV.den ρ β)).toArray w fun e w' => e = .returned (v.den ρ β) ∧ RowKit.Below w.heap.size w w'
def GhOk (P : Program) (ρ : Env) (gh : Gh) : Prop := ∀ f g, (f, g) ∈ gh → GhOk1 P ρ f g
theorem findG_mem : ∀ {l : Gh} {f : FuncId} {g : Known → List SV → St → R ST}, findG l f = some g → (f, g) ∈ l
  | [], _, _, h => by simp [findG] at h
  | (f', u) :: l, f, g, h => by
    simp only [findG] at h
    split at h
    · next hb => cases h; rw [Nat.eq_of_beq_eq_true hb]; exact List.mem_cons_self
    · exact List.mem_cons_of_mem _ (findG_mem h)
theorem sumG_ok {P : Program} {ρ : Env} {gh : Gh} {sums : List Sm} (hG : GhOk P ρ gh) (hS : SumsOk P sums) : SumOk P ρ (sumG gh sums) := by
  intro f g h
  simp only [sumG] at h
  split at h
  · next u hu => cases h; exact hG f _ (findG_mem hu)
  · exact hS ρ f g h

section
variable {H : Type} {enc : TypeId × Value → H} {P : Program} {w : World} {r : Reach} {base : Nat}
/-- A function with slices and texts among its arguments that answers true, whatever they are; case by case; some functions told by hand. -/
theorem rows_planG (hm : P.follows .mixedOrders = true) {sums : List Sm} (hS : SumsOk P sums) {gh : Gh} (f0 : List RowD → Nat → List Int → Int) (g0 : List RowD → Nat → List Int → Bool)
    {fn : FuncId} {ts : List TypeId} {ss : List SV} {ks : List LK} {rs : List RowV} (hts : argRs P ts 0 0 = some (ss, ks, rs)) {q fuel big n : Nat}
    (hG : ∀ rows cells, (∀ x ∈ rows, RowD.inW x w) → (addRows rs ⟨ks.map LK.rg, []⟩).ok (envR rows (f0 rows) (g0 rows) cells) → GhOk P (envR rows (f0 rows) (g0 rows) cells) gh)
    (hp : ∀ ρ, (addRows rs ⟨ks.map LK.rg, []⟩).ok ρ → ∃ K d, K.ok ρ ∧ (tree P q (sumG gh sums) fuel fn (mapS (simpV K) ss) bare d K).prove big n K = true)
    {args : Array Value} {ds : List (DataW H)} {p : List MemPlace} (hv : ∀ (j : Nat) (t : TypeId) (v : Value), ts[j]? = some t → args[j]? = some v → Value.okWide P w r base t v)
    (hd : DataW.TrodAll enc P w 0 (fun _ => true) true ts args.toList ds p) :
    Calls P fn args w fun e w' => (∃ v, e = .returned v ∧ v = .bool true) ∧ RowKit.Below w.heap.size w w' := by
  obtain ⟨rows, cells, hr, _, hk, hin, ha⟩ := rows_env hts f0 g0 (fun j t v ht hv' => hv j t v ht (by simpa using hv')) hd
  obtain ⟨K, d, hK, ht⟩ := hp _ hk
  have := tree_ok hm (sumG_ok (hG rows cells hr hk) hS) (q := q) (fuel := fuel) (f := fn) (args := mapS (simpV K) ss) w hin d K hK (Tree.free_of_prove ht)
  rw [simpVs_den hK, ha] at this
  exact Calls.mono this fun e w' h => ⟨⟨_, h.1, Tree.prove_ok hK ht⟩, h.2⟩
end

/-! ### Rows read by functions that are told by hand -/
/-- Elements in memory, cell by cell. -/
def RowAt (w : World) (ao : Option Addr) (n k : Nat) (C : Nat → Nat → Value) : Prop :=
  ∀ i, i < n → ∃ b off, ao = some ⟨b, off, none⟩ ∧ b < w.heap.size ∧ ∀ j, j < k → w.cell? ⟨b, off + i * k + j, none⟩ = some (C i j)
theorem RowAt.some {w : World} {ao : Option Addr} {n k : Nat} {C : Nat → Nat → Value} (h : RowAt w ao n k C) (hn : 0 < n) : ∃ b off, ao = Option.some ⟨b, off, none⟩ ∧ b < w.heap.size ∧ ∀ i, i < n → ∀ j, j < k → w.cell? ⟨b, off + i * k + j, none⟩ = Option.some (C i j) := by
  obtain ⟨b, off, e, hb, _⟩ := h 0 hn
  refine ⟨b, off, e, hb, fun i hi j hj => ?_⟩
  obtain ⟨b', off', e', _, hc⟩ := h i hi
  rw [e] at e'
  cases e'
  exact hc j hj
theorem RowAt.below {w w' : World} {ao : Option Addr} {n k : Nat} {C : Nat → Nat → Value} (h : RowAt w ao n k C) (hb : RowKit.Below w.heap.size w w') : RowAt w' ao n k C := by
  intro i hi
  obtain ⟨b, off, e, hlt, hc⟩ := h i hi
  exact ⟨b, off, e, Nat.lt_of_lt_of_le hlt hb.size, fun j hj => (hb.cell (p := ⟨b, off + i * k + j, none⟩) hlt).trans (hc j hj)⟩
/-- A row's cells. -/
def rowCV (ρ : Env) (e : Nat) (i j : Nat) : Value := match (ksOf e)[j]? with
  | some k => rowCell ρ e j i k
  | none => undef
/-- A row from outside, as a function that is told by hand reads it. -/
theorem row_at {ρ : Env} {β : Nat → Nat} {S : St} {wr w : World} (hR : Rep ρ β S wr w) {A : Known} (hA : A.ok ρ) {e : Nat} {n c : X} (h0 : 0 < (ksOf e).length) (h1 : sureB A (.fb (rowF e 62) .unit) = true) (h2 : sureB A (mkCmp .leq n (lenX e A.tr)) = true) :
    ∃ ao, SC.den ρ β (.xs e (.lit 0) n c) = .slice ao (n.I ρ).toNat (c.I ρ).toNat ∧ RowAt w ao (n.I ρ).toNat (ksOf e).length (rowCV ρ e) ∧ n.I ρ ≤ ρ.f (rowF e 63) [] := by
  have g62 : ρ.g (rowF e 62) [] = true := by have := sureB_ok hA h1; simpa [X.B, X.L] using this
  have hle : n.I ρ ≤ ρ.f (rowF e 63) [] := by
    have := sureB_ok hA h2
    rw [B_mkCmp, lenX_ok hA.2.1] at this
    simpa [cmpI] using this
  refine ⟨_, rfl, fun i hi => ?_, hle⟩
  obtain ⟨m1, m2, m3⟩ := hA.2.2.2 e g62 i (by omega)
  obtain ⟨r1, r2⟩ := hR.row e m1
  obtain ⟨_, _, z3⟩ := hA.2.2.2 e g62 0 (by omega)
  have hsp : (ρ.x e).adr.spot = none := by
    have := (z3 0 _ (List.getElem?_eq_getElem h0)).1
    simp only [Nat.zero_mul, Nat.add_zero, Addr.add, if_true] at this
    unfold cellO at this
    split at this
    · split at this
      · cases this
      · next h => simpa using h
    · cases this
  have hadd : ∀ m, (ρ.x e).adr.add m = ⟨(ρ.x e).adr.block, (ρ.x e).adr.off + m, none⟩ := by
    intro m
    unfold Addr.add
    split
    · next h => subst h; rw [← hsp]; rfl
    · rfl
  refine ⟨(ρ.x e).adr.block, (ρ.x e).adr.off, ?_, ?_, fun j hj => ?_⟩
  · simp only [X.I, m2, Bool.false_eq_true, if_false, Int.toNat_zero, Nat.zero_mul, hadd, Nat.add_zero]
  · exact (Array.getElem?_eq_some_iff.1 r1).1
  · have h3 := cell_of hR m1 (i * (ksOf e).length + j)
    have h4 := (m3 j _ (List.getElem?_eq_getElem hj)).1
    rw [h4, hadd] at h3
    rw [Nat.add_assoc, h3]
    simp only [rowCV, List.getElem?_eq_getElem hj]
section
variable {H : Type} {enc : TypeId × Value → H} {P : Program} {w : World} {r : Reach} {base : Nat}
/-- A law that is shown by hand: its arguments as variables. -/
theorem rows_hand {fn : FuncId} {ts : List TypeId} {ss : List SV} {ks : List LK} {rs : List RowV} (hts : argRs P ts 0 0 = some (ss, ks, rs)) {Q : Ending → World → Prop}
    {args : Array Value} {ds : List (DataW H)} {p : List MemPlace} (hv : ∀ (j : Nat) (t : TypeId) (v : Value), ts[j]? = some t → args[j]? = some v → Value.okWide P w r base t v)
    (hd : DataW.TrodAll enc P w 0 (fun _ => true) true ts args.toList ds p)
    (h : ∀ ρ : Env, (addRows rs ⟨ks.map LK.rg, []⟩).ok ρ → RowsIn ρ w → Calls P fn (ss.map (SV.den ρ fun _ => 0)).toArray w Q) : Calls P fn args w Q := by
  obtain ⟨rows, cells, hr, _, hk, hin, ha⟩ := rows_env hts (fun _ _ _ => 0) (fun _ _ _ => false) (fun j t v ht hv' => hv j t v ht (by simpa using hv')) hd
  have := h _ hk hin
  rw [ha] at this
  exact this
end
section
variable {H : Type} {enc : TypeId × Value → H} {P : Program} {w : World} {r : Reach} {base : Nat}
/-- The same; the arguments' readings besides. -/
theorem rows_hand2 {fn : FuncId} {ts : List TypeId} {ss : List SV} {ks : List LK} {rs : List RowV} (hts : argRs P ts 0 0 = some (ss, ks, rs)) {Q : Ending → World → Prop}
    {args : Array Value} {ds : List (DataW H)} {p : List MemPlace} (hv : ∀ (j : Nat) (t : TypeId) (v : Value), ts[j]? = some t → args[j]? = some v → Value.okWide P w r base t v)
    (hd : DataW.TrodAll enc P w 0 (fun _ => true) true ts args.toList ds p)
    (h : ∀ ρ : Env, (addRows rs ⟨ks.map LK.rg, []⟩).ok ρ → RowsIn ρ w → DataW.TrodAll enc P w 0 (fun _ => true) true ts (ss.map (SV.den ρ fun _ => 0)) ds p → Calls P fn (ss.map (SV.den ρ fun _ => 0)).toArray w Q) : Calls P fn args w Q := by
  obtain ⟨rows, cells, hr, _, hk, hin, ha⟩ := rows_env hts (fun _ _ _ => 0) (fun _ _ _ => false) (fun j t v ht hv' => hv j t v ht (by simpa using hv')) hd
  have := h _ hk hin (by rw [ha]; exact hd)
  rw [ha] at this
  exact this
/-- A slice that lies nowhere is nil. -/
theorem nil_cap {t e : TypeId} (hu : P.underlying t = some (.slice e)) {n cap : Nat} {d : DataW H} {p : List MemPlace} (h : DataW.Trod enc P w 0 (fun _ => true) true t (.slice none n cap) d p) : n = 0 ∧ cap = 0 := by
  obtain ⟨fuel, hf⟩ := h
  rcases Deep.open_slice hu hf with ⟨h0, _⟩ | ⟨a', len, cap, m, n, D, Pl, h0, _⟩
  · simp [Value.cells] at h0; exact h0
  · simp [Value.cells] at h0
end
theorem sure_leq {A : Known} {ρ : Env} (hA : A.ok ρ) {a b : X} (h : sureB A (.cmp .leq a b) = true) : a.I ρ ≤ b.I ρ := by
  have := sureB_ok hA h
  simpa [X.B, cmpI] using this
/-- A row among a law's arguments. -/
theorem row_arg {ρ : Env} {w : World} (hx : RowsIn ρ w) {A : Known} (hA : A.ok ρ) {e c : Nat} (h0 : 0 < (ksOf e).length) (h1 : sureB A (.fb (rowF e 62) .unit) = true) (h2 : sureB A (mkCmp .leq (.iv c) (lenX e A.tr)) = true) (h3 : sureB A (.cmp .leq (.iv c) (.iv (c + 1))) = true) :
    ∃ ao, SC.den ρ (fun _ => 0) (.xs e (.lit 0) (.iv c) (.iv (c + 1))) = .slice ao (ρ.i c).toNat (ρ.i (c + 1)).toNat ∧ RowAt w ao (ρ.i c).toNat (ksOf e).length (rowCV ρ e) ∧ (ρ.i c).toNat ≤ (ρ.i (c + 1)).toNat ∧ ∀ i, i < (ρ.i c).toNat → ∀ (j : Nat) (k : LK), (ksOf e)[j]? = some k → rowFit ρ e j i k := by
  obtain ⟨ao, e1, e2, e3⟩ := row_at (β := fun _ => 0) (c := .iv (c + 1)) (bare_rep w hx) hA h0 h1 h2
  have h4 := sure_leq hA h3
  simp only [X.I] at h4 e3
  have g62 : ρ.g (rowF e 62) [] = true := by have := sureB_ok hA h1; simpa [X.B, X.L] using this
  exact ⟨ao, e1, e2, by omega, fun i hi j k hj => ((hA.2.2.2 e g62 i (by omega)).2.2 j k hj).2⟩
/-- A truth of a row's first elements. -/
def rowB (e code : Nat) (A : Known) (vs : List SV) (_ : St) : R ST :=
  match vs with
  | [.c (.xs e' (.lit (.ofNat 0)) n _)] =>
    if Nat.beq e' e && sureB A (.fb (rowF e 62) .unit) && sureB A (mkCmp .leq n (lenX e A.tr)) && sureB A (mkCmp .leq n (.lit 1000000)) then .ok (.v (.c (.cb (.fb code (fixA n))))) else .fail "row truth"
  | _ => .fail "row truth"
theorem rowB_ok {P : Program} {ρ : Env} {f : FuncId} {e code : Nat} (hf : FuncOk P f) (h0 : 0 < (ksOf e).length)
    (h : ∀ (w : World) (ao : Option Addr) (n cap : Nat), n ≤ 1000000 → (n : Int) ≤ ρ.f (rowF e 63) [] ∨ n = 0 → RowAt w ao n (ksOf e).length (rowCV ρ e) → Calls P f #[.slice ao n cap] w fun r w' => r = .returned (.bool (ρ.g code [(n : Int)])) ∧ RowKit.Below w.heap.size w w')
    (hneg : ∀ z : Int, z < 0 → ρ.g code [z] = ρ.g code [0]) : GhOk1 P ρ f (rowB e code) := by
  refine ⟨hf, fun A vs S v hA hv β wr w hR => ?_⟩
  simp only [rowB] at hv
  split at hv
  · next e' n c =>
    split at hv
    · next hc =>
      simp only [Bool.and_eq_true] at hc
      obtain ⟨⟨⟨c1, c2⟩, c3⟩, c4⟩ := hc
      have c1 := Nat.eq_of_beq_eq_true c1
      subst c1
      cases hv
      obtain ⟨ao, h1, h2, h3⟩ := row_at (β := β) (c := c) hR hA h0 c2 c3
      have h4 : n.I ρ ≤ 1000000 := by have := sureB_ok hA c4; rw [B_mkCmp] at this; exact of_decide_eq_true this
      have := h w ao (n.I ρ).toNat (c.I ρ).toNat (by omega) (by omega) h2
      have h1' : SC.den ρ β (.xs e' (.lit (.ofNat 0)) n c) = .slice ao (n.I ρ).toNat (c.I ρ).toNat := h1
      simp only [List.map_cons, List.map_nil, SV.den, h1']
      refine Calls.mono this fun r w' hr => ⟨?_, hr.2⟩
      rw [hr.1]
      simp only [ST.den, SV.den, SC.den, X.B, fixA_ok]
      by_cases hn : 0 ≤ n.I ρ
      · rw [Int.toNat_of_nonneg hn]
      · rw [hneg (n.I ρ) (by omega), show ((n.I ρ).toNat : Int) = 0 by omega]
    · cases hv
  · cases hv
end Go.Sx
