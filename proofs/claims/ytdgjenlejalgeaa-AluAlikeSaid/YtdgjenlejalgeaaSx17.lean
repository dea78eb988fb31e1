/- A small machine that reads straight Go code as trees, and its truth. -/
import Derived.Test.YtdgjenlejalgeaaSx16
import Derived.ProofKit
import Derived.OpenShut
import Derived.Carry
namespace Go.Sx
open Go.ChangeShapes Go.WideShapes Go.ChangeAt Go.RowKit

/-! ### Arguments of numbers and truths -/
def leafK (P : Program) (t : TypeId) : Option LK :=
  match P.underlying t with
  | some (.int k) => some (.i k)
  | some .bool => some .b
  | _ => none
def leafKs (P : Program) : List TypeId → Option (List LK)
  | [] => some []
  | t :: l => match leafK P t, leafKs P l with
    | some k, some ks => some (k :: ks)
    | _, _ => none
def LK.cell (c : Nat) : LK → SC
  | .i k => .ci k (.iv c)
  | .b => .cb (.bv c)
def LK.rg : LK → Option (Int × Int)
  | .i k => some (kLo k, kHi k)
  | .b => none
def cellsFrom : List LK → Nat → List SC
  | [], _ => []
  | k :: ks, c => k.cell c :: cellsFrom ks (c + 1)
def argT (P : Program) (t : TypeId) (c : Nat) : Option (SV × List LK) :=
  match P.underlying t with
  | some (.struct _) | some (.array _ _) =>
    match P.cellTypes P.depth t with
    | some ts => if Nat.beq (len ts) (P.cellsOf t) then
        match leafKs P ts with
        | some ks => some (.agg (cellsFrom ks c), ks)
        | none => none
      else none
    | none => none
  | _ => match leafK P t with
    | some k => some (.c (k.cell c), [k])
    | none => none
def argTs (P : Program) : List TypeId → Nat → Option (List SV × List LK)
  | [], _ => some ([], [])
  | t :: l, c => match argT P t c with
    | some (v, ks) => match argTs P l (c + len ks) with
      | some (vs, ks') => some (v :: vs, ks ++ ks')
      | none => none
    | none => none

/-- A cell is what a leaf says, by an environment. -/
def LK.fits (ρ : Env) (c : Nat) (v : Value) : LK → Prop
  | .i k => v = .int k (ρ.i c) ∧ kLo k ≤ ρ.i c ∧ ρ.i c ≤ kHi k
  | .b => v = .bool (ρ.b c)
def FitAll (ρ : Env) : List LK → Nat → List Value → Prop
  | [], _, vs => vs = []
  | k :: ks, c, vs => ∃ v l, vs = v :: l ∧ k.fits ρ c v ∧ FitAll ρ ks (c + 1) l

/-- A cell is of a leaf. -/
def LK.is (v : Value) : LK → Prop
  | .i k => ∃ n, v = .int k n ∧ kLo k ≤ n ∧ n ≤ kHi k
  | .b => ∃ b, v = .bool b
def IsAll : List LK → List Value → Prop
  | [], vs => vs = []
  | k :: ks, vs => ∃ v l, vs = v :: l ∧ k.is v ∧ IsAll ks l

theorem IsAll.append {ks ks' : List LK} : ∀ {vs vs' : List Value}, IsAll ks vs → IsAll ks' vs' → IsAll (ks ++ ks') (vs ++ vs') := by
  induction ks with
  | nil => intro vs vs' h h'; simp only [IsAll] at h; subst h; exact h'
  | cons k ks ih =>
    intro vs vs' h h'
    obtain ⟨v, l, rfl, h1, h2⟩ := h
    exact ⟨v, l ++ vs', rfl, h1, ih h2 h'⟩
theorem FitAll.split {ρ : Env} {ks ks' : List LK} : ∀ {c : Nat} {vs : List Value}, FitAll ρ (ks ++ ks') c vs → ∃ v1 v2, vs = v1 ++ v2 ∧ FitAll ρ ks c v1 ∧ FitAll ρ ks' (c + ks.length) v2 := by
  induction ks with
  | nil => intro c vs h; exact ⟨[], vs, rfl, rfl, by simpa using h⟩
  | cons k ks ih =>
    intro c vs h
    obtain ⟨v, l, rfl, h1, h2⟩ := h
    obtain ⟨v1, v2, rfl, h3, h4⟩ := ih h2
    exact ⟨v :: v1, v2, rfl, ⟨v, v1, rfl, h1, h3⟩, by rw [List.length_cons, show c + (ks.length + 1) = c + 1 + ks.length by omega]; exact h4⟩
theorem FitAll.len {ρ : Env} {ks : List LK} : ∀ {c : Nat} {vs : List Value}, FitAll ρ ks c vs → vs.length = ks.length := by
  induction ks with
  | nil => intro c vs h; simp only [FitAll] at h; subst h; rfl
  | cons k ks ih => intro c vs h; obtain ⟨v, l, rfl, _, h2⟩ := h; simp [ih h2]
theorem IsAll.len {ks : List LK} : ∀ {vs : List Value}, IsAll ks vs → vs.length = ks.length := by
  induction ks with
  | nil => intro vs h; simp only [IsAll] at h; subst h; rfl
  | cons k ks ih => intro vs h; obtain ⟨v, l, rfl, _, h2⟩ := h; simp [ih h2]

theorem cells_den {ρ : Env} {β : Nat → Nat} {ks : List LK} : ∀ {c : Nat} {vs : List Value}, FitAll ρ ks c vs → (cellsFrom ks c).map (SC.den ρ β) = vs := by
  induction ks with
  | nil => intro c vs h; simp only [FitAll] at h; subst h; rfl
  | cons k ks ih =>
    intro c vs h
    obtain ⟨v, l, rfl, h1, h2⟩ := h
    simp only [cellsFrom, List.map_cons, ih h2, List.cons.injEq, and_true]
    cases k with
    | i k => simp only [LK.fits] at h1; rw [h1.1]; rfl
    | b => simp only [LK.fits] at h1; rw [h1]; rfl

/-- The environment of some cells. -/
def envOf (f : Nat → List Int → Int) (g : Nat → List Int → Bool) (vs : List Value) : Env :=
  { i := fun c => match vs[c]? with | some (.int _ n) => n | _ => 0
    b := fun c => match vs[c]? with | some (.bool b) => b | _ => false
    f := f, g := g, v := fun _ => .bool false, x := fun _ => ⟨⟨0, 0, none⟩, .cells #[] 0 (0, 0)⟩ }
theorem fitAll_env (f : Nat → List Int → Int) (g : Nat → List Int → Bool) {ks : List LK} : ∀ {pre vs : List Value}, IsAll ks vs → FitAll (envOf f g (pre ++ vs)) ks pre.length vs := by
  induction ks with
  | nil => intro pre vs h; exact h
  | cons k ks ih =>
    intro pre vs h
    obtain ⟨v, l, rfl, h1, h2⟩ := h
    refine ⟨v, l, rfl, ?_, ?_⟩
    · have e : (pre ++ v :: l)[pre.length]? = some v := by simp
      cases k with
      | i k =>
        obtain ⟨n, rfl, b1, b2⟩ := h1
        have e' : (envOf f g (pre ++ Value.int k n :: l)).i pre.length = n := by simp only [envOf, e]
        exact ⟨by rw [e'], by rw [e']; exact b1, by rw [e']; exact b2⟩
      | b =>
        obtain ⟨b, rfl⟩ := h1
        have e' : (envOf f g (pre ++ Value.bool b :: l)).b pre.length = b := by simp only [envOf, e]
        show Value.bool b = Value.bool _
        rw [e']
    · have := ih (pre := pre ++ [v]) h2
      simpa using this
theorem known_env {ρ : Env} (hv : (∀ n, (ρ.v n).oneCell' = true) ∧ ∀ e, ExtOk ρ e) {ks : List LK} {vs : List Value} (h : FitAll ρ ks 0 vs) : (⟨ks.map LK.rg, []⟩ : Known).ok ρ := by
  refine ⟨?_, fun x b hx => by simp at hx, hv⟩
  have key : ∀ (ks : List LK) (c : Nat) (vs : List Value), FitAll ρ ks c vs → ∀ n l h, (ks.map LK.rg)[n]? = some (some (l, h)) → l ≤ ρ.i (c + n) ∧ ρ.i (c + n) ≤ h := by
    intro ks
    induction ks with
    | nil => intro c vs _ n l h hn; simp at hn
    | cons k ks ih =>
      intro c vs hf n l h hn
      obtain ⟨v, vs', rfl, h1, h2⟩ := hf
      cases n with
      | zero =>
        simp only [List.map_cons, List.getElem?_cons_zero, Option.some.injEq] at hn
        cases k with
        | i k => simp only [LK.rg, Option.some.injEq, Prod.mk.injEq] at hn; obtain ⟨rfl, rfl⟩ := hn; exact h1.2
        | b => simp [LK.rg] at hn
      | succ n =>
        have := ih (c + 1) vs' h2 n l h (by simpa using hn)
        rwa [show c + 1 + n = c + (n + 1) by omega] at this
  intro n lo hi hn
  have := key ks 0 vs h n lo hi hn
  simpa using this

section
variable {P : Program} {w : World} {r : Reach} {base : Nat}
theorem leafK_is {t : TypeId} {k : LK} (hk : leafK P t = some k) {v : Value} (h : Cell.okWide P w r base t v) : k.is v := by
  unfold leafK at hk
  split at hk
  · rename_i k' hu
    cases hk
    simp only [Cell.okWide, hu] at h
    cases v <;> simp_all [Cell.ok, LK.is, IntKind.has, kLo_eq, kHi_eq]
  · rename_i hu
    cases hk
    simp only [Cell.okWide, hu] at h
    cases v <;> simp_all [Cell.ok, LK.is]
  · cases hk
theorem leafKs_is : ∀ {ts : List TypeId} {ks : List LK}, leafKs P ts = some ks → ∀ {vs : List Value}, vs.length = ts.length → (∀ (i : Nat) (v : Value), vs[i]? = some v → ∃ u, ts[i]? = some u ∧ Cell.okWide P w r base u v) → IsAll ks vs
  | [], ks, h, vs, hl, _ => by simp only [leafKs] at h; cases h; exact List.eq_nil_of_length_eq_zero hl
  | t :: ts, ks, h, vs, hl, hv => by
    simp only [leafKs] at h
    split at h
    · rename_i k ks' h1 h2
      cases h
      cases vs with
      | nil => simp at hl
      | cons v vs =>
        refine ⟨v, vs, rfl, ?_, leafKs_is h2 (by simpa using hl) fun i x hx => by simpa using hv (i + 1) x (by simpa using hx)⟩
        obtain ⟨u, hu, hok⟩ := hv 0 v rfl
        simp at hu; subst hu
        exact leafK_is h1 hok
    · cases h
theorem argT_is {t : TypeId} {c : Nat} {s : SV} {ks : List LK} (ht : argT P t c = some (s, ks)) {v : Value} (h : Value.okWide P w r base t v) :
    ∃ vs, IsAll ks vs ∧ ∀ (ρ : Env) (β : Nat → Nat), FitAll ρ ks c vs → s.den ρ β = v := by
  have agg : ∀ {ts}, P.cellTypes P.depth t = some ts → Nat.beq (len ts) (P.cellsOf t) = true → leafKs P ts = some ks → s = .agg (cellsFrom ks c) → (∃ cs, v = .agg cs ∧ cs.size = P.cellsOf t ∧ Row.okWide P w r base t cs) →
      ∃ vs, IsAll ks vs ∧ ∀ (ρ : Env) (β : Nat → Nat), FitAll ρ ks c vs → s.den ρ β = v := by
    intro ts h1 h2 h3 hs hv
    obtain ⟨cs, rfl, hsz, ts', ht', _, hrow⟩ := hv
    rw [h1] at ht'; cases ht'
    have h2 := Nat.eq_of_beq_eq_true h2
    rw [len_eq] at h2
    refine ⟨cs.toList, leafKs_is (w := w) (r := r) (base := base) h3 (by simp [hsz, h2]) fun i x hx => ?_, fun ρ β hf => ?_⟩
    · have hx' : cs[i]? = some x := by simpa using hx
      obtain ⟨u, hu, hok⟩ := hrow i x hx'
      have hlt : i < ts.length := by have := (Array.getElem?_eq_some_iff.1 hx').1; omega
      rw [Nat.mod_eq_of_lt hlt] at hu
      exact ⟨u, hu, hok⟩
    · subst hs
      simp only [SV.den, cells_den hf]
  unfold argT at ht
  split at ht
  · rename_i fs hu
    split at ht
    · rename_i ts h1
      split at ht
      · rename_i h2
        split at ht
        · rename_i ks' h3
          cases ht
          refine agg h1 h2 h3 rfl ?_
          simpa only [Value.okWide, hu] using h
        · cases ht
      · cases ht
    · cases ht
  · rename_i n e hu
    split at ht
    · rename_i ts h1
      split at ht
      · rename_i h2
        split at ht
        · rename_i ks' h3
          cases ht
          refine agg h1 h2 h3 rfl ?_
          simpa only [Value.okWide, hu] using h
        · cases ht
      · cases ht
    · cases ht
  · rename_i hu1 hu2
    split at ht
    · rename_i k hk
      cases ht
      have hc : Cell.okWide P w r base t v := by
        unfold Value.okWide at h
        split at h
        · rename_i hx; exact absurd hx (hu1 _)
        · rename_i hx; exact absurd hx (hu2 _ _)
        · exact h
      refine ⟨[v], ⟨v, [], rfl, leafK_is hk hc, rfl⟩, fun ρ β hf => ?_⟩
      obtain ⟨v', l, e, h1, _⟩ := hf
      cases e
      cases k with
      | i k => simp only [LK.fits] at h1; rw [h1.1]; rfl
      | b => simp only [LK.fits] at h1; rw [h1]; rfl
    · cases ht
theorem argTs_is : ∀ {ts : List TypeId} {c : Nat} {ss : List SV} {ks : List LK}, argTs P ts c = some (ss, ks) → ∀ {vs : List Value}, vs.length = ts.length → (∀ (j : Nat) (t : TypeId) (v : Value), ts[j]? = some t → vs[j]? = some v → Value.okWide P w r base t v) →
    ∃ cells, IsAll ks cells ∧ ∀ (ρ : Env) (β : Nat → Nat), FitAll ρ ks c cells → ss.map (SV.den ρ β) = vs
  | [], c, ss, ks, h, vs, hl, _ => by
    simp only [argTs] at h; cases h
    exact ⟨[], rfl, fun ρ β _ => (List.eq_nil_of_length_eq_zero hl).symm⟩
  | t :: ts, c, ss, ks, h, vs, hl, hv => by
    simp only [argTs] at h
    split at h
    · rename_i s ks1 h1
      split at h
      · rename_i ss2 ks2 h2
        cases h
        cases vs with
        | nil => simp at hl
        | cons v vs =>
          obtain ⟨c1, a1, a2⟩ := argT_is h1 (hv 0 t v rfl rfl)
          obtain ⟨c2, b1, b2⟩ := argTs_is h2 (vs := vs) (by simpa using hl) fun j u x hu hx => hv (j + 1) u x (by simpa using hu) (by simpa using hx)
          refine ⟨c1 ++ c2, a1.append b1, fun ρ β hf => ?_⟩
          obtain ⟨v1, v2, e, f1, f2⟩ := hf.split
          have hlen : v1.length = c1.length := by rw [f1.len, a1.len]
          obtain ⟨rfl, rfl⟩ := List.append_inj e hlen.symm
          simp only [List.map_cons, a2 ρ β f1]
          rw [len_eq] at b2
          rw [b2 ρ β f2]
      · cases h
    · cases h
end

/-- The environments that are asked for a law. -/
def Good (f : Nat → List Int → Int) (g : Nat → List Int → Bool) (ks : List LK) (ρ : Env) : Prop :=
  ρ.f = f ∧ ρ.g = g ∧ (⟨ks.map LK.rg, []⟩ : Known).ok ρ

/-- A function of numbers and truths: it comes to its tree. -/
theorem flat_calls {P : Program} (hm : P.follows .mixedOrders = true) (f : Nat → List Int → Int) (g : Nat → List Int → Bool) {q : Nat} {sum : Sums} (hg : ∀ e, g (rowF e 62) [] = false) (hg0 : ∀ e, g (rowF e 60) [] = false) (hS : ∀ ρ : Env, ρ.f = f → ρ.g = g → SumOk P ρ sum)
    {fn : FuncId} {ts : List TypeId} {ss : List SV} {ks : List LK} (hts : argTs P ts 0 = some (ss, ks)) {fuel d : Nat} (hfree : (tree P q sum fuel fn ss bare d ⟨ks.map LK.rg, []⟩).free = true)
    {T : Value → Prop} (hT : ∀ ρ, Good f g ks ρ → T ((tree P q sum fuel fn ss bare d ⟨ks.map LK.rg, []⟩).den ρ))
    {w : World} {r : Reach} {base : Nat} {args : Array Value} (hl : args.size = ts.length) (hv : ∀ (j : Nat) (t : TypeId) (v : Value), ts[j]? = some t → args[j]? = some v → Value.okWide P w r base t v) :
    Calls P fn args w fun e w' => (∃ v, e = .returned v ∧ T v) ∧ Below w.heap.size w w' := by
  obtain ⟨cells, h1, h2⟩ := argTs_is hts (vs := args.toList) (by simpa using hl) fun j t v ht hv' => hv j t v ht (by simpa using hv')
  have hf := fitAll_env f g (pre := []) h1
  simp only [List.nil_append, List.length_nil] at hf
  have none : ∀ e, ¬ (envOf f g cells).g (rowF e 62) [] = true := fun e he => by have := hg e; rw [show g (rowF e 62) [] = true from he] at this; cases this
  have none0 : ∀ e, ¬ (envOf f g cells).g (rowF e 60) [] = true := fun e he => by have := hg0 e; rw [show g (rowF e 60) [] = true from he] at this; cases this
  have hk := known_env (ρ := envOf f g cells) ⟨fun n => rfl, fun e he => absurd he (none e)⟩ hf
  have ha : (ss.map (SV.den (envOf f g cells) fun _ => 0)).toArray = args := by rw [h2 _ _ hf]
  have := tree_ok hm (hS (envOf f g cells) rfl rfl) (fuel := fuel) (f := fn) (args := ss) w (fun e he => absurd he (none0 e)) d _ hk hfree
  rw [ha] at this
  exact Calls.mono this fun e w' h => ⟨⟨_, h.1, hT _ ⟨rfl, rfl, hk⟩⟩, h.2⟩

/-- Arguments read behind a call as they read before it. -/
theorem trodAll_below {H : Type} {enc : TypeId × Value → H} {P : Program} (hl : laidOutB P = true) {W W' : World} (hb : Below W.heap.size W W') : ∀ {ts : List TypeId} {vs : List Value} {ds : List (DataW H)} {ps : List MemPlace},
    (∀ t ∈ ts, P.readableRec t = true ∧ t < P.types.size) → DataW.TrodAll enc P W 0 (fun _ => true) true ts vs ds ps → (∀ x ∈ ps, x.block < W.heap.size) →
    DataW.TrodAll enc P W' 0 (fun b => decide (b < W.heap.size)) true ts vs ds ps
  | [], vs, ds, ps, _, h, _ => by
    obtain ⟨rfl, rfl, rfl⟩ := trodAll_nil h
    exact trodAll_mk0
  | t :: ts, vs, ds, ps, ht, h, hp => by
    obtain ⟨v, vs', d, ds', p, q, rfl, rfl, rfl, h1, h2⟩ := trodAll_cons h
    exact trodAll_cons_mk (Below.trod hl (ht t (by simp)).1 (ht t (by simp)).2 h1 hb fun x hx => hp x (by simp [hx]))
      (trodAll_below hl hb (fun u hu => ht u (by simp [hu])) h2 fun x hx => hp x (by simp [hx]))

/-- What a law's row asks behind a call that answered true and left memory as it was. -/
theorem law_post {H : Type} {enc : TypeId × Value → H} {P : Program} (hl : laidOutB P = true) {f : Func} {s : ChangeSpec} {W W' : World} {args : Array Value} {ds : List (DataW H)} {p : List MemPlace} {tb : TypeId}
    (hvars : s.vars = []) (hts : ∀ t ∈ f.params.toList, P.readableRec t = true ∧ t < P.types.size) (hres : f.resultTypes = #[tb]) (hbool : P.underlying tb = some .bool)
    (hW : DataW.Whole enc P f.params.toList s.vars false W args.toList ds [] (p ++ []))
    (hA : DataW.TrodAll enc P W 0 (fun _ => true) true f.params.toList args.toList ds p) (hb : Below W.heap.size W W')
    (hspec : (s.fn H (ds ++ [])).results = [.lit (.bool true)] ∧ (s.fn H (ds ++ [])).args = ds ∧ (s.fn H (ds ++ [])).vars = []) :
    s.post enc P f false true false false W args (.bool true) W' := by
  have hlt : ∀ x ∈ p, x.block < W.heap.size := fun x hx => hW.lt x (by simp [hx])
  refine ⟨ds, [], p ++ [], [], p, [], hW, ?_, ?_, ?_, ?_, fun h => by cases h⟩
  · rw [hspec.1, hres]
    exact trodAll_mk1 (shut_bool hbool _)
  · rw [hspec.2.1]
    exact trodAll_below hl hb hts hA hlt
  · rw [hspec.2.2, hvars]; rfl
  · exact hb.frame _
end Go.Sx
