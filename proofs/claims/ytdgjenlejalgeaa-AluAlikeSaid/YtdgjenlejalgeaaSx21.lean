/- Summaries made small. -/
import Derived.Test.YtdgjenlejalgeaaSx20
namespace Go.Sx

/-- An expression of a table. -/
def synth : List Nat → Nat → Nat → X
  | [], _, t => .bl (Nat.beq t 1)
  | id :: l, sz, t =>
    let h := sz / 2
    let t0 := Nat.mod t (2 ^ h)
    let t1 := Nat.shiftRight t h
    if Nat.beq t0 t1 then synth l h t0 else mkIteB (atomOf id) (synth l h t1) (synth l h t0)
/-- A truth that hangs on little. -/
def X.lessB (K : Known) (e : X) : X :=
  match X.supB false K.rg e with
  | some m =>
    let ids := idsOf 40 (Nat.shiftRight m 1)
    if Nat.ble (len ids) 6 then
      let te := mkTE K.rg ids []
      match X.tabB te e with
      | some t =>
        let e' := synth ids (2 ^ len ids) t
        match X.tabB te e' with
        | some t' => if Nat.beq t t' then e' else e
        | none => e
      | none => e
    else e
  | none => e
def orForm (k : IntKind) (f : Nat → X) : Nat → X
  | 0 => .lit (Int.ofNat 0)
  | n + 1 => match f n with
    | .bl false => orForm k f n
    | c => match orForm k f n with
      | .lit (.ofNat 0) => mkIte c (.lit (Int.ofNat (2 ^ n))) (.lit (Int.ofNat 0))
      | r => .bin .or k (mkIte c (.lit (Int.ofNat (2 ^ n))) (.lit (Int.ofNat 0))) r
def kindOf : X → Option IntKind
  | .bin _ k _ _ => some k
  | .wrap k _ => some k
  | .ite _ a b => match kindOf a with
    | some k => some k
    | none => kindOf b
  | _ => none
def nthN : List Nat → Nat → Nat
  | [], _ => 0
  | a :: _, 0 => a
  | _ :: l, n + 1 => nthN l n
/-- One bit of a number, of little. -/
def bitSyn (K : Known) (e : X) (ms : List Nat) (i : Nat) : Option X :=
  let ids := idsOf 40 (Nat.shiftRight (nthN ms i) 1)
  if Nat.ble (len ids) 6 then
    let te := mkTE K.rg ids []
    match X.tabI te e with
    | some (l, s) => match nthE s i l with
      | some t => some (synth ids (2 ^ len ids) t)
      | none => none
    | none => none
  else none
def allBits (f : Nat → Option X) : Nat → Option (List X)
  | 0 => some []
  | n + 1 => match f n with
    | some x => match allBits f n with
      | some l => some (x :: l)
      | none => none
    | none => none
/-- The bits, the highest one first. -/
def fromTop (l : List X) (n i : Nat) : X := match nth l (n - 1 - i) with | some x => x | none => .bl false
def X.lessI (K : Known) (e : X) : X :=
  match kindOf e with
  | none => e
  | some k =>
    match X.blast K e with
    | some (m, f) =>
      if Nat.ble m 65535 then
        let e' := orForm k (fun i => if Nat.testBit m i then X.lessB K (f i) else .bl false) (Nat.log2 m + 1)
        if X.tabGo K (.cmp .eql e e') then e' else e
      else e
    | none =>
      match X.supI false K.rg e with
      | some ms =>
        if Nat.ble (len ms) 16 then
          match allBits (bitSyn K e ms) (len ms) with
          | some l =>
            let e' := orForm k (fun i => fromTop l (len ms) i) (len ms)
            if X.tabGo K (.cmp .eql e e') then e' else e
          | none => e
        else e
      | none => e
mutual
def X.normI (K : Known) : X → X
  | .bin op k a b => X.lessI K (mkBin op k (X.normI K a) (X.normI K b))
  | .wrap k a => X.lessI K (wrapR K k (X.normI K a))
  | .ite c a b => X.lessI K (mkIte (X.normB K c) (X.normI K a) (X.normI K b))
  | .ofB a => ofS (X.normB K a)
  | .iv n => .iv n
  | .lit z => .lit z
  | e => e
def X.normB (K : Known) : X → X
  | .cmp op a b => X.lessB K (decX K (mkCmp op (X.normI K a) (X.normI K b)))
  | .not a => X.lessB K (mkNot (X.normB K a))
  | .and a b => X.lessB K (mkAnd (X.normB K a) (X.normB K b))
  | .or a b => X.lessB K (mkOr (X.normB K a) (X.normB K b))
  | .beq a b => X.lessB K (mkBeq (X.normB K a) (X.normB K b))
  | .ite c a b => X.lessB K (mkIteB (X.normB K c) (X.normB K a) (X.normB K b))
  | e => e
end
def SC.norm (K : Known) : SC → SC
  | .ci k x => .ci k (X.normI K x)
  | .cb x => .cb (X.normB K x)
  | x => x
def SV.norm (K : Known) : SV → SV
  | .c x => .c (x.norm K)
  | .agg l => .agg (mapS (SC.norm K) l)
def ST.norm (K : Known) : ST → ST
  | .v x => .v (x.norm K)
  | .tup l => .tup (mapS (SV.norm K) l)
  | .ifv c x => .ifv (X.normB K c) (x.norm K)

section
variable {K : Known} {ρ : Env} {β : Nat → Nat}
theorem lessB_ok (hK : K.ok ρ) (e : X) : (X.lessB K e).B ρ = e.B ρ := by
  unfold X.lessB
  split
  · next m hm =>
    simp only
    split
    · split
      · next t ht =>
        split
        · next t' ht' =>
          split
          · next hb =>
            have hb := Nat.eq_of_beq_eq_true hb
            subst hb
            obtain ⟨j, hT⟩ := mkTE_ok hK.1 (idsOf 40 (Nat.shiftRight m 1)) []
            have h1 := tabB_ok hT e
            have h2 := tabB_ok hT (synth (idsOf 40 (m.shiftRight 1)) (2 ^ len (idsOf 40 (m.shiftRight 1))) t)
            rw [ht] at h1
            rw [ht'] at h2
            have h1 : t.testBit j = e.B ρ := h1
            have h2 : t.testBit j = _ := h2
            rw [← h1, ← h2]
          · rfl
        · rfl
      · rfl
    · rfl
  · rfl
theorem lessI_ok (hK : K.ok ρ) (e : X) : (X.lessI K e).I ρ = e.I ρ := by
  have key : ∀ e' : X, (if X.tabGo K (.cmp .eql e e') = true then e' else e).I ρ = e.I ρ := by
    intro e'
    split
    · next h =>
      have := tabGo_ok hK h
      simp only [X.B, cmpI, beq_iff_eq] at this
      exact this.symm
    · rfl
  unfold X.lessI
  split
  · rfl
  · split
    · split
      · exact key _
      · rfl
    · split
      · split
        · split
          · exact key _
          · rfl
        · rfl
      · rfl
mutual
theorem normI_ok (hK : K.ok ρ) : ∀ e : X, (X.normI K e).I ρ = e.I ρ
  | .bin op k a b => by simp only [X.normI, lessI_ok hK, I_mkBin, X.I, normI_ok hK a, normI_ok hK b]
  | .wrap k a => by simp only [X.normI, lessI_ok hK, wrapR_ok hK, X.I, normI_ok hK a]
  | .ite c a b => by simp only [X.normI, lessI_ok hK, I_mkIte, X.I, normB_ok hK c, normI_ok hK a, normI_ok hK b]
  | .ofB a => by simp only [X.normI, ofS_ok, X.I, normB_ok hK a]
  | .iv _ => rfl
  | .lit _ => rfl
  | .bv _ => rfl
  | .bl _ => rfl
  | .cmp .. => rfl
  | .not _ => rfl
  | .and .. => rfl
  | .or .. => rfl
  | .beq .. => rfl
  | .fi .. => rfl
  | .fb .. => rfl
  | .pair .. => rfl
  | .unit => rfl
theorem normB_ok (hK : K.ok ρ) : ∀ e : X, (X.normB K e).B ρ = e.B ρ
  | .cmp op a b => by simp only [X.normB, lessB_ok hK, decX_ok hK, B_mkCmp, X.B, normI_ok hK a, normI_ok hK b]
  | .not a => by simp only [X.normB, lessB_ok hK, B_mkNot, X.B, normB_ok hK a]
  | .and a b => by simp only [X.normB, lessB_ok hK, B_mkAnd, X.B, normB_ok hK a, normB_ok hK b]
  | .or a b => by simp only [X.normB, lessB_ok hK, B_mkOr, X.B, normB_ok hK a, normB_ok hK b]
  | .beq a b => by simp only [X.normB, lessB_ok hK, B_mkBeq, X.B, normB_ok hK a, normB_ok hK b]
  | .ite c a b => by simp only [X.normB, lessB_ok hK, B_mkIteB, X.B, normB_ok hK c, normB_ok hK a, normB_ok hK b]
  | .iv _ => rfl
  | .lit _ => rfl
  | .bv _ => rfl
  | .bl _ => rfl
  | .bin .. => rfl
  | .wrap .. => rfl
  | .ofB _ => rfl
  | .fi .. => rfl
  | .fb .. => rfl
  | .pair .. => rfl
  | .unit => rfl
end
theorem SC.norm_ok (hK : K.ok ρ) (x : SC) : (x.norm K).den ρ β = x.den ρ β := by
  cases x <;> simp only [SC.norm, SC.den, normI_ok hK, normB_ok hK]
theorem SV.norm_ok (hK : K.ok ρ) (x : SV) : (x.norm K).den ρ β = x.den ρ β := by
  cases x with
  | c x => exact SC.norm_ok hK x
  | agg l =>
    simp only [SV.norm, SV.den, mapS_eq, List.map_map]
    congr 2
    exact List.map_congr_left fun x _ => SC.norm_ok hK x
theorem ST.norm_ok (hK : K.ok ρ) (x : ST) : (x.norm K).den ρ β = x.den ρ β := by
  induction x with
  | v x => exact SV.norm_ok hK x
  | tup l =>
    simp only [ST.norm, ST.den, mapS_eq, List.map_map]
    congr 2
    exact List.map_congr_left fun x _ => SV.norm_ok hK x
  | ifv c x ih => simp only [ST.norm, ST.den, normB_ok hK, ih]

/-- What a tree comes to, made small. -/
def Tree.small (K : Known) : Tree → Option ST
  | .leaf v => some (v.norm K)
  | _ => none
/-- One more summary, made small. -/
theorem sums_norm {P : Program} (hm : P.follows .mixedOrders = true) {sums : List Sm} (hS : SumsOk P sums) {f : FuncId} {ts : List TypeId} {ss : List SV} {ks : List LK} {q fuel : Nat} {v : ST}
    (hts : argTs P ts 0 = some (ss, ks)) (ht : (tree P q (sumsIn sums) fuel f ss bare 0 ⟨ks.map LK.rg, []⟩).small ⟨ks.map LK.rg, []⟩ = some v) (hv : v.bareT = true) : SumsOk P (⟨f, ss, ks, v⟩ :: sums) := by
  cases e : tree P q (sumsIn sums) fuel f ss bare 0 ⟨ks.map LK.rg, []⟩ with
  | leaf v0 =>
    rw [e] at ht
    simp only [Tree.small, Option.some.injEq] at ht
    subst ht
    have hb0 : v0.bareT = true := by
      have hc : ∀ x : SC, (x.norm ⟨ks.map LK.rg, []⟩).bareC = x.bareC := by intro x; cases x <;> rfl
      have hvv : ∀ x : SV, (x.norm ⟨ks.map LK.rg, []⟩).bareV = x.bareV := by
        intro x
        cases x with
        | c x => exact hc x
        | agg l =>
          simp only [SV.norm, SV.bareV, mapS_eq]
          rw [Bool.eq_iff_iff]
          simp only [allB_eq, List.mem_map, forall_exists_index, and_imp, forall_apply_eq_imp_iff₂, hc]
      have : ∀ x : ST, (x.norm ⟨ks.map LK.rg, []⟩).bareT = x.bareT := by
        intro x
        induction x with
        | v x => exact hvv x
        | tup l =>
          simp only [ST.norm, ST.bareT, mapS_eq]
          rw [Bool.eq_iff_iff]
          simp only [allB_eq, List.mem_map, forall_exists_index, and_imp, forall_apply_eq_imp_iff₂, hvv]
        | ifv c x ih => exact ih
      rw [← this]; exact hv
    intro ρ f' g hg
    simp only [sumsIn] at hg
    split at hg
    · next hf =>
      have hf := Nat.eq_of_beq_eq_true hf
      subst hf
      cases hg
      refine ⟨tree_func e, fun A vs S u hA hu β wr w hR => ?_⟩
      simp only [Sm.use] at hu
      split at hu
      · next hs =>
        split at hu
        · next l hl =>
          cases hu
          have hf := grabC_ok hA (β := β) (pre := []) hl
          simp only [List.nil_append, List.length_nil] at hf
          have hk := known_env (ρ := ρ.on l) hA.2.2 hf
          have ha := argTs_shape (β' := fun _ => 0) hts hs hf
          have := tree_ok hm (hS (ρ.on l)) (fuel := fuel) (f := f) (args := ss) w (fun e he => (hR.row e he).1) 0 _ hk (by rw [e]; exact ST.fits_of_bare hb0)
          rw [e, ha] at this
          exact Calls.mono this fun e w' h => ⟨by rw [h.1]; simp only [Tree.den]; rw [ST.onS_ok hA hv, ST.norm_ok hk], h.2⟩
        · cases hu
      · cases hu
    · exact hS ρ f' g hg
  | _ => rw [e] at ht; simp [Tree.small] at ht
/-- A number's expression. -/
def ST.num : ST → X
  | .v (.c (.ci _ x)) => x
  | _ => .unit
def ST.isNum (k : IntKind) : ST → Bool
  | .v (.c (.ci k' _)) => Nat.beq (kN k) (kN k')
  | _ => false
theorem ST.num_den {k : IntKind} {v : ST} (h : v.isNum k = true) (ρ : Env) (β : Nat → Nat) : v.den ρ β = .int k (v.num.I ρ) := by
  unfold ST.isNum at h
  split at h
  · rw [kN_inj h]; rfl
  · cases h
theorem ST.num_bare {k : IntKind} {v : ST} (h : v.isNum k = true) : v.bareT = true := by
  unfold ST.isNum at h
  split at h
  · rfl
  · cases h
theorem split_lem {R : Prop} {A : Known} {ρ : Env} (c : X) (hA : A.ok ρ) (hc : c.B ρ = true) (ht : (A.assume c true).ok ρ → R) : R := ht (assume_ok c true hA hc)
/-- One more summary: another function's, that is the same. -/
theorem sums_as {P : Program} (hm : P.follows .mixedOrders = true) {sums : List Sm} (hS : SumsOk P sums) {f : FuncId} {ts : List TypeId} {ss : List SV} {ks : List LK} {q fuel : Nat} {v u : ST}
    (hts : argTs P ts 0 = some (ss, ks)) (ht : tree P q (sumsIn sums) fuel f ss bare 0 ⟨ks.map LK.rg, []⟩ = .leaf v) (k : IntKind) (hv : v.isNum k = true) (hu : u.isNum k = true)
    (he : ∀ ρ, (⟨ks.map LK.rg, []⟩ : Known).ok ρ → (X.cmp .eql v.num u.num).B ρ = true) : SumsOk P (⟨f, ss, ks, u⟩ :: sums) := by
  intro ρ f' g hg
  simp only [sumsIn] at hg
  split at hg
  · next hf =>
    have hf := Nat.eq_of_beq_eq_true hf
    subst hf
    cases hg
    refine ⟨tree_func ht, fun A vs S w0 hA hu' β wr w hR => ?_⟩
    simp only [Sm.use] at hu'
    split at hu'
    · next hs =>
      split at hu'
      · next l hl =>
        cases hu'
        have hf := grabC_ok hA (β := β) (pre := []) hl
        simp only [List.nil_append, List.length_nil] at hf
        have hk := known_env (ρ := ρ.on l) hA.2.2 hf
        have ha := argTs_shape (β' := fun _ => 0) hts hs hf
        have := tree_ok hm (hS (ρ.on l)) (fuel := fuel) (f := f) (args := ss) w (fun e he => (hR.row e he).1) 0 _ hk (by rw [ht]; exact ST.fits_of_bare (ST.num_bare hv))
        rw [ht, ha] at this
        have e := he _ hk
        simp only [X.B, cmpI, beq_iff_eq] at e
        exact Calls.mono this fun e' w' h => ⟨by rw [h.1]; simp only [Tree.den]; rw [ST.onS_ok (β' := fun _ => 0) hA (ST.num_bare hu), ST.num_den hv, ST.num_den hu, e], h.2⟩
      · cases hu'
    · cases hu'
  · exact hS ρ f' g hg
end
end Go.Sx
