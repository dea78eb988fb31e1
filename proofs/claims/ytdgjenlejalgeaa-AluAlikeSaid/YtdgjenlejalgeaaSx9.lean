/- A small machine that reads straight Go code as trees, and its truth. -/
import Derived.Test.YtdgjenlejalgeaaSx8
namespace Go.Sx

section
variable {P : Program} {A : Known} {ρ : Env} {β β' : Nat → Nat} {S S1 : St} {wr w w' : World} {a : Act}

/-- How a state goes on to another one: nothing that was named is named otherwise. -/
structure Onw (S S1 : St) : Prop where
  hp : S.hp.length ≤ S1.hp.length
  base : S1.base = S.base
  tm : S1.tm.length = S.tm.length
theorem Onw.refl (S : St) : Onw S S := ⟨Nat.le_refl _, rfl, rfl⟩
theorem Onw.trans {S S1 S2 : St} (h : Onw S S1) (k : Onw S1 S2) : Onw S S2 := ⟨Nat.le_trans h.hp k.hp, k.base.trans h.base, k.tm.trans h.tm⟩

/-- What is asked of what carries out calls. -/
def CallOk (P : Program) (ρ : Env) (callf : Known → FuncId → List SV → St → R (ST × St)) : Prop :=
  ∀ (A : Known) (f : FuncId) (vs : List SV) (S : St) (v : ST) (S1 : St), A.ok ρ → callf A f vs S = .ok (v, S1) →
    ∀ (β : Nat → Nat) (wr w : World), Rep ρ β S wr w → (∀ (t : Nat) (u : ST), S.tm[t]? = some (some u) → ST.fits S.hp.length u = true) →
      Calls P f (vs.map (SV.den ρ β)).toArray w fun e w' =>
        ∃ β', (∀ i, i < S.hp.length → β' i = β i) ∧ Rep ρ β' S1 wr w' ∧ e = .returned (v.den ρ β') ∧ S1.tm = S.tm ∧ Onw S S1

theorem callee_ok (hA : A.ok ρ) (hT : RepA ρ β S a) {c : Call} {f : FuncId} {vs : List SV} (h : callee A S c = .ok (f, vs)) (ty : TypeId) (w : World) :
    (do let d ← resolve a.eval c ty; invoke d.target d.args : Sem Go.Next).run P w = (callFunc f (vs.map (SV.den ρ β)).toArray).run P w := by
  obtain ⟨cal, args, ats⟩ := c
  cases cal with
  | value x =>
    simp only [callee, R.bind_ok] at h
    obtain ⟨c0, hc0, h⟩ := h
    have he := evC_ok hA hT hc0
    split at h
    · rename_i g caps
      simp only [R.bind_ok] at h
      obtain ⟨us, hus, h⟩ := h
      cases h
      have h1 := evVs_ok hA hT hus
      have h2 : args.map a.eval = (us.map (SV.den ρ β)).toArray := by apply Array.ext'; simpa using h1
      simp only [resolve, he, SC.den, Deferred.ofValue, Sem.run_bind, Sem.run_pure, Result.andThen_ok, invoke, h2]
      congr 2
      simp [SV.den, SC.den, Function.comp_def]
    · cases h
  | _ => simp only [callee] at h; cases h

/-- What is asked of a function that is called. -/
def FuncOk (P : Program) (f : FuncId) : Prop := ∃ fn body, P.funcs[f]? = some fn ∧ fn.body = some body ∧ (fn.name != "runtime.NumGoroutine") = true

theorem callFunc_ok {f : FuncId} (h : FuncOk P f) (args : Array Value) (w : World) : (callFunc f args).run P w = .ok (.enter f args) w := by
  obtain ⟨fn, body, h1, h2, h3⟩ := h
  have h3' : ¬ fn.name = "runtime.NumGoroutine" := by simpa using h3
  simp [callFunc, h1, h2, h3']

/-- An operation that is carried out. -/
theorem actS_ok {callf : Known → FuncId → List SV → St → R (ST × St)} (hC : CallOk P ρ callf) (hF : ∀ A f vs S r, callf A f vs S = .ok r → FuncOk P f)
    (hA : A.ok ρ) (hR : Rep ρ β S wr w) (hT : RepA ρ β S a) {o : Oper} {v : ST} (h : actS P A callf o S = .ok (v, S1)) {K : Act → World → Prop} {Q : Exit → Act → World → Prop}
    (hK : ∀ w' β', (∀ i, i < S.hp.length → β' i = β i) → Rep ρ β' S1 wr w' → S1.tm = S.tm → Onw S S1 → K (a.put o.dst (v.den ρ β')) w') : o.wp P a w K Q := by
  have plain : ∀ {t : ST} {e : Ef}, opA P A S o.op = .ok (t, e) → S.eff e = .ok S1 → t = v → o.wp P a w K Q := by
    intro t e h1 h2 ht
    subst ht
    obtain ⟨w', β', r, he, hr, hv⟩ := opA_ok hA hT hR h1
    obtain ⟨g1, g2, g3, g4, g5⟩ := eff_ok hR he h2
    have hn : Onw S S1 := ⟨g3, g4, by rw [g5]⟩
    unfold Oper.wp
    rw [hr]
    rcases hv with rfl | ⟨rfl, rfl⟩
    · exact hK w' β' g2 g1 g5 hn
    · exact hK w' β' g2 g1 g5 hn
  unfold actS at h
  split at h
  · rename_i c hop
    split at h
    · rename_i b hb
      simp only [R.bind_ok] at h
      obtain ⟨p, h1, S2, h2, h⟩ := h
      cases h
      exact plain h1 h2 rfl
    · simp only [R.bind_ok] at h
      obtain ⟨p, h1, h⟩ := h
      obtain ⟨f, vs⟩ := p
      have hc := callee_ok (P := P) hA hT h1 o.type w
      have hf := callFunc_ok (hF _ _ _ _ _ h) (vs.map (SV.den ρ β)).toArray w
      have := hC A f vs S v S1 hA h β wr w hR hT.tok
      unfold Oper.wp
      have he : (execOp a.eval o).run P w = .ok (.enter f (vs.map (SV.den ρ β)).toArray) w := by
        simp only [execOp, hop]
        rw [hc, hf]
      rw [he]
      refine Calls.mono this ?_
      rintro e w' ⟨β', b1, b2, rfl, b4, b5⟩
      exact hK w' β' b1 b2 b4 b5
  · simp only [R.bind_ok] at h
    obtain ⟨p, h1, S2, h2, h⟩ := h
    cases h
    exact plain h1 h2 rfl

/-- One operation of a region: what the machine asks. -/
def OpStep (P : Program) (ops : Array Oper) (o : Oper) (a : Act) (w : World) (K : Act → World → Prop) (Q : Exit → Act → World → Prop) : Prop :=
  if Region.wanted o (yielded ops a.tmps) then o.wp P a w K Q ∨ (o.asks P a w ∧ LetsOut Q) else K (a.put o.dst undef) w

theorem guardX_ok {want : Bool} : ∀ {v : ST} {c : X}, guardX want v = .ok c → ((match v.den ρ β with | .bool b => some b | _ => none) == some want) = c.B ρ := by
  intro v
  induction v with
  | v x =>
    intro c h
    cases x with
    | c x =>
      cases x with
      | cb x =>
        simp only [guardX] at h
        cases h
        simp only [ST.den, SV.den, SC.den]
        cases want <;> cases hx : x.B ρ <;> simp [hx]
      | _ => simp only [guardX] at h; cases h
    | agg l => simp only [guardX] at h; cases h
  | tup l =>
    intro c h
    cases l with
    | nil => simp only [guardX] at h; cases h; simp [ST.den, X.B]
    | cons x l => simp only [guardX] at h; cases h
  | ifv c0 x ih =>
    intro c h
    simp only [guardX, R.bind_ok] at h
    obtain ⟨c1, h1, h⟩ := h
    cases h
    simp only [ST.den, B_mkAnd]
    cases hc : c0.B ρ with
    | true => simpa using ih h1
    | false => simp [undef]

/-- What a guard tells. -/
theorem wantedS_ok (hA : A.ok ρ) (hT : RepA ρ β S a) {ops : Array Oper} {o : Oper} {r : Wt} (h : wantedS A S ops.toList o = .ok r) :
    match r with
    | .yes => Region.wanted o (yielded ops a.tmps) = true
    | .no => Region.wanted o (yielded ops a.tmps) = false
    | .iff c => Region.wanted o (yielded ops a.tmps) = c.B ρ := by
  unfold wantedS at h
  split at h
  · rename_i hg; cases h; simp [Region.wanted, hg]
  · rename_i j want hg
    simp only [R.bind_ok] at h
    obtain ⟨oj, hoj, h⟩ := h
    have hoj := getR_ok.1 hoj
    split at h
    · cases h
    · rename_i d hd
      simp only [nth_eq] at h
      split at h
      · rename_i v hv
        simp only [R.bind_ok] at h
        obtain ⟨c, hc, h⟩ := h
        have hy : Region.wanted o (yielded ops a.tmps) = c.B ρ := by
          rw [← guardX_ok (β := β) hc]
          have h1 : ops[j]? = some oj := by simpa using hoj
          have h2 := hT.tm d v hv
          simp only [Region.wanted, hg, yielded, h1, Option.bind_some, hd, h2]
          cases v.den ρ β <;> rfl
        split at h
        · rename_i e; cases h; simp only; rw [hy]; exact dec_ok hA c true e
        · rename_i e; cases h; simp only; rw [hy]; exact dec_ok hA c false e
        · cases h; exact hy
      · cases h

theorem stepS_ok {callf : Known → FuncId → List SV → St → R (ST × St)} (hC : CallOk P ρ callf) (hF : ∀ A f vs S r, callf A f vs S = .ok r → FuncOk P f)
    (hA : A.ok ρ) (hR : Rep ρ β S wr w) (hT : RepA ρ β S a) {ops : Array Oper} {o : Oper} (h : stepS P A callf ops.toList o S = .ok S1) {K : Act → World → Prop} {Q : Exit → Act → World → Prop}
    (hK : ∀ u w' β', (∀ i, i < S.hp.length → β' i = β i) → Rep ρ β' S1 wr w' → RepA ρ β' S1 (a.put o.dst u) → Onw S S1 → K (a.put o.dst u) w') : OpStep P ops o a w K Q := by
  simp only [stepS, R.bind_ok] at h
  obtain ⟨r, hr, h⟩ := h
  have hw := wantedS_ok hA hT hr
  unfold OpStep
  cases r with
  | yes =>
    simp only [R.bind_ok] at h
    obtain ⟨p, h1, h2⟩ := h
    obtain ⟨v, S2⟩ := p
    simp only at hw
    rw [hw, if_pos rfl]
    refine .inl (actS_ok hC hF hA hR hT h1 fun w' β' b1 b2 b3 b4 => ?_)
    have hT2 : RepA ρ β' S2 a := by
      have := hT.agree b1
      exact ⟨by rw [b3]; exact this.sz, by rw [b3]; exact this.tm, by rw [b3]; exact fun t v h => ST.fits_mono b4.hp (this.tok t v h), this.df⟩
    obtain ⟨c1, c2, c3, c4, c5, c6⟩ := put_ok b2 hT2 h2
    exact hK _ w' β' b1 c1 c2 (b4.trans ⟨by rw [c3]; exact Nat.le_refl _, c4, c6⟩)
  | no =>
    simp only at hw h
    rw [hw]
    simp only [Bool.false_eq_true, if_false]
    obtain ⟨c1, c2, c3, c4, c5, c6⟩ := put_ok hR hT h
    exact hK _ w β (fun _ _ => rfl) c1 c2 ⟨by rw [c3]; exact Nat.le_refl _, c4, c6⟩
  | iff c =>
    simp only at hw h
    split at h
    · rename_i v S2 h1
      split at h
      · rename_i hwr
        split at h
        · rename_i hfit
          rw [len_eq] at hfit
          rw [hw]
          cases hc : c.B ρ with
          | true =>
            rw [if_pos rfl]
            refine .inl (actS_ok hC hF (assume_ok c true hA hc) hR.here (S := { S with base := len S.hp, wr := [] }) ⟨hT.sz, hT.tm, hT.tok, hT.df⟩ h1 fun w' β' b1 b2 b3 b4 => ?_)
            have hb := b2.belowOf hwr
            have hR' := hR.below hb
            have hv : v.den ρ β' = (ST.ifv c v).den ρ β := by
              simp only [ST.den, hc, if_true]; exact ST.fits_den b1 hfit
            rw [hv]
            obtain ⟨c1, c2, c3, c4, c5, c6⟩ := put_ok hR' hT h
            exact hK _ w' β (fun _ _ => rfl) c1 c2 ⟨by rw [c3]; exact Nat.le_refl _, c4, c6⟩
          | false =>
            simp only [Bool.false_eq_true, if_false]
            have hv : undef = (ST.ifv c v).den ρ β := by simp [ST.den, hc]
            rw [hv]
            obtain ⟨c1, c2, c3, c4, c5, c6⟩ := put_ok hR hT h
            exact hK _ w β (fun _ _ => rfl) c1 c2 ⟨by rw [c3]; exact Nat.le_refl _, c4, c6⟩
        · cases h
      · cases h
    · cases h
    · cases h

theorem runS_ok {callf : Known → FuncId → List SV → St → R (ST × St)} (hC : CallOk P ρ callf) (hF : ∀ A f vs S r, callf A f vs S = .ok r → FuncOk P f)
    (hA : A.ok ρ) {ops : Array Oper} {Q : Exit → Act → World → Prop} {S1 : St} : ∀ (l : List Oper) (S : St) (β : Nat → Nat) (a : Act) (w : World), Rep ρ β S wr w → RepA ρ β S a → runS P A callf ops.toList l S = .ok S1 →
    (∀ a' w' β', (∀ i, i < S.hp.length → β' i = β i) → Rep ρ β' S1 wr w' → RepA ρ β' S1 a' → Onw S S1 → Q .normal a' w') → wpList P ops Q l a w
  | [], S, β, a, w, hR, hT, h, hQ => by
    simp only [runS] at h; cases h
    exact hQ a w β (fun _ _ => rfl) hR hT (.refl _)
  | o :: l, S, β, a, w, hR, hT, h, hQ => by
    simp only [runS, R.bind_ok] at h
    obtain ⟨S2, h1, h2⟩ := h
    exact stepS_ok hC hF hA hR hT h1 fun u w' β' b1 b2 b3 b4 =>
      runS_ok hC hF hA l S2 β' _ w' b2 b3 h2 fun a'' w'' β'' d1 d2 d3 d4 =>
        hQ a'' w'' β'' (fun i hi => (d1 i (Nat.lt_of_lt_of_le hi b4.hp)).trans (b1 i hi)) d2 d3 (b4.trans d4)
end
end Go.Sx
