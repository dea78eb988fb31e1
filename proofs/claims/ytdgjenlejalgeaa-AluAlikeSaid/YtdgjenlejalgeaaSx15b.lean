/- Regions of operations that change nothing. -/
import Derived.Test.YtdgjenlejalgeaaSx15
namespace Go.Sx

section
variable {P : Program} {A : Known}

theorem ev_frame {S S' : St} {x : Operand} (h : ∀ t ∈ opd x, nth S'.tm t = nth S.tm t) : ev A S' x = ev A S x := by
  cases x with
  | tmp t => have := h t (by simp [opd]); simp only [ev, this]
  | _ => rfl
theorem evV_frame {S S' : St} {x : Operand} (h : ∀ t ∈ opd x, nth S'.tm t = nth S.tm t) : evV A S' x = evV A S x := by
  unfold evV; rw [ev_frame h]
theorem evC_frame {S S' : St} {x : Operand} (h : ∀ t ∈ opd x, nth S'.tm t = nth S.tm t) : evC A S' x = evC A S x := by
  unfold evC; rw [evV_frame h]
theorem evVs_frame {S S' : St} : ∀ {l : List Operand}, (∀ t ∈ opds l, nth S'.tm t = nth S.tm t) → evVs A S' l = evVs A S l
  | [], _ => rfl
  | x :: l, h => by
    simp only [evVs]
    rw [evV_frame (fun t ht => h t (by simp [opds, ht])), evVs_frame (fun t ht => h t (by simp [opds, ht]))]

/-- An operation that changes nothing looks at its slots alone. -/
theorem opA_frame {tm tm' : List (Option ST)} {hp : List (Option Blk)} {b b' : Nat} {wr wr' : List Nat} {o : Op} {rs : List Nat} (hc : calmR o = some rs) (h : ∀ t ∈ rs, nth tm' t = nth tm t) :
    opA P A ⟨tm', hp, b', wr'⟩ o = opA P A ⟨tm, hp, b, wr⟩ o := by
  have e1 : ∀ x : Operand, (∀ t ∈ opd x, nth tm' t = nth tm t) → evC A ⟨tm', hp, b', wr'⟩ x = evC A ⟨tm, hp, b, wr⟩ x := fun x hx => evC_frame hx
  have e2 : ∀ x : Operand, (∀ t ∈ opd x, nth tm' t = nth tm t) → evV A ⟨tm', hp, b', wr'⟩ x = evV A ⟨tm, hp, b, wr⟩ x := fun x hx => evV_frame hx
  have e3 : ∀ x : Operand, (∀ t ∈ opd x, nth tm' t = nth tm t) → ∀ A, ev A ⟨tm', hp, b', wr'⟩ x = ev A ⟨tm, hp, b, wr⟩ x := fun x hx A => ev_frame hx
  have e4 : ∀ l : List Operand, (∀ t ∈ opds l, nth tm' t = nth tm t) → evVs A ⟨tm', hp, b', wr'⟩ l = evVs A ⟨tm, hp, b, wr⟩ l := fun l hl => evVs_frame hl
  have hb : blkAt ⟨tm', hp, b', wr'⟩ = blkAt ⟨tm, hp, b, wr⟩ := rfl
  have hl : loadS P ⟨tm', hp, b', wr'⟩ = loadS P ⟨tm, hp, b, wr⟩ := rfl
  have hr : rowOf A ⟨tm', hp, b', wr'⟩ = rowOf A ⟨tm, hp, b, wr⟩ := by
    funext sz x
    cases x <;> rfl
  have two : ∀ {x y : List Nat}, rs = x ++ y → (∀ t ∈ x, nth tm' t = nth tm t) ∧ ∀ t ∈ y, nth tm' t = nth tm t := by
    rintro x y rfl
    exact ⟨fun t ht => h t (List.mem_append_left _ ht), fun t ht => h t (List.mem_append_right _ ht)⟩
  cases o with
  | move x =>
    simp only [calmR, Option.some.injEq] at hc; subst hc
    simp only [opA, opS, opR, opP, opT, e3 x h]
  | assign x =>
    simp only [calmR, Option.some.injEq] at hc; subst hc
    simp only [opA, opS, opR, opP, opT, e3 x h]
  | pick c x y =>
    simp only [calmR, Option.some.injEq] at hc
    obtain ⟨h1, h2⟩ := two hc.symm
    have h3 : ∀ t ∈ opd x, nth tm' t = nth tm t := fun t ht => h2 t (List.mem_append_left _ ht)
    have h4 : ∀ t ∈ opd y, nth tm' t = nth tm t := fun t ht => h2 t (List.mem_append_right _ ht)
    simp only [opA, opS, opR, opP, opT, e1 c h1, e3 x h3, e3 y h4]
  | load ty x =>
    simp only [calmR, Option.some.injEq] at hc; subst hc
    simp only [opA, opS, opR, opP, opT, e1 x h, hl]
  | nilCheck x =>
    simp only [calmR, Option.some.injEq] at hc; subst hc
    simp only [opA, opS, opR, opP, opT, e1 x h]
  | binOp op ty x y yt =>
    simp only [calmR, Option.some.injEq] at hc
    obtain ⟨h1, h2⟩ := two hc.symm
    simp only [opA, opS, opR, opP, opT, e1 x h1, e1 y h2, e2 x h1, e2 y h2]
  | unOp op ty x =>
    simp only [calmR, Option.some.injEq] at hc; subst hc
    simp only [opA, opS, opR, opP, opT, e1 x h]
  | convert s d x =>
    simp only [calmR, Option.some.injEq] at hc; subst hc
    simp only [opA, opS, opR, opP, opT, e1 x h, hb]
  | fieldAddr ty x f =>
    simp only [calmR, Option.some.injEq] at hc; subst hc
    simp only [opA, opS, opR, opP, opT, e1 x h]
  | field ty x f =>
    simp only [calmR, Option.some.injEq] at hc; subst hc
    simp only [opA, opS, opR, opP, opT, e2 x h]
  | indexAddr ty x ix =>
    simp only [calmR, Option.some.injEq] at hc
    obtain ⟨h1, h2⟩ := two hc.symm
    simp only [opA, opS, opR, opP, opT, e1 x h1, e1 ix h2]
  | index ty x ix =>
    simp only [calmR, Option.some.injEq] at hc
    obtain ⟨h1, h2⟩ := two hc.symm
    simp only [opA, opS, opR, opP, opT, e1 x h1, e1 ix h2, e2 x h1]
  | extract x i =>
    simp only [calmR, Option.some.injEq] at hc; subst hc
    simp only [opA, opS, opR, opP, opT, e3 x h]
  | build ty parts =>
    simp only [calmR, Option.some.injEq] at hc; subst hc
    simp only [opA, opS, opR, opP, opT, e4 _ h]
  | call c =>
    obtain ⟨cal, args, ats⟩ := c
    cases cal with
    | builtin bb =>
      cases bb with
      | len =>
        simp only [calmR, Option.some.injEq] at hc; subst hc
        simp only [opA, opS, opR, opP, opT, e4 _ h, hb, hr]
      | min =>
        simp only [calmR, Option.some.injEq] at hc; subst hc
        simp only [opA, opS, opR, opP, opT, e4 _ h]
      | max =>
        simp only [calmR, Option.some.injEq] at hc; subst hc
        simp only [opA, opS, opR, opP, opT, e4 _ h]
      | _ => simp [calmR] at hc
    | _ => simp [calmR] at hc
  | _ => simp [calmR] at hc

theorem wanted_frame {tm tm' : List (Option ST)} {hp : List (Option Blk)} {b b' : Nat} {wr wr' : List Nat} {ops : List Oper} {o : Oper} (h : ∀ t ∈ guardR ops o, nth tm' t = nth tm t) :
    wantedS A ⟨tm', hp, b', wr'⟩ ops o = wantedS A ⟨tm, hp, b, wr⟩ ops o := by
  unfold wantedS
  unfold guardR at h
  cases hg : o.guard with
  | none => rfl
  | some p =>
    obtain ⟨j, w⟩ := p
    simp only [hg] at h ⊢
    unfold getR ofOpt
    cases hj : nth ops j with
    | none => rfl
    | some oj =>
      simp only [hj] at h ⊢
      cases hd : oj.dst with
      | none => show (match oj.dst with | none => _ | some d => _) = (match oj.dst with | none => _ | some d => _); rw [hd]
      | some d =>
        have := h d (by simp [hd])
        show (match oj.dst with | none => _ | some d => _) = (match oj.dst with | none => _ | some d => _)
        rw [hd]
        simp only [this]

theorem put_none {S : St} {d : Tmp} {v : ST} (h : v.fits (len S.hp) = true) : S.put (some d) v = .ok { S with tm := setAt S.tm d (some v) } := by
  simp only [St.put, h, if_true]

/-- One operation of a calm region, in a state of which slots are struck. -/
theorem calmStep_step {callf : Known → FuncId → List SV → St → R (ST × St)} {ops : List Oper} {o : Oper} {T : St} {tm' : List (Option ST)} {rs : List Nat} {d : Tmp} {v : ST} (hc : calmR o.op = some rs) (hd : o.dst = some d)
    (h : ∀ t ∈ guardR ops o ++ rs, nth tm' t = nth T.tm t) (hv : calmStep P A ops o T = .ok v) (hf : v.fits (len T.hp) = true) :
    stepS P A callf ops o ⟨tm', T.hp, len T.hp, []⟩ = .ok ⟨setAt tm' d (some v), T.hp, len T.hp, []⟩ := by
  obtain ⟨tm, hp, b, wr⟩ := T
  have hg : ∀ t ∈ guardR ops o, nth tm' t = nth tm t := fun t ht => h t (List.mem_append_left _ ht)
  have hr : ∀ t ∈ rs, nth tm' t = nth tm t := fun t ht => h t (List.mem_append_right _ ht)
  have hact : ∀ (A : Known) (S : St), actS P A callf o S = (opA P A S o.op >>= fun x => S.eff x.2 >>= fun y => .ok (x.1, y)) := by
    intro A S
    unfold actS
    split
    · rename_i c hop
      split
      · rename_i bb hcal
        rfl
      · rename_i hcal
        rw [hop] at hc
        obtain ⟨cal, args, ats⟩ := c
        cases cal with
        | builtin bb => exact absurd rfl (hcal bb)
        | _ => simp [calmR] at hc
    · rfl
  unfold calmStep at hv
  obtain ⟨w, hw, hv⟩ := R.bind_ok.1 hv
  unfold stepS
  rw [wanted_frame (b := b) (wr := wr) hg, hw]
  show (match w with | .yes => _ | .no => _ | .iff c => _) = _
  cases w with
  | yes =>
    simp only at hv ⊢
    obtain ⟨x, hx, hv⟩ := R.bind_ok.1 hv
    obtain ⟨u, e⟩ := x
    cases e with
    | none =>
      simp only at hv
      cases hv
      rw [hact, opA_frame (b := b) (wr := wr) hc hr, hx]
      show ((⟨tm', hp, len hp, []⟩ : St).put o.dst v) = _
      rw [hd]; exact put_none (S := ⟨tm', hp, len hp, []⟩) hf
    | _ => simp only at hv; cases hv
  | no =>
    simp only at hv ⊢
    cases hv
    rw [hd]; exact put_none (S := ⟨tm', hp, len hp, []⟩) hf
  | iff c =>
    simp only at hv ⊢
    rw [hact, opA_frame (b := b) (wr := wr) hc hr]
    cases hx : opA P (A.assume c true) ⟨tm, hp, b, wr⟩ o.op with
    | ok x =>
      obtain ⟨u, e⟩ := x
      rw [hx] at hv
      cases e with
      | none =>
        simp only at hv
        split at hv
        · rename_i hu
          cases hv
          have e : ((R.ok (u, Ef.none) >>= fun x => St.eff ⟨tm', hp, len hp, []⟩ x.2 >>= fun y => R.ok (x.1, y)) : R (ST × St)) = .ok (u, ⟨tm', hp, len hp, []⟩) := rfl
          rw [e]
          simp only [hu, if_true]
          rw [hd]; exact put_none (S := ⟨tm', hp, len hp, []⟩) hf
        · cases hv
      | _ => simp only at hv; cases hv
    | split q => rw [hx] at hv; simp only at hv; cases hv
    | fail m => rw [hx] at hv; simp only at hv; cases hv

theorem wipe_at {α : Type} : ∀ (l : List (Option α)) (m n : Nat), m.testBit n = false → nth (wipe l m) n = nth l n
  | [], _, _, _ => rfl
  | x :: l, m, n, h => by
    simp only [wipe]
    split
    · rfl
    · cases n with
      | zero =>
        have h0 : Nat.mod m 2 = 0 := by
          rw [Nat.testBit_zero] at h
          have h := of_decide_eq_false h
          show m % 2 = 0
          omega
        rw [h0]; rfl
      | succ n =>
        simp only [nth]
        exact wipe_at l (Nat.div m 2) n (by rw [Nat.testBit_succ] at h; exact h)
theorem wipe_zero {α : Type} (l : List (Option α)) : wipe l 0 = l := by cases l <;> rfl

/-- The masks of a calm region. -/
theorem maskG_calm {bs : List Nat} {bi i : Nat} {own : List Nat} : ∀ {L : List Oper} {bl : List Nat} {j tm : Nat}, (∀ k, bl[k]? = bs[j + k]?) →
    (∀ (k : Nat) (o : Oper), L[k]? = some o → i ≠ j + k → ∀ d, o.dst = some d → d ∉ own) →
    ∃ tm', maskG bi i (own, []) (L.map fun o => (o.dst.toList, [])) bl j tm 0 = .ok (tm', 0) ∧
      ∀ n, tm'.testBit n = true → tm.testBit n = true ∨ ∃ (k : Nat) (o : Oper), L[k]? = some o ∧ unord bs bi i (j + k) = true ∧ o.dst = some n
  | [], bl, j, tm, _, _ => ⟨tm, rfl, fun n h => .inl h⟩
  | o :: L, bl, j, tm, hb, hd => by
    have hb' : ∀ k, (tlM bl)[k]? = bs[j + 1 + k]? := by
      intro k
      have := hb (k + 1)
      rw [show j + (k + 1) = j + 1 + k by omega] at this
      rw [← this]
      cases bl <;> simp [tlM]
    have hu : (!Nat.beq i j && !bi.testBit j && !((hdM bl).testBit i)) = unord bs bi i j := by
      unfold unord
      have := hb 0
      rw [Nat.add_zero] at this
      rw [nth_eq, ← this]
      cases bl <;> simp [hdM]
    have hd' : ∀ (k : Nat) (o : Oper), L[k]? = some o → i ≠ j + 1 + k → ∀ d, o.dst = some d → d ∉ own := fun k o hk hne => hd (k + 1) o (by simpa using hk) (by omega)
    simp only [List.map_cons, maskG, hu]
    cases huv : unord bs bi i j with
    | true =>
      have hne : i ≠ j := by
        intro e
        subst e
        simp [unord] at huv
      have hdj : (disj own o.dst.toList && disj [] []) = true := by
        simp only [disj, allB, Bool.and_true, allB_eq, Bool.not_eq_true']
        intro x hx
        cases hm : mem x o.dst.toList with
        | false => rfl
        | true =>
          have := mem_iff.1 hm
          cases hod : o.dst with
          | none => rw [hod] at this; simp at this
          | some d =>
            rw [hod] at this
            simp at this
            subst this
            exact absurd hx (hd 0 o rfl (by omega) x hod)
      simp only [if_true, hdj]
      obtain ⟨tm', h1, h2⟩ := maskG_calm (bi := bi) (i := i) (L := L) (tm := bitsL o.dst.toList tm) hb' hd'
      refine ⟨tm', h1, fun n hn => ?_⟩
      rcases h2 n hn with h3 | ⟨k, o', k1, k2, k3⟩
      · rw [bitsL_bit, Bool.or_eq_true] at h3
        rcases h3 with h3 | h3
        · exact .inl h3
        · refine .inr ⟨0, o, rfl, huv, ?_⟩
          have := mem_iff.1 h3
          cases hod : o.dst with
          | none => rw [hod] at this; simp at this
          | some d => rw [hod] at this; simp at this; rw [this]
      · exact .inr ⟨k + 1, o', by simpa using k1, by rw [show j + (k + 1) = j + 1 + k by omega]; exact k2, k3⟩
    | false =>
      simp only [Bool.false_eq_true, if_false]
      obtain ⟨tm', h1, h2⟩ := maskG_calm (bi := bi) (i := i) (L := L) (tm := tm) hb' hd'
      refine ⟨tm', h1, fun n hn => ?_⟩
      rcases h2 n hn with h3 | ⟨k, o', k1, k2, k3⟩
      · exact .inl h3
      · exact .inr ⟨k + 1, o', by simpa using k1, by rw [show j + (k + 1) = j + 1 + k by omega]; exact k2, k3⟩

theorem once_ok : ∀ {l : List Oper} {seen : List Nat}, onceB l seen = true → (∀ (k : Nat) (o : Oper) (d : Nat), l[k]? = some o → o.dst = some d → d ∉ seen) ∧
    ∀ (j k : Nat) (o o' : Oper) (d : Nat), l[j]? = some o → l[k]? = some o' → o.dst = some d → o'.dst = some d → j = k
  | [], seen, _ => ⟨fun k o d h => by simp at h, fun j k o o' d h => by simp at h⟩
  | o :: l, seen, h => by
    simp only [onceB] at h
    cases hod : o.dst with
    | none =>
      rw [hod] at h
      obtain ⟨a1, a2⟩ := once_ok (l := l) h
      refine ⟨fun k o' d hk hd => ?_, fun j k o1 o2 d hj hk h1 h2 => ?_⟩
      · cases k with
        | zero => simp at hk; subst hk; rw [hod] at hd; cases hd
        | succ k => exact a1 k o' d (by simpa using hk) hd
      · cases j with
        | zero => simp at hj; subst hj; rw [hod] at h1; cases h1
        | succ j =>
          cases k with
          | zero => simp at hk; subst hk; rw [hod] at h2; cases h2
          | succ k => rw [a2 j k o1 o2 d (by simpa using hj) (by simpa using hk) h1 h2]
    | some e =>
      rw [hod] at h
      simp only [Bool.and_eq_true, Bool.not_eq_true'] at h
      obtain ⟨h0, h⟩ := h
      obtain ⟨a1, a2⟩ := once_ok (l := l) h
      refine ⟨fun k o' d hk hd => ?_, fun j k o1 o2 d hj hk h1 h2 => ?_⟩
      · cases k with
        | zero =>
          simp at hk; subst hk; rw [hod] at hd; cases hd
          intro hm; rw [mem_iff.2 hm] at h0; cases h0
        | succ k =>
          have := a1 k o' d (by simpa using hk) hd
          exact fun hm => this (List.mem_cons_of_mem _ hm)
      · cases j with
        | zero =>
          simp at hj; subst hj
          rw [hod] at h1; cases h1
          cases k with
          | zero => rfl
          | succ k => exact absurd (List.mem_cons_self) (a1 k o2 _ (by simpa using hk) h2)
        | succ j =>
          cases k with
          | zero =>
            simp at hk; subst hk
            rw [hod] at h2; cases h2
            exact absurd (List.mem_cons_self) (a1 j o1 _ (by simpa using hj) h1)
          | succ k => rw [a2 j k o1 o2 d (by simpa using hj) (by simpa using hk) h1 h2]

theorem writer_ok {t : Nat} : ∀ {l : List Oper} {j : Nat} {r : Option Nat}, writer t l j = r →
    (∀ q, r = some q → ∃ (k : Nat) (o : Oper), q = j + k ∧ l[k]? = some o ∧ o.dst = some t) ∧ (r = none → ∀ (k : Nat) (o : Oper), l[k]? = some o → o.dst ≠ some t)
  | [], j, r, h => by
    simp only [writer] at h; subst h
    exact ⟨fun q h => (by cases h), fun _ k o hk => by simp at hk⟩
  | o :: l, j, r, h => by
    simp only [writer] at h
    have rest : ∀ {r}, writer t l (j + 1) = r → o.dst ≠ some t →
        (∀ q, r = some q → ∃ (k : Nat) (o' : Oper), q = j + k ∧ (o :: l)[k]? = some o' ∧ o'.dst = some t) ∧ (r = none → ∀ (k : Nat) (o' : Oper), (o :: l)[k]? = some o' → o'.dst ≠ some t) := by
      intro r h hne
      obtain ⟨a1, a2⟩ := writer_ok h
      refine ⟨fun q hq => ?_, fun hr k o' hk => ?_⟩
      · obtain ⟨k, o', k1, k2, k3⟩ := a1 q hq
        exact ⟨k + 1, o', by omega, by simpa using k2, k3⟩
      · cases k with
        | zero => simp at hk; subst hk; exact hne
        | succ k => exact a2 hr k o' (by simpa using hk)
    cases hod : o.dst with
    | none => rw [hod] at h; exact rest h (by rw [hod]; simp)
    | some d =>
      rw [hod] at h
      simp only at h
      split at h
      · rename_i hd
        have hd := Nat.eq_of_beq_eq_true hd
        subst hd
        subst h
        exact ⟨fun q hq => by cases hq; exact ⟨0, o, rfl, rfl, hod⟩, fun h => (by cases h)⟩
      · rename_i hd
        exact rest h (by rw [hod]; intro e; cases e; exact hd (Nat.beq_refl _))

theorem chk_true {m : String} {b : Bool} {α : Type} {f : Unit → R α} (h : b = true) : (chk m b >>= f) = f () := by subst h; rfl
theorem readsOk_ok {ops : List Oper} {bs : List Nat} {bi i : Nat} : ∀ {l : List Nat}, readsOk ops bs bi i l = true → ∀ t ∈ l, ∀ j, writer t ops 0 = some j → unord bs bi i j = false
  | [], _, t, ht => by simp at ht
  | x :: l, h, t, ht => by
    simp only [readsOk, Bool.and_eq_true] at h
    intro j hj
    rcases List.mem_cons.1 ht with rfl | ht
    · have := h.1
      rw [hj] at this
      simpa using this
    · exact readsOk_ok h.2 t ht j hj

/-- What the operations of a calm region write. -/
def dsts (ops : List Oper) : List (List Nat × List Nat) := ops.map fun o => (o.dst.toList, [])
theorem badS_calm (bs : List Nat) (bi i : Nat) : ∀ (l : List Oper) (j : Nat), badS bs bi i (dsts l) j = []
  | [], _ => rfl
  | o :: l, j => by
    simp only [dsts, List.map_cons, badS]
    have := badS_calm bs bi i l (j + 1)
    simp only [dsts] at this
    rw [this]
    split <;> rfl
theorem SC.avoids_nil (x : SC) : x.avoids [] = true := by
  cases x <;> simp [SC.avoids, mem, allB_eq]
theorem SV.avoids_nil (x : SV) : x.avoids [] = true := by
  cases x with
  | c x => exact SC.avoids_nil x
  | agg l => simp only [SV.avoids, allB_eq]; exact fun x _ => SC.avoids_nil x
theorem ST.avoids_nil (x : ST) : x.avoids [] = true := by
  induction x with
  | v x => exact SV.avoids_nil x
  | tup l => simp only [ST.avoids, allB_eq]; exact fun x _ => SV.avoids_nil x
  | ifv c x ih => exact ih

theorem calm2_drawn {callf : Known → FuncId → List SV → St → R (ST × St)} {ops : List Oper} {bs : List Nat} (hon : onceB ops [] = true) : ∀ {l : List Oper} {i : Nat} {T T' : St}, (∀ k, l[k]? = ops[i + k]?) →
    calm2 P A ops bs l i T = .ok T' → drawn2 P A callf ops bs (dsts ops) l i T = .ok T'
  | [], i, T, T', _, h => by simp only [calm2] at h; cases h; rfl
  | o :: l, i, T, T', hl, h => by
    have hoi : ops[i]? = some o := by have := hl 0; rw [Nat.add_zero] at this; rw [← this]; rfl
    have hl' : ∀ k, l[k]? = ops[i + 1 + k]? := fun k => by have := hl (k + 1); rw [show i + (k + 1) = i + 1 + k by omega] at this; rw [← this]; rfl
    unfold calm2 at h
    obtain ⟨bi, hbi, h⟩ := R.bind_ok.1 h
    split at h
    case h_2 => cases h
    rename_i rs d hc hd
    simp only [R.bind_ok, chk_ok, Bool.and_eq_true] at h
    obtain ⟨_, ⟨hrd, hdl⟩, v, hv, _, hvf, h⟩ := h
    obtain ⟨a1, a2⟩ := once_ok hon
    -- the masks
    obtain ⟨m, hm, hbits⟩ := maskG_calm (bs := bs) (bi := bi) (i := i) (own := o.dst.toList) (L := ops) (bl := bs) (j := 0) (tm := 0) (fun k => by rw [Nat.zero_add]) (fun k o' hk hne e he hmem => by
      rw [hd] at hmem
      simp at hmem
      subst hmem
      exact hne (by rw [Nat.zero_add]; exact a2 i k o o' _ hoi hk hd he))
    have hM : maskS bs bi i (o.dst.toList, []) (dsts ops) { T with base := len T.hp, wr := [] } = .ok ⟨wipe T.tm m, T.hp, len T.hp, []⟩ := by
      unfold maskS dsts
      rw [hm]
      simp only [wipe_zero]
    have hfr : ∀ t ∈ guardR ops o ++ rs, nth (wipe T.tm m) t = nth T.tm t := by
      intro t ht
      refine wipe_at _ _ _ ?_
      cases hb : m.testBit t with
      | false => rfl
      | true =>
        rcases hbits t hb with h0 | ⟨k, o', k1, k2, k3⟩
        · simp at h0
        · rw [Nat.zero_add] at k2
          cases hw : writer t ops 0 with
          | none => exact absurd k3 ((writer_ok hw).2 rfl k o' k1)
          | some q =>
            obtain ⟨k', o2, q1, q2, q3⟩ := (writer_ok hw).1 q rfl
            rw [Nat.zero_add] at q1
            subst q1
            have := a2 q k o2 o' t q2 k1 q3 k3
            subst this
            rw [readsOk_ok hrd t ht q hw] at k2
            cases k2
    have hst := calmStep_step (callf := callf) hc hd hfr hv hvf
    have hrest := calm2_drawn (callf := callf) hon hl' h
    have hgo : getR "oracle" (dsts ops) i = .ok (o.dst.toList, []) := by
      rw [getR_ok]
      simp [dsts, hoi]
    unfold drawn2
    rw [hbi]
    show (getR "oracle" (dsts ops) i >>= _) = _
    rw [hgo]
    show (maskS bs bi i (o.dst.toList, []) (dsts ops) { T with base := len T.hp, wr := [] } >>= _) = _
    rw [hM]
    show (stepS P A callf ops o ⟨wipe T.tm m, T.hp, len T.hp, []⟩ >>= _) = _
    rw [hst]
    have hlen : d < (wipe T.tm m).length := by rw [wipe_len]; have h3 := Nat.le_of_ble_eq_true hdl; rw [len_eq] at h3; exact h3
    have hat : at2 (setAt (wipe T.tm m) d (some v)) d = some v := by rw [at2_set _ _ _ _ hlen]; simp
    have c1 : (sub o.dst.toList o.dst.toList && sub ([] : List Nat) [] && sub (rangeL (len T.hp) (len T.hp - len T.hp)) []) = true := by
      rw [Nat.sub_self]
      simp only [sub, rangeL, allB, Bool.and_true, allB_eq]
      intro x hx
      exact mem_iff.2 hx
    have hdrop : dropN (len T.hp) T.hp = [] := by rw [dropN_eq, len_eq, List.drop_length]
    have hall : ∀ (p : ST → Bool) (q : Blk → Bool), p v = true → Rec.all ⟨o.dst, len T.hp, ⟨setAt (wipe T.tm m) d (some v), T.hp, len T.hp, []⟩⟩ p q = true := by
      intro p q hp
      simp only [Rec.all, hd, hat, optT, hp, allB, hdrop, Bool.and_true]
    have c2 : (allB (fun id => match at2 (wipe T.hp 0) id with | some _ => true | none => false) ([] : List Nat)) = true := rfl
    have c3 : (match o.dst with | some t => Nat.ble (t + 1) (len T.tm) | none => true) = true := by rw [hd]; exact hdl
    have hup : Rec.upd ⟨o.dst, len T.hp, ⟨setAt (wipe T.tm m) d (some v), T.hp, len T.hp, []⟩⟩ T = { T with tm := setAt T.tm d (some v) } := by
      simp only [Rec.upd, hd, hat, copyHp, addWr, hdrop, List.append_nil]
    show (chk _ _ >>= fun _ => chk _ _ >>= fun _ => chk _ _ >>= fun _ => drawn2 P A callf ops bs (dsts ops) l (i + 1) _) = _
    simp only [badS_calm]
    rw [chk_true c1, chk_true, chk_true, hup]
    · exact hrest
    · simp only [Bool.and_eq_true]
      exact ⟨⟨hall _ _ hvf, by simp⟩, c3⟩
    · simp only [Bool.and_eq_true]
      exact ⟨rfl, hall _ _ (ST.avoids_nil v)⟩

/-! ### Slots that are not struck -/
theorem optC_frame {S S' : St} {x : Option Operand} (h : ∀ t ∈ optd x, nth S'.tm t = nth S.tm t) : optC A S' x = optC A S x := by
  cases x with
  | none => rfl
  | some x => simp only [optC]; rw [evC_frame h]
theorem opK_frame {tm tm' : List (Option ST)} {hp : List (Option Blk)} {b b' : Nat} {wr wr' : List Nat} {o : Op} {rs : List Nat} (hc : knowR o = some rs) (h : ∀ t ∈ rs, nth tm' t = nth tm t) :
    opA P A ⟨tm', hp, b', wr'⟩ o = opA P A ⟨tm, hp, b, wr⟩ o := by
  have e1 : ∀ x : Operand, (∀ t ∈ opd x, nth tm' t = nth tm t) → evC A ⟨tm', hp, b', wr'⟩ x = evC A ⟨tm, hp, b, wr⟩ x := fun x hx => evC_frame hx
  have e2 : ∀ x : Operand, (∀ t ∈ opd x, nth tm' t = nth tm t) → evV A ⟨tm', hp, b', wr'⟩ x = evV A ⟨tm, hp, b, wr⟩ x := fun x hx => evV_frame hx
  have e4 : ∀ l : List Operand, (∀ t ∈ opds l, nth tm' t = nth tm t) → evVs A ⟨tm', hp, b', wr'⟩ l = evVs A ⟨tm, hp, b, wr⟩ l := fun l hl => evVs_frame hl
  have e5 : ∀ x : Option Operand, (∀ t ∈ optd x, nth tm' t = nth tm t) → optC A ⟨tm', hp, b', wr'⟩ x = optC A ⟨tm, hp, b, wr⟩ x := fun l hl => optC_frame hl
  have hb : blkAt ⟨tm', hp, b', wr'⟩ = blkAt ⟨tm, hp, b, wr⟩ := rfl
  have hs : storeS P ⟨tm', hp, b', wr'⟩ = storeS P ⟨tm, hp, b, wr⟩ := rfl
  have hr : rowOf A ⟨tm', hp, b', wr'⟩ = rowOf A ⟨tm, hp, b, wr⟩ := by
    funext sz x
    cases x <;> rfl
  have two : ∀ {x y : List Nat}, rs = x ++ y → (∀ t ∈ x, nth tm' t = nth tm t) ∧ ∀ t ∈ y, nth tm' t = nth tm t := by
    rintro x y rfl
    exact ⟨fun t ht => h t (List.mem_append_left _ ht), fun t ht => h t (List.mem_append_right _ ht)⟩
  cases o with
  | alloc ty => simp only [opA, opS, opR, opP, opT]
  | box ty x =>
    simp only [knowR, Option.some.injEq] at hc; subst hc
    simp only [opA, opS, opR, opP, opT, e2 x h]
  | buildSlice ty n parts =>
    simp only [knowR, Option.some.injEq] at hc; subst hc
    simp only [opA, opS, opR, opP, opT, e4 _ h]
  | store ty a x =>
    simp only [knowR, Option.some.injEq] at hc
    obtain ⟨h1, h2⟩ := two hc.symm
    simp only [opA, opS, opR, opP, opT, e1 a h1, e2 x h2, hs]
  | slice ty x lo hi mx =>
    simp only [knowR, Option.some.injEq] at hc
    obtain ⟨h1, h2⟩ := two hc.symm
    have h3 : ∀ t ∈ optd lo, nth tm' t = nth tm t := fun t ht => h2 t (List.mem_append_left _ ht)
    have h4 : ∀ t ∈ optd hi, nth tm' t = nth tm t := fun t ht => h2 t (List.mem_append_right _ (List.mem_append_left _ ht))
    have h5 : ∀ t ∈ optd mx, nth tm' t = nth tm t := fun t ht => h2 t (List.mem_append_right _ (List.mem_append_right _ ht))
    simp only [opA, opS, opR, opP, opT, e1 x h1, e5 lo h3, e5 hi h4, e5 mx h5]
  | makeSlice ty l c =>
    simp only [knowR, Option.some.injEq] at hc
    obtain ⟨h1, h2⟩ := two hc.symm
    simp only [opA, opS, opR, opP, opT, e1 l h1, e1 c h2]
  | call c =>
    obtain ⟨cal, args, ats⟩ := c
    cases cal with
    | builtin bb =>
      cases bb with
      | append =>
        simp only [knowR, Option.some.injEq] at hc; subst hc
        simp only [opA, opS, opR, opP, opT, e4 _ h, hb, hr]
      | copy =>
        simp only [knowR, Option.some.injEq] at hc; subst hc
        simp only [opA, opS, opR, opP, opT, e4 _ h, hb]
      | _ => exact opA_frame (by simpa only [knowR] using hc) h
    | _ => exact opA_frame (by simpa only [knowR] using hc) h
  | _ => exact opA_frame (by simpa only [knowR] using hc) h

theorem eff_frame {tm tm' : List (Option ST)} {hp : List (Option Blk)} {b : Nat} {wr : List Nat} {e : Ef} {S1 : St} (h : St.eff ⟨tm, hp, b, wr⟩ e = .ok S1) : S1.tm = tm ∧ St.eff ⟨tm', hp, b, wr⟩ e = .ok { S1 with tm := tm' } := by
  cases e with
  | none => simp only [St.eff] at h ⊢; cases h; exact ⟨rfl, rfl⟩
  | new k =>
    simp only [St.eff] at h ⊢
    split at h
    · rename_i hk; cases h; rw [if_pos hk]; exact ⟨rfl, rfl⟩
    · cases h
  | upd id k =>
    simp only [St.eff] at h ⊢
    split at h
    · rename_i hk; cases h; rw [if_pos hk]; exact ⟨rfl, rfl⟩
    · cases h
  | app old k =>
    cases old with
    | none =>
      simp only [St.eff] at h ⊢
      split at h
      · rename_i hk; cases h; rw [if_pos hk]; exact ⟨rfl, rfl⟩
      · cases h
    | some id =>
      simp only [St.eff] at h ⊢
      split at h
      · rename_i hk; cases h; rw [if_pos hk]; exact ⟨rfl, rfl⟩
      · cases h

theorem act_know {callf : Known → FuncId → List SV → St → R (ST × St)} {o : Oper} {rs : List Nat} (hc : knowR o.op = some rs) (A : Known) (S : St) :
    actS P A callf o S = (opA P A S o.op >>= fun x => S.eff x.2 >>= fun y => .ok (x.1, y)) := by
  unfold actS
  split
  · rename_i c hop
    split
    · rename_i bb hcal
      rfl
    · rename_i hcal
      rw [hop] at hc
      obtain ⟨cal, args, ats⟩ := c
      cases cal with
      | builtin bb => exact absurd rfl (hcal bb)
      | _ => simp [knowR, calmR] at hc
  · rfl

theorem act_frame {callf : Known → FuncId → List SV → St → R (ST × St)} {o : Oper} {rs : List Nat} (hc : knowR o.op = some rs) {A : Known} {tm tm' : List (Option ST)} {hp : List (Option Blk)} {b : Nat} {wr : List Nat} (h : ∀ t ∈ rs, nth tm' t = nth tm t) :
    actS P A callf o ⟨tm', hp, b, wr⟩ = (match actS P A callf o ⟨tm, hp, b, wr⟩ with
      | .ok (v, S1) => .ok (v, { S1 with tm := tm' })
      | .split c => .split c
      | .fail m => .fail m) ∧ ∀ v S1, actS P A callf o ⟨tm, hp, b, wr⟩ = .ok (v, S1) → S1.tm = tm := by
  rw [act_know hc, act_know hc, opK_frame (b := b) (wr := wr) hc h]
  cases hx : opA P A ⟨tm, hp, b, wr⟩ o.op with
  | split q => exact ⟨rfl, fun v S1 h => by cases h⟩
  | fail m => exact ⟨rfl, fun v S1 h => by cases h⟩
  | ok x =>
    obtain ⟨u, e⟩ := x
    show ((St.eff ⟨tm', hp, b, wr⟩ e >>= fun y => R.ok (u, y)) = match (St.eff ⟨tm, hp, b, wr⟩ e >>= fun y => R.ok (u, y)) with | .ok (v, S1) => _ | .split c => _ | .fail m => _) ∧ ∀ v S1, (St.eff ⟨tm, hp, b, wr⟩ e >>= fun y => R.ok (u, y)) = .ok (v, S1) → S1.tm = tm
    cases he : St.eff ⟨tm, hp, b, wr⟩ e with
    | ok S1 =>
      obtain ⟨h1, h2⟩ := eff_frame (tm' := tm') he
      rw [h2]
      exact ⟨rfl, fun v S2 h => by cases h; exact h1⟩
    | split q =>
      have : St.eff ⟨tm', hp, b, wr⟩ e = .split q := by
        cases e with
        | app old k => cases old <;> (simp only [St.eff] at he; split at he <;> cases he)
        | none => cases he
        | _ => simp only [St.eff] at he; split at he <;> cases he
      rw [this]
      exact ⟨rfl, fun v S1 h => by cases h⟩
    | fail m =>
      have : St.eff ⟨tm', hp, b, wr⟩ e = .fail m := by
        cases e with
        | app old k => cases old <;> (simp only [St.eff] at he ⊢; split at he <;> first | (rename_i hk; rw [if_neg hk]; exact he) | cases he)
        | none => cases he
        | _ => simp only [St.eff] at he ⊢; split at he <;> first | (rename_i hk; rw [if_neg hk]; exact he) | cases he
      rw [this]
      exact ⟨rfl, fun v S1 h => by cases h⟩

theorem put_frame {S1 : St} {tm' : List (Option ST)} {d : Option Tmp} {v : ST} {S2 : St} (h : S1.put d v = .ok S2) : ∃ S2', ({ S1 with tm := tm' } : St).put d v = .ok S2' ∧ S2'.hp = S2.hp ∧ S2'.wr = S2.wr ∧
    ∀ e, d = some e → e < S1.tm.length → e < tm'.length → at2 S2'.tm e = at2 S2.tm e := by
  cases d with
  | none => simp only [St.put] at h ⊢; cases h; exact ⟨_, rfl, rfl, rfl, fun e he => by cases he⟩
  | some t =>
    simp only [St.put] at h ⊢
    split at h
    · rename_i hf
      cases h
      rw [if_pos hf]
      refine ⟨_, rfl, rfl, rfl, fun e he h1 h2 => ?_⟩
      cases he
      simp only
      rw [at2_set _ _ _ _ h1, at2_set _ _ _ _ h2]
      simp
    · cases h

/-- One operation, whether slots that it does not read are struck or not. -/
theorem step_frame {callf : Known → FuncId → List SV → St → R (ST × St)} {ops : List Oper} {o : Oper} {tm tm' : List (Option ST)} {hp : List (Option Blk)} {rs : List Nat} (hc : knowR o.op = some rs)
    (h : ∀ t ∈ guardR ops o ++ rs, nth tm' t = nth tm t) (hlen : tm'.length = tm.length) {S1 : St} (hs : stepS P A callf ops o ⟨tm, hp, len hp, []⟩ = .ok S1) :
    ∃ S1', stepS P A callf ops o ⟨tm', hp, len hp, []⟩ = .ok S1' ∧ S1'.hp = S1.hp ∧ S1'.wr = S1.wr ∧ ∀ d, o.dst = some d → d < tm.length → at2 S1'.tm d = at2 S1.tm d := by
  have hg : ∀ t ∈ guardR ops o, nth tm' t = nth tm t := fun t ht => h t (List.mem_append_left _ ht)
  have hr : ∀ t ∈ rs, nth tm' t = nth tm t := fun t ht => h t (List.mem_append_right _ ht)
  unfold stepS at hs ⊢
  obtain ⟨w, hw, hs⟩ := R.bind_ok.1 hs
  rw [wanted_frame (b := len hp) (wr := []) hg, hw]
  have e0 : ∀ f : Wt → R St, (R.ok w >>= f) = f w := fun _ => rfl
  simp only [e0]
  cases w with
  | yes =>
    simp only at hs ⊢
    obtain ⟨x, hx, hs⟩ := R.bind_ok.1 hs
    obtain ⟨u, S2⟩ := x
    obtain ⟨f1, f2⟩ := act_frame (callf := callf) hc (A := A) (b := len hp) (wr := []) (hp := hp) hr
    have ft := f2 _ _ hx
    rw [hx] at f1
    rw [f1]
    obtain ⟨S3, g1, g2, g3, g4⟩ := put_frame (tm' := tm') hs
    exact ⟨S3, g1, g2, g3, fun d hd hl => g4 d hd (by rw [ft]; exact hl) (by rw [hlen]; exact hl)⟩
  | no =>
    simp only at hs ⊢
    obtain ⟨S3, g1, g2, g3, g4⟩ := put_frame (tm' := tm') hs
    exact ⟨S3, g1, g2, g3, fun d hd hl => g4 d hd hl (by rw [hlen]; exact hl)⟩
  | iff c =>
    simp only at hs ⊢
    obtain ⟨f1, f2⟩ := act_frame (callf := callf) hc (A := A.assume c true) (b := len hp) (wr := []) (hp := hp) hr
    rw [f1]
    cases hx : actS P (A.assume c true) callf o ⟨tm, hp, len hp, []⟩ with
    | ok x =>
      obtain ⟨u, S2⟩ := x
      rw [hx] at hs
      simp only at hs ⊢
      split at hs
      · rename_i hwr
        split at hs
        · rename_i hu
          rw [if_pos hu]
          obtain ⟨S3, g1, g2, g3, g4⟩ := put_frame (tm' := tm') hs
          exact ⟨S3, g1, g2, g3, fun d hd hl => g4 d hd hl (by rw [hlen]; exact hl)⟩
        · cases hs
      · cases hs
    | split q => rw [hx] at hs; simp only at hs; cases hs
    | fail m => rw [hx] at hs; simp only at hs; cases hs

theorem still_dst {ops : List Oper} {S : St} : ∀ {l : List Oper} {n : Nat} {O : List (List Nat × List Nat)}, still ops S l n = some O → O.map Prod.fst = l.map fun o => o.dst.toList
  | [], n, O, h => by simp only [still] at h; cases h; rfl
  | o :: l, n, O, h => by
    unfold still at h
    split at h
    · split at h
      · rename_i r hr
        cases h
        simp only [List.map_cons, still_dst hr]
      · cases h
    · cases h

/-- What is struck is written by an unordered operation. -/
theorem maskG_dst {bs : List Nat} {bi i : Nat} {oi : List Nat × List Nat} : ∀ {L : List (List Nat × List Nat)} {bl : List Nat} {j tm hm tm' hm' : Nat}, (∀ k, bl[k]? = bs[j + k]?) → maskG bi i oi L bl j tm hm = .ok (tm', hm') →
    ∀ n, tm'.testBit n = true → tm.testBit n = true ∨ ∃ (k : Nat) (x : List Nat × List Nat), L[k]? = some x ∧ unord bs bi i (j + k) = true ∧ n ∈ x.1
  | [], bl, j, tm, hm, tm', hm', _, h => by simp only [maskG] at h; cases h; exact fun n h => .inl h
  | x :: L, bl, j, tm, hm, tm', hm', hb, h => by
    have hb' : ∀ k, (tlM bl)[k]? = bs[j + 1 + k]? := by
      intro k
      have := hb (k + 1)
      rw [show j + (k + 1) = j + 1 + k by omega] at this
      rw [← this]
      cases bl <;> simp [tlM]
    have hu : (!Nat.beq i j && !bi.testBit j && !((hdM bl).testBit i)) = unord bs bi i j := by
      unfold unord
      have := hb 0
      rw [Nat.add_zero] at this
      rw [nth_eq, ← this]
      cases bl <;> simp [hdM]
    simp only [maskG, hu] at h
    cases huv : unord bs bi i j with
    | true =>
      rw [huv] at h
      simp only [if_true] at h
      split at h
      · intro n hn
        rcases maskG_dst hb' h n hn with h3 | ⟨k, o', k1, k2, k3⟩
        · rw [bitsL_bit, Bool.or_eq_true] at h3
          rcases h3 with h3 | h3
          · exact .inl h3
          · exact .inr ⟨0, x, rfl, huv, mem_iff.1 h3⟩
        · exact .inr ⟨k + 1, o', by simpa using k1, by rw [show j + (k + 1) = j + 1 + k by omega]; exact k2, k3⟩
      · cases h
    | false =>
      rw [huv] at h
      simp only [Bool.false_eq_true, if_false] at h
      intro n hn
      rcases maskG_dst hb' h n hn with h3 | ⟨k, o', k1, k2, k3⟩
      · exact .inl h3
      · exact .inr ⟨k + 1, o', by simpa using k1, by rw [show j + (k + 1) = j + 1 + k by omega]; exact k2, k3⟩

theorem Rec.upd_same {d : Option Nat} {n0 : Nat} {S1 S1' T : St} (h1 : S1'.hp = S1.hp) (h2 : S1'.wr = S1.wr) (h3 : ∀ t, d = some t → at2 S1'.tm t = at2 S1.tm t) :
    Rec.upd ⟨d, n0, S1'⟩ T = Rec.upd ⟨d, n0, S1⟩ T := by
  cases d with
  | none => simp only [Rec.upd, h1, h2]
  | some t => simp only [Rec.upd, h1, h2, h3 t rfl]
theorem Rec.all_same {d : Option Nat} {n0 : Nat} {S1 S1' : St} (h1 : S1'.hp = S1.hp) (h2 : S1'.wr = S1.wr) (h3 : ∀ t, d = some t → at2 S1'.tm t = at2 S1.tm t) (p : ST → Bool) (q : Blk → Bool) :
    Rec.all ⟨d, n0, S1'⟩ p q = Rec.all ⟨d, n0, S1⟩ p q := by
  cases d with
  | none => simp only [Rec.all, h1, h2]
  | some t => simp only [Rec.all, h1, h2, h3 t rfl]

theorem drawn4_drawn2 {callf : Known → FuncId → List SV → St → R (ST × St)} {ops : List Oper} {bs : List Nat} {O : List (List Nat × List Nat)} (hon : onceB ops [] = true) (hO : O.map Prod.fst = ops.map fun o => o.dst.toList) : ∀ {l : List Oper} {i : Nat} {T T' : St},
    drawn4 P A callf ops bs O l i T = .ok T' → drawn2 P A callf ops bs O l i T = .ok T'
  | [], i, T, T', h => by simp only [drawn4] at h; cases h; rfl
  | o :: l, i, T, T', h => by
    unfold drawn4 at h
    unfold drawn2
    simp only [R.bind_ok, chk_ok] at h
    obtain ⟨bi, hbi, oi, hoi, p, hp, S1, hs, _, c1, _, c2, _, c3, h⟩ := h
    obtain ⟨tm', hm'⟩ := p
    obtain ⟨a1, a2⟩ := once_ok hon
    simp only at hs c1 c2 c3 h
    have hM : maskS bs bi i oi O { T with base := len T.hp, wr := [] } = .ok ⟨wipe T.tm tm', wipe T.hp hm', len T.hp, []⟩ := by
      unfold maskS
      rw [hp]
    have key : ∃ S1', stepS P A callf ops o ⟨wipe T.tm tm', wipe T.hp hm', len T.hp, []⟩ = .ok S1' ∧ S1'.hp = S1.hp ∧ S1'.wr = S1.wr ∧ ∀ t, o.dst = some t → at2 S1'.tm t = at2 S1.tm t := by
      cases hf : freeO ops bs bi i o with
      | false =>
        rw [hf] at hs
        exact ⟨S1, hs, rfl, rfl, fun _ _ => rfl⟩
      | true =>
        rw [hf] at hs
        simp only [if_true] at hs
        unfold freeO at hf
        split at hf
        case h_2 => cases hf
        rename_i rs hc
        have hfr : ∀ t ∈ guardR ops o ++ rs, nth (wipe T.tm tm') t = nth T.tm t := by
          intro t ht
          refine wipe_at _ _ _ ?_
          cases hb : tm'.testBit t with
          | false => rfl
          | true =>
            rcases maskG_dst (bs := bs) (j := 0) (fun k => by rw [Nat.zero_add]) hp t hb with h0 | ⟨k, x, k1, k2, k3⟩
            · simp at h0
            · rw [Nat.zero_add] at k2
              have hx : (O.map Prod.fst)[k]? = some x.1 := by rw [List.getElem?_map, k1]; rfl
              rw [hO, List.getElem?_map] at hx
              cases hk : ops[k]? with
              | none => rw [hk] at hx; cases hx
              | some o' =>
                rw [hk] at hx
                simp only [Option.map_some, Option.some.injEq] at hx
                have k4 : o'.dst = some t := by
                  rw [← hx] at k3
                  cases hod : o'.dst with
                  | none => rw [hod] at k3; simp at k3
                  | some d => rw [hod] at k3; simp at k3; rw [k3]
                cases hw : writer t ops 0 with
                | none => exact absurd k4 ((writer_ok hw).2 rfl k o' hk)
                | some q =>
                  obtain ⟨k', o2, q1, q2, q3⟩ := (writer_ok hw).1 q rfl
                  rw [Nat.zero_add] at q1
                  subst q1
                  have := a2 q k o2 o' t q2 hk q3 k4
                  subst this
                  rw [readsOk_ok hf t ht q hw] at k2
                  cases k2
        have hl : len T.hp = len (wipe T.hp hm') := by rw [len_eq, len_eq, wipe_len]
        rw [hl] at hs ⊢
        obtain ⟨S1', f1, f2, f3, f4⟩ := step_frame (tm' := wipe T.tm tm') hc hfr (wipe_len _ _) hs
        refine ⟨S1', f1, f2, f3, fun d hd => f4 d hd ?_⟩
        rw [hd] at c3
        simp only [Bool.and_eq_true] at c3
        have h3 := Nat.le_of_ble_eq_true c3.2
        rw [len_eq] at h3
        exact h3
    obtain ⟨S1', e1, e2, e3, e4⟩ := key
    rw [hbi]
    show (getR "oracle" O i >>= _) = _
    rw [hoi]
    show (maskS bs bi i oi O { T with base := len T.hp, wr := [] } >>= _) = _
    rw [hM]
    show (stepS P A callf ops o ⟨wipe T.tm tm', wipe T.hp hm', len T.hp, []⟩ >>= _) = _
    rw [e1]
    show (chk _ _ >>= fun _ => chk _ _ >>= fun _ => chk _ _ >>= fun _ => drawn2 P A callf ops bs O l (i + 1) _) = _
    simp only [Rec.upd_same e2 e3 e4, Rec.all_same e2 e3 e4, e2, e3]
    rw [chk_true c1, chk_true c2, chk_true c3]
    exact drawn4_drawn2 hon hO h
end
end Go.Sx
