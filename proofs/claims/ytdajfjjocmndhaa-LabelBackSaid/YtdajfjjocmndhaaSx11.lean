/- A small machine that reads straight Go code as trees, and its truth. -/
import Derived.Test.YtdajfjjocmndhaaSx10
namespace Go.Sx

section
variable {P : Program} {A : Known} {ρ : Env} {β β' : Nat → Nat} {S S1 S2 : St} {wr w w' : World} {a : Act}

def Ex.is : Ex → Exit → Prop
  | .normal, .normal => True
  | .exit i, .exit j => i = j
  | .ret, .ret => True
  | _, _ => False

/-- What is asked of what runs code. -/
def RunOk (P : Program) (ρ : Env) (run : Known → Code → St → R (Ex × St)) : Prop :=
  ∀ (A : Known) (c : Code) (S : St) (e : Ex) (S1 : St), A.ok ρ → run A c S = .ok (e, S1) → ∀ (β : Nat → Nat) (wr : World) (a : Act) (w : World), Rep ρ β S wr w → RepA ρ β S a →
    c.wp P (fun e' a' w' => e.is e' ∧ ∃ β', (∀ i, i < S.hp.length → β' i = β i) ∧ Rep ρ β' S1 wr w' ∧ RepA ρ β' S1 a' ∧ Onw S S1) a w

/-- One result. -/
def resOne (tmps : Array Value) : ResultVar → Sem Value
  | .tmp t => pure (tmps.getD t undef)
  | .cell x t => do loadVar t (← asAddr (tmps.getD x undef))
theorem results_one (fn : Func) (tmps : Array Value) : results fn tmps = (do let vs ← fn.results.mapM (resOne tmps); pure (if h : vs.size = 1 then vs[0] else .tuple vs)) := by
  unfold results
  have : (fun (x : ResultVar) => (match x with | .tmp t => (pure (tmps.getD t undef) : Sem Value) | .cell a t => do loadVar t (← asAddr (tmps.getD a undef)))) = resOne tmps := by
    funext r; cases r <;> rfl
  rw [← this]
  rfl
theorem resS_ok (hA : A.ok ρ) (hR : Rep ρ β S wr w) (hT : RepA ρ β S a) {fn : Func} {vs : List SV} (h : resS P A S fn.results.toList = .ok vs) :
    (results fn a.tmps).run P w = .ok ((one vs).den ρ β) w := by
  have key : ∀ (l : List ResultVar) (vs : List SV), resS P A S l = .ok vs → (l.mapM (resOne a.tmps)).run P w = .ok (vs.map (SV.den ρ β)) w := by
    intro l
    induction l with
    | nil => intro vs h; simp only [resS] at h; cases h; rfl
    | cons r l ih =>
      intro vs h
      cases r with
      | tmp t =>
        simp only [resS, R.bind_ok] at h
        obtain ⟨v, hv, us, hus, h⟩ := h
        cases h
        have := evV_ok hA hT hv
        simp only [Act.eval] at this
        simp only [List.mapM_cons, Sem.run_bind, Sem.run_pure, Result.andThen_ok, ih us hus, resOne, this, List.map_cons]
      | cell t ty =>
        simp only [resS, R.bind_ok] at h
        obtain ⟨c, hc, p, hp, v, hv, us, hus, h⟩ := h
        cases h
        have := evC_ok hA hT hc
        rw [asP_ok hp] at this
        simp only [Act.eval, SC.den] at this
        simp only [List.mapM_cons, Sem.run_bind, Sem.run_pure, resOne, this, List.map_cons]
        simp only [asAddr, Sem.run_pure, Result.andThen_ok, loadS_ok hR hv, ih us hus]
  have hk := key _ _ h
  rw [results_one, Array.mapM_eq_mapM_toList]
  simp only [Sem.run_bind, Sem.run_map, hk, Result.andThen_ok, Sem.run_pure]
  congr 1
  cases vs with
  | nil => simp [one, ST.den]
  | cons v vs =>
    cases vs with
    | nil => simp [one, ST.den]
    | cons u vs => simp [one, ST.den]

theorem okHp_eq {n : Nat} : ∀ {l : List (Option Blk)}, okHp n l = true → ∀ (i : Nat) (b : Blk), l[i]? = some (some b) → b.ok n = true
  | [], _, i, b, h => by simp at h
  | none :: l, hl, i, b, h => by
    cases i with
    | zero => simp at h
    | succ i => exact okHp_eq (l := l) (by simpa [okHp] using hl) i b (by simpa using h)
  | some c :: l, hl, i, b, h => by
    simp only [okHp, Bool.and_eq_true] at hl
    cases i with
    | zero => simp at h; subst h; exact hl.1
    | succ i => exact okHp_eq hl.2 i b (by simpa using h)

theorem trim_ok {n : Nat} {v : ST} (hR : Rep ρ β S wr w) (hn : n ≤ S.hp.length) (hb : S.base ≤ n) :
    Rep ρ β (trim n v S) wr w ∧ (trim n v S).tm = S.tm ∧ (trim n v S).base = S.base ∧ n ≤ (trim n v S).hp.length := by
  unfold trim
  split
  · rename_i h
    simp only [Bool.and_eq_true, takeN_eq] at h
    have get : ∀ {i : Nat} {b : Blk}, (S.hp.take n)[i]? = some (some b) → S.hp[i]? = some (some b) := by
      intro i b hi
      rw [List.getElem?_take] at hi
      split at hi
      · exact hi
      · cases hi
    simp only [takeN_eq]
    refine ⟨⟨fun id b h => hR.blk id b (get h), fun id b hid => ?_, fun id b h => hR.old id b (get h), fun id b h => hR.new id b (get h), fun i j b c h k => hR.inj i j b c (get h) (get k), hR.frame, hR.size, hR.os, hR.tape, hR.output, hR.wrs, ?_⟩, trivial, trivial, ?_⟩
    · have := okHp_eq h.2 id b hid
      simp only [List.length_take]
      exact Blk.ok_mono (by omega) this
    · simp only [List.length_take]; omega
    · simp only [List.length_take]; omega
  · exact ⟨hR, rfl, rfl, hn⟩

theorem callWith_func {run : Known → Code → St → R (Ex × St)} {f : FuncId} {vs : List SV} {r : ST × St} (h : callWith P run f vs S A = .ok r) : FuncOk P f := by
  simp only [callWith, R.bind_ok, ofOpt_ok, chk_ok] at h
  obtain ⟨fn, hf, body, hb, _, hn, _⟩ := h
  exact ⟨fn, body, hf, hb, hn⟩

theorem callWith_ok {run : Known → Code → St → R (Ex × St)} (hrun : RunOk P ρ run) (hA : A.ok ρ) {f : FuncId} {vs : List SV} {v : ST} (h : callWith P run f vs S A = .ok (v, S1)) (hR : Rep ρ β S wr w) :
    Calls P f (vs.map (SV.den ρ β)).toArray w fun e w' =>
      ∃ β', (∀ i, i < S.hp.length → β' i = β i) ∧ Rep ρ β' S1 wr w' ∧ e = .returned (v.den ρ β') ∧ S1.tm = S.tm ∧ Onw S S1 := by
  simp only [callWith, R.bind_ok, ofOpt_ok, chk_ok] at h
  obtain ⟨fn, hf, body, hb, _, hn, _, hargs, p, hp, h⟩ := h
  obtain ⟨e, S2⟩ := p
  simp only [Bool.and_eq_true, Nat.ble_eq, len_eq, allB_eq] at hargs
  obtain ⟨ha1, ha2⟩ := hargs
  have hT0 : RepA ρ β { S with tm := vs.map (fun v => some (ST.v v)) ++ rep (fn.ntmps - len vs) (some (ST.tup [])) } { tmps := (vs.map (SV.den ρ β)).toArray ++ Array.replicate (fn.ntmps - (vs.map (SV.den ρ β)).toArray.size) undef, defers := [] } := by
    refine ⟨by simp [rep_eq, len_eq], ?_, ?_, rfl⟩
    · intro t u ht
      simp only [rep_eq, len_eq, List.getElem?_append, List.length_map, List.getElem?_map, List.getElem?_replicate] at ht
      simp only [Array.getElem?_append, List.size_toArray, List.length_map, List.getElem?_toArray, List.getElem?_map, Array.getElem?_replicate]
      split at ht
      · rename_i hlt
        rw [if_pos hlt]
        cases hv : vs[t]? with
        | none => simp [hv] at ht
        | some v => simp only [hv, Option.map_some, Option.some.injEq] at ht; subst ht; rfl
      · rename_i hlt
        rw [if_neg hlt]
        split at ht
        · rename_i h2
          simp only [Option.some.injEq] at ht
          subst ht
          rw [if_pos h2]; simp [ST.den, undef]
        · cases ht
    · intro t u ht
      simp only [rep_eq, len_eq, List.getElem?_append, List.length_map, List.getElem?_map, List.getElem?_replicate] at ht
      split at ht
      · cases hv : vs[t]? with
        | none => simp [hv] at ht
        | some v =>
          simp only [hv, Option.map_some, Option.some.injEq] at ht; subst ht
          exact ha2 v (List.mem_of_getElem? hv)
      · split at ht
        · simp only [Option.some.injEq] at ht
          subst ht; rfl
        · cases ht
  have hR0 : Rep ρ β { S with tm := vs.map (fun v => some (ST.v v)) ++ rep (fn.ntmps - len vs) (some (ST.tup [])) } wr w :=
    ⟨hR.blk, hR.bok, hR.old, hR.new, hR.inj, hR.frame, hR.size, hR.os, hR.tape, hR.output, hR.wrs, hR.bs⟩
  have hwp := hrun A body _ e S2 hA hp β wr _ w hR0 hT0
  refine calls_of_wp hf hb (wp_mono hwp ?_)
  rintro e' a' w' ⟨he, β', b1, b2, b3, b4⟩
  have fin : ∀ us, resS P A S2 fn.results.toList = .ok us → v = one us → S1 = trim (len S.hp) (one us) { S2 with tm := S.tm } →
      a'.defers = [] ∧ ∃ x, (results fn a'.tmps).run P w' = .ok x w' ∧ ∃ β', (∀ i, i < S.hp.length → β' i = β i) ∧ Rep ρ β' S1 wr w' ∧ Ending.returned x = .returned (v.den ρ β') ∧ S1.tm = S.tm ∧ Onw S S1 := by
    intro us hus hv hS
    subst hv; subst hS
    have hR2 : Rep ρ β' { S2 with tm := S.tm } wr w' := ⟨b2.blk, b2.bok, b2.old, b2.new, b2.inj, b2.frame, b2.size, b2.os, b2.tape, b2.output, b2.wrs, b2.bs⟩
    have hle : S.hp.length ≤ S2.hp.length := b4.hp
    have hbb : S2.base = S.base := b4.base
    have tr := trim_ok (v := one us) hR2 (n := len S.hp) (by rw [len_eq]; exact hle) (by rw [len_eq]; show S2.base ≤ _; rw [hbb]; exact hR.bs)
    refine ⟨b3.df, _, resS_ok hA b2 b3 hus, β', b1, tr.1, rfl, tr.2.1, ?_, ?_, ?_⟩
    · have := tr.2.2.2; rw [len_eq] at this; simpa [len_eq] using this
    · rw [tr.2.2.1]; exact hbb
    · rw [tr.2.1]
  cases e with
  | exit id => cases h
  | normal =>
    simp only [R.bind_ok] at h
    obtain ⟨us, hus, h⟩ := h
    cases h
    cases e' with
    | normal => exact fin us hus rfl rfl
    | _ => exact he.elim
  | ret =>
    simp only [R.bind_ok] at h
    obtain ⟨us, hus, h⟩ := h
    cases h
    cases e' with
    | ret => exact fin us hus rfl rfl
    | _ => exact he.elim

theorem explore_func {run : Known → R (ST × St)} {f : FuncId} (hr : ∀ A r, run A = .ok r → FuncOk P f) {S0 : St} : ∀ {d : Nat} {A : Known} {r : ST × St}, explore run S0 d A = .ok r → FuncOk P f := by
  intro d
  induction d with
  | zero => intro A r h; exact hr A r h
  | succ d ih =>
    intro A r h
    simp only [explore] at h
    split at h
    · split at h
      · rename_i h1 h2; exact ih h1
      · cases h
    · exact hr A r h

theorem explore_ok {run : Known → R (ST × St)} {f : FuncId} {args : Array Value} {S0 : St} {β : Nat → Nat} {wr w : World}
    (hr : ∀ A v S1, A.ok ρ → run A = .ok (v, S1) → Calls P f args w fun e w' => ∃ β', (∀ i, i < S0.hp.length → β' i = β i) ∧ Rep ρ β' S1 wr w' ∧ e = .returned (v.den ρ β') ∧ S1.tm = S0.tm ∧ Onw S0 S1) :
    ∀ (d : Nat) (A : Known) (v : ST) (S1 : St), A.ok ρ → explore run S0 d A = .ok (v, S1) →
      Calls P f args w fun e w' => ∃ β', (∀ i, i < S0.hp.length → β' i = β i) ∧ Rep ρ β' S1 wr w' ∧ e = .returned (v.den ρ β') ∧ S1.tm = S0.tm ∧ Onw S0 S1 := by
  intro d
  induction d with
  | zero => intro A v S1 hA h; exact hr A v S1 hA h
  | succ d ih =>
    intro A v S1 hA h
    simp only [explore] at h
    split at h
    · rename_i c hs
      split at h
      · rename_i v1 T1 v2 T2 h1 h2
        split at h
        · rename_i u T hu hT
          simp only [R.ok.injEq, Prod.mk.injEq] at h
          obtain ⟨rfl, rfl⟩ := h
          obtain ⟨m1, m2, m3, m4, m5, m6, m7⟩ := mergeS_ok (ρ := ρ) hT
          rw [len_eq] at m3
          have fin : ∀ {e : Ending} {w' : World} {vv : ST} {TT : St}, (∃ β', (∀ i, i < S0.hp.length → β' i = β i) ∧ Rep ρ β' TT wr w' ∧ e = Ending.returned (ST.den ρ β' vv) ∧ TT.tm = S0.tm ∧ Onw S0 TT) →
              (∀ β', ST.den ρ β' u = ST.den ρ β' vv) → (∀ {β}, Rep ρ β TT wr w' → Rep ρ β T wr w') → T.base = TT.base → T.hp.length = S0.hp.length →
              ∃ β', (∀ i, i < S0.hp.length → β' i = β i) ∧ Rep ρ β' { T with tm := S0.tm } wr w' ∧ e = .returned (u.den ρ β') ∧ ({ T with tm := S0.tm } : St).tm = S0.tm ∧ Onw S0 { T with tm := S0.tm } := by
            rintro e w' vv TT ⟨β', b1, b2, b3, b4, b5⟩ hv hRT hbase hlen
            have r := hRT b2
            refine ⟨β', b1, ⟨r.blk, r.bok, r.old, r.new, r.inj, r.frame, r.size, r.os, r.tape, r.output, r.wrs, r.bs⟩, by rw [b3, hv], rfl, ?_, ?_, rfl⟩
            · simp only; omega
            · simp only; rw [hbase]; exact b5.base
          cases hc : c.B ρ with
          | true =>
            refine Calls.mono (ih _ v1 T1 (assume_ok c true hA hc) h1) fun e w' hh => ?_
            exact fin hh (fun β' => by rw [mergeT_ok hu, hc, if_pos rfl]) (fun hr => m6 (by rw [hc, if_pos rfl]; exact hr)) m1 m3
          | false =>
            refine Calls.mono (ih _ v2 T2 (assume_ok c false hA hc) h2) fun e w' hh => ?_
            exact fin hh (fun β' => by rw [mergeT_ok hu, hc]; simp) (fun hr => m6 (by rw [hc]; simpa using hr)) m2 m3
        · cases h
      · cases h
    · rename_i hns
      exact hr A v S1 hA h

/-- What is asked of a summary. -/
def SumOk (P : Program) (ρ : Env) (sum : FuncId → Option (List SV → R ST)) : Prop :=
  ∀ f g, sum f = some g → FuncOk P f ∧ ∀ vs v, g vs = .ok v → ∀ β w, Calls P f (vs.map (SV.den ρ β)).toArray w fun e w' => e = .returned (v.den ρ β) ∧ RowKit.Below w.heap.size w w'

/-- What is asked of a drawn region. -/
def DrawnOk (P : Program) (ρ : Env) : Prop :=
  ∀ (callf : Known → FuncId → List SV → St → R (ST × St)), CallOk P ρ callf → (∀ A f vs S r, callf A f vs S = .ok r → FuncOk P f) →
    ∀ (A : Known) (id : Nat) (ops : Array Oper) (S S1 : St), A.ok ρ → drawnS P A callf ops.toList S = .ok S1 → ∀ (β : Nat → Nat) (wr : World) (a : Act) (w : World), Rep ρ β S wr w → RepA ρ β S a →
      ∀ (Q : Exit → Act → World → Prop), (∀ a' w' β', (∀ i, i < S.hp.length → β' i = β i) → Rep ρ β' S1 wr w' → RepA ρ β' S1 a' → Onw S S1 → Q .normal a' w') → (Code.region id ops true).wp P Q a w

theorem rounds_mono {c : Code} {Q Q' : Exit → Act → World → Prop} (hq : ∀ e a w, Q e a w → Q' e a w) : ∀ {m : Nat} {a : Act} {w : World}, Code.rounds P c Q m a w → Code.rounds P c Q' m a w := by
  intro m
  induction m with
  | zero => intro a w h; exact h
  | succ m ih =>
    intro a w h
    rw [rounds_succ] at h ⊢
    refine wp_mono h fun e a w h => ?_
    cases e with
    | normal => exact ih h
    | _ => exact hq _ _ _ h

theorem exec_ok (hD : DrawnOk P ρ) {sum : FuncId → Option (List SV → R ST)} (hS : SumOk P ρ sum) : ∀ (n : Nat), RunOk P ρ (exec P sum n) ∧
    ∀ (A : Known) (c : Code) (S : St) (e : Ex) (S1 : St), A.ok ρ → exec P sum n A (.loop c) S = .ok (e, S1) → ∃ m, ∀ (β : Nat → Nat) (wr : World) (a : Act) (w : World), Rep ρ β S wr w → RepA ρ β S a →
      Code.rounds P c (fun e' a' w' => e.is e' ∧ ∃ β', (∀ i, i < S.hp.length → β' i = β i) ∧ Rep ρ β' S1 wr w' ∧ RepA ρ β' S1 a' ∧ Onw S S1) m a w := by
  intro n
  induction n with
  | zero => exact ⟨fun A c S e S1 _ h => (by simp only [exec] at h; cases h), fun A c S e S1 _ h => (by simp only [exec] at h; cases h)⟩
  | succ n ih =>
    obtain ⟨ih, ihl⟩ := ih
    have hloop : ∀ (A : Known) (c : Code) (S : St) (e : Ex) (S1 : St), A.ok ρ → exec P sum (n + 1) A (.loop c) S = .ok (e, S1) → ∃ m, ∀ (β : Nat → Nat) (wr : World) (a : Act) (w : World), Rep ρ β S wr w → RepA ρ β S a →
      Code.rounds P c (fun e' a' w' => e.is e' ∧ ∃ β', (∀ i, i < S.hp.length → β' i = β i) ∧ Rep ρ β' S1 wr w' ∧ RepA ρ β' S1 a' ∧ Onw S S1) m a w := by
      intro A c S e S1 hA h
      simp only [exec, R.bind_ok] at h
      obtain ⟨p, hp, h⟩ := h
      obtain ⟨e1, S2⟩ := p
      have h1 := ih A c S e1 S2 hA hp
      cases e1 with
      | normal =>
        obtain ⟨m, hm⟩ := ihl A c S2 e S1 hA h
        refine ⟨m + 1, fun β wr a w hR hT => ?_⟩
        rw [rounds_succ]
        refine wp_mono (h1 β wr a w hR hT) ?_
        rintro e' a' w' ⟨he, β', b1, b2, b3, b4⟩
        cases e' with
        | normal =>
          refine rounds_mono ?_ (hm β' wr a' w' b2 b3)
          rintro e'' a'' w'' ⟨he2, β'', d1, d2, d3, d4⟩
          exact ⟨he2, β'', fun i hi => (d1 i (Nat.lt_of_lt_of_le hi b4.hp)).trans (b1 i hi), d2, d3, b4.trans d4⟩
        | _ => exact he.elim
      | exit j =>
        cases h
        refine ⟨1, fun β wr a w hR hT => ?_⟩
        rw [rounds_succ]
        refine wp_mono (h1 β wr a w hR hT) ?_
        rintro e' a' w' ⟨he, hh⟩
        cases e' with
        | exit k => exact ⟨he, hh⟩
        | _ => exact he.elim
      | ret =>
        cases h
        refine ⟨1, fun β wr a w hR hT => ?_⟩
        rw [rounds_succ]
        refine wp_mono (h1 β wr a w hR hT) ?_
        rintro e' a' w' ⟨he, hh⟩
        cases e' with
        | ret => exact ⟨he, hh⟩
        | _ => exact he.elim
    refine ⟨?_, hloop⟩
    intro A c S e S1 hA h β wr a w hR hT
    have hC : CallOk P ρ (fun A f args S => match sum f with | some g => do .ok (← g args, S) | none => explore (callWith P (exec P sum n) f args S) S 12 A) := by
      intro A f vs S v S1 hA h β wr w hR _
      simp only at h
      split at h
      · rename_i g hg
        simp only [R.bind_ok] at h
        obtain ⟨u, hu, h⟩ := h
        cases h
        refine Calls.mono ((hS f g hg).2 vs v hu β w) fun e w' hh => ?_
        exact ⟨β, fun _ _ => rfl, hR.below hh.2, hh.1, rfl, .refl _⟩
      · exact explore_ok (fun A v S1 hA h => callWith_ok ih hA h hR) 12 A v S1 hA h
    have hF : ∀ A f vs S r, (fun A f args S => match sum f with | some g => do .ok (← g args, S) | none => explore (callWith P (exec P sum n) f args S) S 12 A : Known → FuncId → List SV → St → R (ST × St)) A f vs S = .ok r → FuncOk P f := by
      intro A f vs S r h
      simp only at h
      split at h
      · rename_i g hg; exact (hS f g hg).1
      · exact explore_func (fun A r h => callWith_func h) h
    cases c with
    | skip =>
      simp only [exec] at h; cases h
      exact wp_skip ⟨trivial, β, fun _ _ => rfl, hR, hT, .refl _⟩
    | region id ops draw =>
      simp only [exec] at h
      cases draw with
      | true =>
        simp only [if_true, R.bind_ok] at h
        obtain ⟨T, hT1, h⟩ := h
        cases h
        exact hD _ hC hF A id ops S _ hA hT1 β wr a w hR hT _ fun a' w' β' b1 b2 b3 b4 => ⟨trivial, β', b1, b2, b3, b4⟩
      | false =>
        simp only [Bool.false_eq_true, if_false, R.bind_ok] at h
        obtain ⟨T, hT1, h⟩ := h
        cases h
        exact wp_region_list (runS_ok hC hF hA ops.toList S β a w hR hT hT1 fun a' w' β' b1 b2 b3 b4 => ⟨trivial, β', b1, b2, b3, b4⟩)
    | seq x y =>
      simp only [exec, R.bind_ok] at h
      obtain ⟨p, hp, h⟩ := h
      obtain ⟨e1, S2⟩ := p
      refine wp_seq (wp_mono (ih A x S e1 S2 hA hp β wr a w hR hT) ?_)
      rintro e' a' w' ⟨he, β', b1, b2, b3, b4⟩
      cases e1 with
      | normal =>
        cases e' with
        | normal =>
          refine wp_mono (ih A y S2 e S1 hA h β' wr a' w' b2 b3) ?_
          rintro e'' a'' w'' ⟨he2, β'', d1, d2, d3, d4⟩
          exact ⟨he2, β'', fun i hi => (d1 i (Nat.lt_of_lt_of_le hi b4.hp)).trans (b1 i hi), d2, d3, b4.trans d4⟩
        | _ => exact he.elim
      | exit j =>
        cases h
        cases e' with
        | exit k => exact ⟨he, β', b1, b2, b3, b4⟩
        | _ => exact he.elim
      | ret =>
        cases h
        cases e' with
        | ret => exact ⟨he, β', b1, b2, b3, b4⟩
        | _ => exact he.elim
    | cond c t f =>
      simp only [exec, R.bind_ok] at h
      obtain ⟨c0, hc0, x, hx, h⟩ := h
      have hc := evC_ok hA hT hc0
      rw [asB_ok hx] at hc
      simp only [SC.den] at hc
      split at h
      · rename_i hd
        rw [dec_ok hA x true hd] at hc
        exact wp_cond_true hc (ih A t S e S1 hA h β wr a w hR hT)
      · rename_i hd
        rw [dec_ok hA x false hd] at hc
        exact wp_cond_false hc (ih A f S e S1 hA h β wr a w hR hT)
      · split at h
        · split at h
          · rename_i S3 S4 h3 h4
            split at h
            · rename_i T hm
              simp only [R.ok.injEq, Prod.mk.injEq] at h
              obtain ⟨rfl, rfl⟩ := h
              obtain ⟨m1, m2, m3, m4, m5, m6, m7⟩ := mergeS_ok (ρ := ρ) hm
              rw [len_eq] at m3
              have fin : ∀ {S5 : St} {e' a' w'}, (Ex.normal.is e' ∧ ∃ β', (∀ i, i < S.hp.length → β' i = β i) ∧ Rep ρ β' S5 wr w' ∧ RepA ρ β' S5 a' ∧ Onw S S5) → T.base = S5.base → T.tm.length = S5.tm.length →
                  (∀ {β wr w}, Rep ρ β S5 wr w → Rep ρ β T wr w) → (∀ {β a}, RepA ρ β S5 a → RepA ρ β T a) →
                  (Ex.normal.is e' ∧ ∃ β', (∀ i, i < S.hp.length → β' i = β i) ∧ Rep ρ β' T wr w' ∧ RepA ρ β' T a' ∧ Onw S T) := by
                rintro S5 e' a' w' ⟨he, β', b1, b2, b3, b4⟩ k1 k2 k3 k4
                exact ⟨he, β', b1, k3 b2, k4 b3, by omega, by rw [k1]; exact b4.base, by rw [k2]; exact b4.tm⟩
              cases hb : x.B ρ with
              | true =>
                rw [hb] at hc
                refine wp_cond_true hc (wp_mono (ih _ t S .normal S3 (assume_ok x true hA hb) h3 β wr a w hR hT) fun e' a' w' hh => ?_)
                exact fin hh m1 m4 (fun hr => m6 (by rw [hb, if_pos rfl]; exact hr)) (fun hr => m7 (by rw [hb, if_pos rfl]; exact hr))
              | false =>
                rw [hb] at hc
                refine wp_cond_false hc (wp_mono (ih _ f S .normal S4 (assume_ok x false hA hb) h4 β wr a w hR hT) fun e' a' w' hh => ?_)
                exact fin hh m2 m5 (fun hr => m6 (by rw [hb]; simpa using hr)) (fun hr => m7 (by rw [hb]; simpa using hr))
            · cases h
          · cases h
          · cases h
          · cases h
        · cases h
    | block id body =>
      simp only [exec, R.bind_ok] at h
      obtain ⟨p, hp, h⟩ := h
      obtain ⟨e1, S2⟩ := p
      refine wp_block (wp_mono (ih A body S e1 S2 hA hp β wr a w hR hT) ?_)
      rintro e' a' w' ⟨he, β', b1, b2, b3, b4⟩
      cases e1 with
      | normal =>
        cases h
        cases e' with
        | normal => exact ⟨he, β', b1, b2, b3, b4⟩
        | _ => exact he.elim
      | exit j =>
        cases e' with
        | exit k =>
          simp only [Ex.is] at he
          subst he
          simp only at h
          split at h
          · rename_i hj
            cases h
            have := Nat.eq_of_beq_eq_true hj
            simp only [Exit.inBlock, if_pos this]
            exact ⟨trivial, β', b1, b2, b3, b4⟩
          · rename_i hj
            cases h
            have : ¬ j = id := fun e => hj (by subst e; simp)
            simp only [Exit.inBlock, if_neg this]
            exact ⟨rfl, β', b1, b2, b3, b4⟩
        | _ => exact he.elim
      | ret =>
        cases h
        cases e' with
        | ret => exact ⟨he, β', b1, b2, b3, b4⟩
        | _ => exact he.elim
    | loop body =>
      obtain ⟨m, hm⟩ := hloop A body S e S1 hA h
      exact wp_loop_rounds m (hm β wr a w hR hT)
    | exit id =>
      simp only [exec] at h; cases h
      exact wp_exit ⟨rfl, β, fun _ _ => rfl, hR, hT, .refl _⟩
    | ret =>
      simp only [exec] at h; cases h
      exact wp_ret ⟨trivial, β, fun _ _ => rfl, hR, hT, .refl _⟩
    | _ => simp only [exec] at h; cases h
end
end Go.Sx
