/- A small machine that reads straight Go code as trees, and its truth. -/
import Derived.Test.YtdgjenlejalgeaaSx10
namespace Go.Sx

section
variable {P : Program} {A : Known} {ρ : Env} {β β' : Nat → Nat} {S S1 S2 : St} {wr w w' : World} {a : Act}

def Ex.is : Ex → Exit → Prop
  | .normal, .normal => True
  | .exit i, .exit j => i = j
  | .ret, .ret => True
  | _, _ => False

/-! ### The way that is gone -/
def AllF (ρ : Env) : Outs → Prop
  | [] => True
  | (c, _, _) :: l => c.B ρ = false ∧ AllF ρ l
def Pick (ρ : Env) (e : Ex) (S : St) : Outs → Prop
  | [] => False
  | (c, k, T) :: l => (c.B ρ = true ∧ k = e ∧ T = S ∧ AllF ρ l) ∨ (c.B ρ = false ∧ Pick ρ e S l)

/-- A state that says no more than another one. -/
structure Sim (ρ : Env) (n0 : Nat) (S T : St) : Prop where
  base : T.base = S.base
  tm : T.tm.length = S.tm.length
  hp : n0 ≤ S.hp.length → n0 ≤ T.hp.length
  rep : ∀ {β wr w}, Rep ρ β S wr w → Rep ρ β T wr w
  repA : ∀ {β a}, RepA ρ β S a → RepA ρ β T a
theorem Sim.refl (n0 : Nat) (S : St) : Sim ρ n0 S S := ⟨rfl, rfl, id, id, id⟩
theorem Sim.trans {n0 : Nat} {S T U : St} (h : Sim ρ n0 S T) (k : Sim ρ n0 T U) : Sim ρ n0 S U :=
  ⟨k.base.trans h.base, k.tm.trans h.tm, fun x => k.hp (h.hp x), fun x => k.rep (h.rep x), fun x => k.repA (h.repA x)⟩

theorem exB_eq {a b : Ex} (h : exB a b = true) : a = b := by
  cases a <;> cases b <;> simp [exB] at h <;> simp [h]

theorem takeK_F {k : Ex} : ∀ {L : Outs} {c : X} {S2 : St} {L' : Outs}, takeK k L = some (c, S2, L') → AllF ρ L → c.B ρ = false ∧ AllF ρ L'
  | [], c, S2, L', h, _ => by simp [takeK] at h
  | (c0, k0, S0) :: l, c, S2, L', h, hF => by
    simp only [takeK] at h
    split at h
    · cases h; exact ⟨hF.1, hF.2⟩
    · split at h
      · rename_i c' S' l' e
        cases h
        have := takeK_F e hF.2
        exact ⟨this.1, hF.1, this.2⟩
      · cases h
theorem takeK_pick {k : Ex} {e : Ex} {S : St} : ∀ {L : Outs} {c : X} {S2 : St} {L' : Outs}, takeK k L = some (c, S2, L') → Pick ρ e S L → (c.B ρ = true ∧ k = e ∧ S2 = S ∧ AllF ρ L') ∨ (c.B ρ = false ∧ Pick ρ e S L')
  | [], c, S2, L', h, _ => by simp [takeK] at h
  | (c0, k0, S0) :: l, c, S2, L', h, hP => by
    simp only [takeK] at h
    split at h
    · rename_i hk
      cases h
      have := exB_eq hk
      subst this
      rcases hP with ⟨h1, h2, h3, h4⟩ | ⟨h1, h2⟩
      · exact .inl ⟨h1, h2, h3, h4⟩
      · exact .inr ⟨h1, h2⟩
    · split at h
      · rename_i c' S' l' e
        cases h
        rcases hP with ⟨h1, h2, h3, h4⟩ | ⟨h1, h2⟩
        · have := takeK_F e h4
          exact .inr ⟨this.1, .inl ⟨h1, h2, h3, this.2⟩⟩
        · rcases takeK_pick e h2 with ⟨q1, q2, q3, q4⟩ | ⟨q1, q2⟩
          · exact .inl ⟨q1, q2, q3, h1, q4⟩
          · exact .inr ⟨q1, .inr ⟨h1, q2⟩⟩
      · cases h

theorem mergeL_ok {x : X} {n0 : Nat} {S1 S2 T : St} (h : mergeL x n0 S1 S2 = .ok T) : (x.B ρ = true → Sim ρ n0 S1 T) ∧ (x.B ρ = false → Sim ρ n0 S2 T) := by
  simp only [mergeL] at h
  split at h
  · rename_i hn
    rw [Nat.ble_eq] at hn
    obtain ⟨m1, m2, m3, m4, m5, m6, m7⟩ := mergeS_ok (ρ := ρ) h
    refine ⟨fun hx => ⟨m1, m4, fun _ => by omega, fun hr => m6 (by rw [hx, if_pos rfl]; exact hr), fun hr => m7 (by rw [hx, if_pos rfl]; exact hr)⟩,
      fun hx => ⟨m2, m5, fun _ => by omega, fun hr => m6 (by rw [hx]; simpa using hr), fun hr => m7 (by rw [hx]; simpa using hr)⟩⟩
  · cases h

theorem besides_F {neg : X} : ∀ {L : Outs}, (neg.B ρ = false ∨ AllF ρ L) → AllF ρ (besides neg L)
  | [], _ => trivial
  | (c, k, S) :: l, h => by
    simp only [besides, AllF, B_mkAnd]
    rcases h with h | h
    · exact ⟨by simp [h], besides_F (.inl h)⟩
    · exact ⟨by simp [h.1], besides_F (.inr h.2)⟩
theorem besides_pick {neg : X} {e : Ex} {S : St} (hn : neg.B ρ = true) : ∀ {L : Outs}, Pick ρ e S L → Pick ρ e S (besides neg L)
  | [], h => h
  | (c, k, T) :: l, h => by
    simp only [besides, Pick, B_mkAnd, hn, Bool.true_and]
    rcases h with ⟨h1, h2, h3, h4⟩ | ⟨h1, h2⟩
    · exact .inl ⟨h1, h2, h3, besides_F (.inr h4)⟩
    · exact .inr ⟨h1, besides_pick hn h2⟩

theorem joinO_tF {x neg : X} {n0 : Nat} (hx : x.B ρ = true) : ∀ {L R : Outs}, AllF ρ L → (neg.B ρ = false ∨ AllF ρ R) → AllF ρ (joinO x neg n0 L R)
  | [], R, _, h => besides_F h
  | (c1, k, S1) :: l, R, hL, h => by
    simp only [joinO]
    split
    · rename_i c2 S2 R' e
      split
      · exact ⟨by simp [hx, hL.1], joinO_tF hx hL.2 (h.imp id fun h => (takeK_F e h).2)⟩
      · exact ⟨by simp [hL.1], joinO_tF hx hL.2 h⟩
    · exact ⟨by simp [hL.1], joinO_tF hx hL.2 h⟩
theorem joinO_fF {x neg : X} {n0 : Nat} (hx : x.B ρ = false) : ∀ {L R : Outs}, AllF ρ R → AllF ρ (joinO x neg n0 L R)
  | [], R, h => besides_F (.inr h)
  | (c1, k, S1) :: l, R, h => by
    simp only [joinO]
    split
    · rename_i c2 S2 R' e
      split
      · exact ⟨by simp [hx, (takeK_F e h).1], joinO_fF hx (takeK_F e h).2⟩
      · exact ⟨by simp [hx], joinO_fF hx h⟩
    · exact ⟨by simp [hx], joinO_fF hx h⟩
theorem joinO_t {x neg : X} {n0 : Nat} {e : Ex} {S : St} (hx : x.B ρ = true) : ∀ {L R : Outs}, Pick ρ e S L → (neg.B ρ = false ∨ AllF ρ R) → ∃ T, Pick ρ e T (joinO x neg n0 L R) ∧ Sim ρ n0 S T
  | [], R, h, _ => h.elim
  | (c1, k, S1) :: l, R, hL, h => by
    simp only [joinO]
    split
    · rename_i c2 S2 R' e
      have h' : neg.B ρ = false ∨ AllF ρ R' := h.imp id fun h => (takeK_F e h).2
      split
      · rename_i T hT
        rcases hL with ⟨q1, q2, q3, q4⟩ | ⟨q1, q2⟩
        · subst q3
          exact ⟨T, .inl ⟨by simp [hx, q1], q2, rfl, joinO_tF hx q4 h'⟩, (mergeL_ok hT).1 hx⟩
        · obtain ⟨U, u1, u2⟩ := joinO_t hx q2 h'
          exact ⟨U, .inr ⟨by simp [hx, q1], u1⟩, u2⟩
      · rcases hL with ⟨q1, q2, q3, q4⟩ | ⟨q1, q2⟩
        · subst q3
          exact ⟨S1, .inl ⟨by simp [hx, q1], q2, rfl, joinO_tF hx q4 h⟩, .refl _ _⟩
        · obtain ⟨U, u1, u2⟩ := joinO_t hx q2 h
          exact ⟨U, .inr ⟨by simp [q1], u1⟩, u2⟩
    · rcases hL with ⟨q1, q2, q3, q4⟩ | ⟨q1, q2⟩
      · subst q3
        exact ⟨S1, .inl ⟨by simp [hx, q1], q2, rfl, joinO_tF hx q4 h⟩, .refl _ _⟩
      · obtain ⟨U, u1, u2⟩ := joinO_t hx q2 h
        exact ⟨U, .inr ⟨by simp [q1], u1⟩, u2⟩
theorem joinO_f {x neg : X} {n0 : Nat} {e : Ex} {S : St} (hx : x.B ρ = false) (hn : neg.B ρ = true) : ∀ {L R : Outs}, Pick ρ e S R → ∃ T, Pick ρ e T (joinO x neg n0 L R) ∧ Sim ρ n0 S T
  | [], R, h => ⟨S, besides_pick hn h, .refl _ _⟩
  | (c1, k, S1) :: l, R, h => by
    simp only [joinO]
    split
    · rename_i c2 S2 R' e
      split
      · rename_i T hT
        rcases takeK_pick e h with ⟨q1, q2, q3, q4⟩ | ⟨q1, q2⟩
        · subst q3
          exact ⟨T, .inl ⟨by simp [hx, q1], q2, rfl, joinO_fF hx q4⟩, (mergeL_ok hT).2 hx⟩
        · obtain ⟨U, u1, u2⟩ := joinO_f hx hn (L := l) q2
          exact ⟨U, .inr ⟨by simp [hx, q1], u1⟩, u2⟩
      · obtain ⟨U, u1, u2⟩ := joinO_f hx hn (L := l) h
        exact ⟨U, .inr ⟨by simp [hx], u1⟩, u2⟩
    · obtain ⟨U, u1, u2⟩ := joinO_f hx hn (L := l) h
      exact ⟨U, .inr ⟨by simp [hx], u1⟩, u2⟩

theorem holds_ok {c : X} (hA : A.ok ρ) (h : c.B ρ = true) : (A.holds c).ok ρ := by
  unfold Known.holds
  split
  · exact hA
  · exact assume_ok _ true hA h

theorem seqO_F {f : Known → St → R Outs} {n0 : Nat} : ∀ {L L' : Outs}, seqO f n0 A L = .ok L' → AllF ρ L → AllF ρ L'
  | [], L', h, _ => by simp only [seqO] at h; cases h; trivial
  | (c, k, S) :: l, L', h, hF => by
    simp only [seqO] at h
    cases k with
    | normal =>
      simp only at h
      split at h
      · simp only [R.bind_ok] at h
        obtain ⟨R1, h2, h⟩ := h
        cases h
        exact joinO_fF hF.1 (seqO_F h2 hF.2)
      · split at h
        · exact seqO_F h hF.2
        · cases h
      · cases h
    | exit j =>
      simp only [R.bind_ok] at h
      obtain ⟨R1, h2, h⟩ := h
      cases h
      exact joinO_fF hF.1 (seqO_F h2 hF.2)
    | ret =>
      simp only [R.bind_ok] at h
      obtain ⟨R1, h2, h⟩ := h
      cases h
      exact joinO_fF hF.1 (seqO_F h2 hF.2)

theorem seqO_pick (hA : A.ok ρ) {f : Known → St → R Outs} {n0 : Nat} {e : Ex} {S1 : St} : ∀ {L L' : Outs}, seqO f n0 A L = .ok L' → Pick ρ e S1 L →
    (e = .normal → ∃ A' L1, A'.ok ρ ∧ f A' S1 = .ok L1 ∧ ∀ e' T, Pick ρ e' T L1 → ∃ T', Pick ρ e' T' L' ∧ Sim ρ n0 T T') ∧ (e ≠ .normal → ∃ T', Pick ρ e T' L' ∧ Sim ρ n0 S1 T')
  | [], L', _, h => h.elim
  | (c, k, S) :: l, L', h, hP => by
    simp only [seqO] at h
    have early : ∀ (hk : k ≠ .normal) {R1 : Outs}, seqO f n0 A l = .ok R1 → L' = joinO c (.bl true) n0 [(.bl true, k, S)] R1 →
        (e = .normal → ∃ A' L1, A'.ok ρ ∧ f A' S1 = .ok L1 ∧ ∀ e' T, Pick ρ e' T L1 → ∃ T', Pick ρ e' T' L' ∧ Sim ρ n0 T T') ∧ (e ≠ .normal → ∃ T', Pick ρ e T' L' ∧ Sim ρ n0 S1 T') := by
      intro hk R1 h2 hL
      subst hL
      rcases hP with ⟨q1, q2, q3, q4⟩ | ⟨q1, q2⟩
      · subst q2; subst q3
        exact ⟨fun he => (hk he).elim, fun _ => joinO_t q1 (.inl ⟨rfl, rfl, rfl, trivial⟩) (.inr (seqO_F h2 q4))⟩
      · have ih := seqO_pick hA h2 q2
        refine ⟨fun he => ?_, fun he => ?_⟩
        · obtain ⟨A', L1, a1, a2, a3⟩ := ih.1 he
          refine ⟨A', L1, a1, a2, fun e' T hT => ?_⟩
          obtain ⟨T', t1, t2⟩ := a3 e' T hT
          obtain ⟨U, u1, u2⟩ := joinO_f q1 (neg := .bl true) rfl (n0 := n0) (L := [(.bl true, k, S)]) t1
          exact ⟨U, u1, t2.trans u2⟩
        · obtain ⟨T', t1, t2⟩ := ih.2 he
          obtain ⟨U, u1, u2⟩ := joinO_f q1 (neg := .bl true) rfl (n0 := n0) (L := [(.bl true, k, S)]) t1
          exact ⟨U, u1, t2.trans u2⟩
    cases k with
    | normal =>
      simp only at h
      split at h
      case h_3 => cases h
      case h_2 =>
        split at h
        · rename_i hv
          rcases hP with ⟨q1, q2, q3, q4⟩ | ⟨q1, q2⟩
          · exact absurd (holds_ok hA q1) (void_ok hv)
          · exact seqO_pick hA h q2
        · cases h
      rename_i L1 h1
      simp only [R.bind_ok] at h
      obtain ⟨R1, h2, h⟩ := h
      cases h
      rcases hP with ⟨q1, q2, q3, q4⟩ | ⟨q1, q2⟩
      · subst q2; subst q3
        exact ⟨fun _ => ⟨_, L1, holds_ok hA q1, h1, fun e' T hT => joinO_t q1 hT (.inr (seqO_F h2 q4))⟩, fun he => (he rfl).elim⟩
      · have ih := seqO_pick hA h2 q2
        refine ⟨fun he => ?_, fun he => ?_⟩
        · obtain ⟨A', L2, a1, a2, a3⟩ := ih.1 he
          refine ⟨A', L2, a1, a2, fun e' T hT => ?_⟩
          obtain ⟨T', t1, t2⟩ := a3 e' T hT
          obtain ⟨U, u1, u2⟩ := joinO_f q1 (neg := .bl true) rfl (n0 := n0) (L := L1) t1
          exact ⟨U, u1, t2.trans u2⟩
        · obtain ⟨T', t1, t2⟩ := ih.2 he
          obtain ⟨U, u1, u2⟩ := joinO_f q1 (neg := .bl true) rfl (n0 := n0) (L := L1) t1
          exact ⟨U, u1, t2.trans u2⟩
    | exit j =>
      simp only [R.bind_ok] at h
      obtain ⟨R1, h2, h⟩ := h
      cases h
      exact early (fun h => by cases h) h2 rfl
    | ret =>
      simp only [R.bind_ok] at h
      obtain ⟨R1, h2, h⟩ := h
      cases h
      exact early (fun h => by cases h) h2 rfl

def leaves (id : Nat) : Ex → Ex
  | .exit j => if Nat.beq j id then Ex.normal else .exit j
  | k => k
theorem blockO_F {id n0 : Nat} : ∀ {L : Outs}, AllF ρ L → AllF ρ (blockO id n0 L)
  | [], _ => trivial
  | (c, k, S) :: l, h => by
    simp only [blockO]
    exact joinO_fF h.1 (blockO_F h.2)
theorem blockO_pick {id n0 : Nat} {e : Ex} {S : St} : ∀ {L : Outs}, Pick ρ e S L → ∃ T, Pick ρ (leaves id e) T (blockO id n0 L) ∧ Sim ρ n0 S T
  | [], h => h.elim
  | (c, k, T) :: l, h => by
    simp only [blockO]
    rcases h with ⟨q1, q2, q3, q4⟩ | ⟨q1, q2⟩
    · subst q2; subst q3
      refine joinO_t q1 (.inl ⟨rfl, ?_, rfl, trivial⟩) (.inr (blockO_F q4))
      cases k <;> rfl
    · obtain ⟨U, u1, u2⟩ := blockO_pick (id := id) (n0 := n0) q2
      obtain ⟨V, v1, v2⟩ := joinO_f q1 (neg := .bl true) rfl (n0 := n0) u1
      exact ⟨V, v1, u2.trans v2⟩

theorem asking_ok {run : Known → R Outs} {n0 : Nat} {Φ : Ex → St → Prop} (hr : ∀ A L, A.ok ρ → run A = .ok L → ∃ e S1, Pick ρ e S1 L ∧ Φ e S1) (hs : ∀ e S T, Sim ρ n0 S T → Φ e S → Φ e T) :
    ∀ (d : Nat) (A : Known) (L : Outs), A.ok ρ → asking run n0 d A = .ok L → ∃ e S1, Pick ρ e S1 L ∧ Φ e S1 := by
  intro d
  induction d with
  | zero => intro A L hA h; exact hr A L hA h
  | succ d ih =>
    intro A L hA h
    simp only [asking] at h
    split at h
    · rename_i c hc
      split at h
      · rename_i L1 L2 h1 h2
        cases h
        cases hv : c.B ρ with
        | true =>
          obtain ⟨e, S1, p1, p2⟩ := ih _ L1 (assume_ok c true hA hv) h1
          obtain ⟨T, t1, t2⟩ := joinO_t hv (neg := mkNot c) (n0 := n0) (R := L2) p1 (.inl (by simp [hv]))
          exact ⟨e, T, t1, hs _ _ _ t2 p2⟩
        | false =>
          obtain ⟨e, S1, p1, p2⟩ := ih _ L2 (assume_ok c false hA hv) h2
          obtain ⟨T, t1, t2⟩ := joinO_f hv (neg := mkNot c) (by simp [hv]) (n0 := n0) (L := L1) p1
          exact ⟨e, T, t1, hs _ _ _ t2 p2⟩
      · rename_i m R1 hm h2
        split at h
        · rename_i hvoid
          cases h
          cases hv : c.B ρ with
          | true => exact absurd (assume_ok c true hA hv) (void_ok hvoid)
          | false => exact ih _ _ (assume_ok c false hA hv) h2
        · cases h
      · rename_i L1 m h1 hm
        split at h
        · rename_i hvoid
          cases h
          cases hv : c.B ρ with
          | false => exact absurd (assume_ok c false hA hv) (void_ok hvoid)
          | true => exact ih _ _ (assume_ok c true hA hv) h1
        · cases h
      · cases h
      · cases h
      · cases h
    · exact hr A L hA h

/-- What is asked of what runs code. -/
def After (P : Program) (ρ : Env) (S : St) (c : Code) (e : Ex) (S1 : St) : Prop :=
  ∀ (β : Nat → Nat) (wr : World) (a : Act) (w : World), Rep ρ β S wr w → RepA ρ β S a →
    c.wp P (fun e' a' w' => e.is e' ∧ ∃ β', (∀ i, i < S.hp.length → β' i = β i) ∧ Rep ρ β' S1 wr w' ∧ RepA ρ β' S1 a' ∧ Onw S S1) a w
def RunOk (P : Program) (ρ : Env) (run : Known → Code → St → R Outs) : Prop :=
  ∀ (A : Known) (c : Code) (S : St) (L : Outs), A.ok ρ → run A c S = .ok L → ∃ e S1, Pick ρ e S1 L ∧ After P ρ S c e S1

theorem Onw.sim {S S1 T : St} (h : Onw S S1) (k : Sim ρ (len S.hp) S1 T) : Onw S T :=
  ⟨by have := k.hp (by rw [len_eq]; exact h.hp); rwa [len_eq] at this, k.base.trans h.base, k.tm.trans h.tm⟩
theorem After.sim {S S1 T : St} {c : Code} {e : Ex} (h : After P ρ S c e S1) (k : Sim ρ (len S.hp) S1 T) : After P ρ S c e T := by
  intro β wr a w hR hT
  refine wp_mono (h β wr a w hR hT) ?_
  rintro e' a' w' ⟨he, β', b1, b2, b3, b4⟩
  exact ⟨he, β', b1, k.rep b2, k.repA b3, b4.sim k⟩

/-- One result. -/
def resOne (tmps : Array Value) : ResultVar → Sem Value
  | .tmp t => pure (tmps.getD t undef)
  | .cell x t => do loadVar t (← asAddr (tmps.getD x undef))
theorem results_one (fn : Func) (tmps : Array Value) : results fn tmps = (do let vs ← fn.results.mapM (resOne tmps); pure (if h : vs.size = 1 then vs[0] else .tuple vs)) := by
  unfold results
  have : (fun (x : ResultVar) => (match x with | .tmp t => (pure (tmps.getD t undef) : Sem Value) | .cell a t => do loadVar t (← asAddr (tmps.getD a undef)))) = resOne tmps := by
    funext r; cases r <;> rfl
  rw [← this]
  rfl
theorem resS_ok (hA : A.ok ρ) (hR : Rep ρ β S wr w) (hT : RepA ρ β S a) {fn : Func} {vs : List SV} (h : resS P A S fn.results.toList = .ok vs) :
    (results fn a.tmps).run P w = .ok ((one vs).den ρ β) w := by
  have key : ∀ (l : List ResultVar) (vs : List SV), resS P A S l = .ok vs → (l.mapM (resOne a.tmps)).run P w = .ok (vs.map (SV.den ρ β)) w := by
    intro l
    induction l with
    | nil => intro vs h; simp only [resS] at h; cases h; rfl
    | cons r l ih =>
      intro vs h
      cases r with
      | tmp t =>
        simp only [resS, R.bind_ok] at h
        obtain ⟨v, hv, us, hus, h⟩ := h
        cases h
        have := evV_ok hA hT hv
        simp only [Act.eval] at this
        simp only [List.mapM_cons, Sem.run_bind, Sem.run_pure, Result.andThen_ok, ih us hus, resOne, this, List.map_cons]
      | cell t ty =>
        simp only [resS, R.bind_ok] at h
        obtain ⟨c, hc, p, hp, v, hv, us, hus, h⟩ := h
        cases h
        have := evC_ok hA hT hc
        rw [asP_ok hp] at this
        simp only [Act.eval, SC.den] at this
        simp only [List.mapM_cons, Sem.run_bind, Sem.run_pure, resOne, this, List.map_cons]
        simp only [asAddr, Sem.run_pure, Result.andThen_ok, loadS_ok hR hv, ih us hus]
  have hk := key _ _ h
  rw [results_one, Array.mapM_eq_mapM_toList]
  simp only [Sem.run_bind, Sem.run_map, hk, Result.andThen_ok, Sem.run_pure]
  congr 1
  cases vs with
  | nil => simp [one, ST.den]
  | cons v vs =>
    cases vs with
    | nil => simp [one, ST.den]
    | cons u vs => simp [one, ST.den]

theorem okHp_eq {n : Nat} : ∀ {l : List (Option Blk)}, okHp n l = true → ∀ (i : Nat) (b : Blk), l[i]? = some (some b) → b.ok n = true
  | [], _, i, b, h => by simp at h
  | none :: l, hl, i, b, h => by
    cases i with
    | zero => simp at h
    | succ i => exact okHp_eq (l := l) (by simpa [okHp] using hl) i b (by simpa using h)
  | some c :: l, hl, i, b, h => by
    simp only [okHp, Bool.and_eq_true] at hl
    cases i with
    | zero => simp at h; subst h; exact hl.1
    | succ i => exact okHp_eq hl.2 i b (by simpa using h)

theorem trim_ok {n : Nat} {v : ST} (hR : Rep ρ β S wr w) (hn : n ≤ S.hp.length) (hb : S.base ≤ n) :
    Rep ρ β (trim n v S) wr w ∧ (trim n v S).tm = S.tm ∧ (trim n v S).base = S.base ∧ n ≤ (trim n v S).hp.length := by
  unfold trim
  split
  · rename_i h
    simp only [Bool.and_eq_true, takeN_eq] at h
    have get : ∀ {i : Nat} {b : Blk}, (S.hp.take n)[i]? = some (some b) → S.hp[i]? = some (some b) := by
      intro i b hi
      rw [List.getElem?_take] at hi
      split at hi
      · exact hi
      · cases hi
    simp only [takeN_eq]
    refine ⟨⟨fun id b h => hR.blk id b (get h), fun id b hid => ?_, fun id b h => hR.old id b (get h), fun id b h => hR.new id b (get h), fun i j b c h k => hR.inj i j b c (get h) (get k), hR.frame, hR.size, hR.os, hR.tape, hR.output, hR.wrs, ?_, fun e he => ⟨(hR.row e he).1, fun id b h => (hR.row e he).2 id b (get h)⟩⟩, trivial, trivial, ?_⟩
    · have := okHp_eq h.2 id b hid
      simp only [List.length_take]
      exact Blk.ok_mono (by omega) this
    · simp only [List.length_take]; omega
    · simp only [List.length_take]; omega
  · exact ⟨hR, rfl, rfl, hn⟩

theorem callWith_func {run : Known → Code → St → R Outs} {f : FuncId} {vs : List SV} {r : ST × St} (h : callWith P run f vs S A = .ok r) : FuncOk P f := by
  simp only [callWith, R.bind_ok, ofOpt_ok, chk_ok] at h
  obtain ⟨fn, hf, body, hb, _, hn, _⟩ := h
  exact ⟨fn, body, hf, hb, hn⟩

def NoneR (ρ : Env) : List (X × ST × St) → Prop
  | [] => True
  | (c, _, _) :: l => c.B ρ = false ∧ NoneR ρ l
def PickR (ρ : Env) (v : ST) (S : St) : List (X × ST × St) → Prop
  | [] => False
  | (c, u, T) :: l => (c.B ρ = true ∧ u = v ∧ T = S) ∨ (c.B ρ = false ∧ PickR ρ v S l)

theorem waysR_pick (hA : A.ok ρ) {fn : Func} {S0 : St} {e : Ex} {S1 : St} : ∀ {L : Outs} {l : List (X × ST × St)}, waysR P fn S0 A L = .ok l → Pick ρ e S1 L →
    (∀ j, e ≠ .exit j) ∧ ∃ A' vs, A'.ok ρ ∧ resS P A' S1 fn.results.toList = .ok vs ∧ PickR ρ (one vs) (trim (len S0.hp) (one vs) { S1 with tm := [] }) l
  | [], _, _, h => h.elim
  | (c, k, S) :: L, l, h, hP => by
    simp only [waysR] at h
    have go : (∀ j, k ≠ .exit j) → (∃ vs, resS P (A.holds c) S fn.results.toList = .ok vs ∧ ∃ r, waysR P fn S0 A L = .ok r ∧ l = (c, one vs, trim (len S0.hp) (one vs) { S with tm := [] }) :: r) →
        (∀ j, e ≠ .exit j) ∧ ∃ A' vs, A'.ok ρ ∧ resS P A' S1 fn.results.toList = .ok vs ∧ PickR ρ (one vs) (trim (len S0.hp) (one vs) { S1 with tm := [] }) l := by
      rintro hk ⟨vs, h1, r, h2, rfl⟩
      rcases hP with ⟨q1, q2, q3, q4⟩ | ⟨q1, q2⟩
      · subst q2; subst q3
        exact ⟨hk, _, vs, holds_ok hA q1, h1, .inl ⟨q1, rfl, rfl⟩⟩
      · obtain ⟨a1, A', us, a2, a3, a4⟩ := waysR_pick hA h2 q2
        exact ⟨a1, A', us, a2, a3, .inr ⟨q1, a4⟩⟩
    cases k with
    | exit j => simp only at h; cases h
    | normal =>
      simp only [R.bind_ok] at h
      obtain ⟨vs, h1, r, h2, h⟩ := h
      cases h
      exact go (fun j h => by cases h) ⟨vs, h1, r, h2, rfl⟩
    | ret =>
      simp only [R.bind_ok] at h
      obtain ⟨vs, h1, r, h2, h⟩ := h
      cases h
      exact go (fun j h => by cases h) ⟨vs, h1, r, h2, rfl⟩

theorem mergeR_ok {n0 : Nat} {v : ST} {S : St} : ∀ {l : List (X × ST × St)} {u : ST} {T : St}, mergeR n0 l = .ok (u, T) → PickR ρ v S l → (∀ β, u.den ρ β = v.den ρ β) ∧ Sim ρ n0 S T
  | [], _, _, _, h => h.elim
  | [(c, v', S')], u, T, h, hP => by
    simp only [mergeR] at h; cases h
    rcases hP with ⟨q1, q2, q3⟩ | ⟨q1, q2⟩
    · subst q2; subst q3; exact ⟨fun _ => rfl, .refl _ _⟩
    · exact q2.elim
  | (c, v', S') :: y :: l, u, T, h, hP => by
    rw [mergeR] at h
    case x_1 => intro h; cases h
    split at h
    · rename_i u1 T1 h1
      split at h
      · rename_i z T2 hz hT
        simp only [R.ok.injEq, Prod.mk.injEq] at h
        obtain ⟨rfl, rfl⟩ := h
        rcases hP with ⟨q1, q2, q3⟩ | ⟨q1, q2⟩
        · subst q2; subst q3
          exact ⟨fun β => by rw [mergeT_ok hz, q1, if_pos rfl], (mergeL_ok hT).1 q1⟩
        · have ih := mergeR_ok h1 q2
          exact ⟨fun β => by rw [mergeT_ok hz, q1]; simpa using ih.1 β, ih.2.trans ((mergeL_ok hT).2 q1)⟩
      · cases h
    · rename_i r hr
      exact (hr _ _ h).elim

theorem callWith_ok {run : Known → Code → St → R Outs} (hrun : RunOk P ρ run) (hA : A.ok ρ) {f : FuncId} {vs : List SV} {v : ST} (h : callWith P run f vs S A = .ok (v, S1)) (hR : Rep ρ β S wr w) :
    Calls P f (vs.map (SV.den ρ β)).toArray w fun e w' =>
      ∃ β', (∀ i, i < S.hp.length → β' i = β i) ∧ Rep ρ β' S1 wr w' ∧ e = .returned (v.den ρ β') ∧ S1.tm = S.tm ∧ Onw S S1 := by
  simp only [callWith, R.bind_ok, ofOpt_ok, chk_ok] at h
  obtain ⟨fn, hf, body, hb, _, hn, _, hargs, L, hL, l, hl, p, hp, h⟩ := h
  obtain ⟨v0, T0⟩ := p
  simp only [R.ok.injEq, Prod.mk.injEq] at h
  obtain ⟨rfl, rfl⟩ := h
  simp only [Bool.and_eq_true, Nat.ble_eq, len_eq, allB_eq] at hargs
  obtain ⟨ha1, ha2⟩ := hargs
  have hT0 : RepA ρ β { S with tm := vs.map (fun v => some (ST.v v)) ++ rep (fn.ntmps - len vs) (some (ST.tup [])) } { tmps := (vs.map (SV.den ρ β)).toArray ++ Array.replicate (fn.ntmps - (vs.map (SV.den ρ β)).toArray.size) undef, defers := [] } := by
    refine ⟨by simp [rep_eq, len_eq], ?_, ?_, rfl⟩
    · intro t u ht
      simp only [rep_eq, len_eq, List.getElem?_append, List.length_map, List.getElem?_map, List.getElem?_replicate] at ht
      simp only [Array.getElem?_append, List.size_toArray, List.length_map, List.getElem?_toArray, List.getElem?_map, Array.getElem?_replicate]
      split at ht
      · rename_i hlt
        rw [if_pos hlt]
        cases hv : vs[t]? with
        | none => simp [hv] at ht
        | some v => simp only [hv, Option.map_some, Option.some.injEq] at ht; subst ht; rfl
      · rename_i hlt
        rw [if_neg hlt]
        split at ht
        · rename_i h2
          simp only [Option.some.injEq] at ht
          subst ht
          rw [if_pos h2]; simp [ST.den, undef]
        · cases ht
    · intro t u ht
      simp only [rep_eq, len_eq, List.getElem?_append, List.length_map, List.getElem?_map, List.getElem?_replicate] at ht
      split at ht
      · cases hv : vs[t]? with
        | none => simp [hv] at ht
        | some v =>
          simp only [hv, Option.map_some, Option.some.injEq] at ht; subst ht
          exact ha2 v (List.mem_of_getElem? hv)
      · split at ht
        · simp only [Option.some.injEq] at ht
          subst ht; rfl
        · cases ht
  have hR0 : Rep ρ β { S with tm := vs.map (fun v => some (ST.v v)) ++ rep (fn.ntmps - len vs) (some (ST.tup [])) } wr w :=
    ⟨hR.blk, hR.bok, hR.old, hR.new, hR.inj, hR.frame, hR.size, hR.os, hR.tape, hR.output, hR.wrs, hR.bs, hR.row⟩
  obtain ⟨e, S2, hpick, hrun⟩ := hrun A body _ L hA hL
  obtain ⟨hne, A', us, hA', hus, hpr⟩ := waysR_pick hA hl hpick
  obtain ⟨hden, hsim⟩ := mergeR_ok hp hpr
  have hwp := hrun β wr _ w hR0 hT0
  refine calls_of_wp hf hb (wp_mono hwp ?_)
  rintro e' a' w' ⟨he, β', b1, b2, b3, b4⟩
  have fin : a'.defers = [] ∧ ∃ x, (results fn a'.tmps).run P w' = .ok x w' ∧ ∃ β', (∀ i, i < S.hp.length → β' i = β i) ∧ Rep ρ β' { T0 with tm := S.tm } wr w' ∧ Ending.returned x = .returned (v0.den ρ β') ∧ ({ T0 with tm := S.tm } : St).tm = S.tm ∧ Onw S { T0 with tm := S.tm } := by
    have hR2 : Rep ρ β' { S2 with tm := [] } wr w' := ⟨b2.blk, b2.bok, b2.old, b2.new, b2.inj, b2.frame, b2.size, b2.os, b2.tape, b2.output, b2.wrs, b2.bs, b2.row⟩
    have hle : S.hp.length ≤ S2.hp.length := b4.hp
    have hbb : S2.base = S.base := b4.base
    have tr := trim_ok (v := one us) hR2 (n := len S.hp) (by rw [len_eq]; exact hle) (by rw [len_eq]; show S2.base ≤ _; rw [hbb]; exact hR.bs)
    have hR3 := hsim.rep tr.1
    have hlen := hsim.hp tr.2.2.2
    refine ⟨b3.df, _, resS_ok hA' b2 b3 hus, β', b1, ⟨hR3.blk, hR3.bok, hR3.old, hR3.new, hR3.inj, hR3.frame, hR3.size, hR3.os, hR3.tape, hR3.output, hR3.wrs, hR3.bs, hR3.row⟩, by rw [hden], rfl, ?_, ?_, rfl⟩
    · rw [len_eq] at hlen; exact hlen
    · show T0.base = _; rw [hsim.base, tr.2.2.1]; exact hbb
  cases e with
  | exit id => exact (hne id rfl).elim
  | normal =>
    cases e' with
    | normal => exact fin
    | _ => exact he.elim
  | ret =>
    cases e' with
    | ret => exact fin
    | _ => exact he.elim

/-- What is asked of a summary. -/
abbrev Sums := FuncId → Option (Known → List SV → St → R ST)
def SumOk (P : Program) (ρ : Env) (sum : Sums) : Prop :=
  ∀ f g, sum f = some g → FuncOk P f ∧ ∀ A vs S v, A.ok ρ → g A vs S = .ok v → ∀ β wr w, Rep ρ β S wr w → Calls P f (vs.map (SV.den ρ β)).toArray w fun e w' => e = .returned (v.den ρ β) ∧ RowKit.Below w.heap.size w w'

/-- What is asked of a drawn region. -/
def DrawnOk (P : Program) (ρ : Env) : Prop :=
  ∀ (callf : Known → FuncId → List SV → St → R (ST × St)), CallOk P ρ callf → (∀ A f vs S r, callf A f vs S = .ok r → FuncOk P f) →
    ∀ (isSum : FuncId → Bool) (A : Known) (id : Nat) (ops : Array Oper) (S S1 : St), A.ok ρ → drawnS P A isSum callf ops.toList S = .ok S1 → ∀ (β : Nat → Nat) (wr : World) (a : Act) (w : World), Rep ρ β S wr w → RepA ρ β S a →
      ∀ (Q : Exit → Act → World → Prop), (∀ a' w' β', (∀ i, i < S.hp.length → β' i = β i) → Rep ρ β' S1 wr w' → RepA ρ β' S1 a' → Onw S S1 → Q .normal a' w') → (Code.region id ops true).wp P Q a w

theorem rounds_mono {c : Code} {Q Q' : Exit → Act → World → Prop} (hq : ∀ e a w, Q e a w → Q' e a w) : ∀ {m : Nat} {a : Act} {w : World}, Code.rounds P c Q m a w → Code.rounds P c Q' m a w := by
  intro m
  induction m with
  | zero => intro a w h; exact h
  | succ m ih =>
    intro a w h
    rw [rounds_succ] at h ⊢
    refine wp_mono h fun e a w h => ?_
    cases e with
    | normal => exact ih h
    | _ => exact hq _ _ _ h

theorem exec_ok (hD : DrawnOk P ρ) {q : Nat} {sum : Sums} (hS : SumOk P ρ sum) : ∀ (n : Nat), RunOk P ρ (exec P q sum n) ∧
    ∀ (A : Known) (c : Code) (S : St) (L : Outs), A.ok ρ → exec P q sum n A (.loop c) S = .ok L → ∃ e S1, Pick ρ e S1 L ∧ ∃ m, ∀ (β : Nat → Nat) (wr : World) (a : Act) (w : World), Rep ρ β S wr w → RepA ρ β S a →
      Code.rounds P c (fun e' a' w' => e.is e' ∧ ∃ β', (∀ i, i < S.hp.length → β' i = β i) ∧ Rep ρ β' S1 wr w' ∧ RepA ρ β' S1 a' ∧ Onw S S1) m a w := by
  intro n
  induction n with
  | zero => exact ⟨fun A c S L _ h => (by simp only [exec] at h; cases h), fun A c S L _ h => (by simp only [exec] at h; cases h)⟩
  | succ n ih =>
    obtain ⟨ih, ihl⟩ := ih
    have hloop : ∀ (A : Known) (c : Code) (S : St) (L : Outs), A.ok ρ → exec P q sum (n + 1) A (.loop c) S = .ok L → ∃ e S1, Pick ρ e S1 L ∧ ∃ m, ∀ (β : Nat → Nat) (wr : World) (a : Act) (w : World), Rep ρ β S wr w → RepA ρ β S a →
      Code.rounds P c (fun e' a' w' => e.is e' ∧ ∃ β', (∀ i, i < S.hp.length → β' i = β i) ∧ Rep ρ β' S1 wr w' ∧ RepA ρ β' S1 a' ∧ Onw S S1) m a w := by
      intro A c S L hA h
      simp only [exec, R.bind_ok] at h
      obtain ⟨L0, hL0, h⟩ := h
      obtain ⟨e1, S2, p1, h1⟩ := ih A c S L0 hA hL0
      have hq := seqO_pick hA h p1
      cases e1 with
      | normal =>
        obtain ⟨A', L1, a1, a2, a3⟩ := hq.1 rfl
        obtain ⟨e, S3, p3, m, hm⟩ := ihl A' c S2 L1 a1 a2
        obtain ⟨T, t1, t2⟩ := a3 e S3 p3
        refine ⟨e, T, t1, m + 1, fun β wr a w hR hT => ?_⟩
        rw [rounds_succ]
        refine wp_mono (h1 β wr a w hR hT) ?_
        rintro e' a' w' ⟨he, β', b1, b2, b3, b4⟩
        cases e' with
        | normal =>
          refine rounds_mono ?_ (hm β' wr a' w' b2 b3)
          rintro e'' a'' w'' ⟨he2, β'', d1, d2, d3, d4⟩
          exact ⟨he2, β'', fun i hi => (d1 i (Nat.lt_of_lt_of_le hi b4.hp)).trans (b1 i hi), t2.rep d2, t2.repA d3, (b4.trans d4).sim t2⟩
        | _ => exact he.elim
      | exit j =>
        obtain ⟨T, t1, t2⟩ := hq.2 (fun h => by cases h)
        refine ⟨_, T, t1, 1, fun β wr a w hR hT => ?_⟩
        rw [rounds_succ]
        refine wp_mono (h1.sim t2 β wr a w hR hT) ?_
        rintro e' a' w' ⟨he, hh⟩
        cases e' with
        | exit k => exact ⟨he, hh⟩
        | _ => exact he.elim
      | ret =>
        obtain ⟨T, t1, t2⟩ := hq.2 (fun h => by cases h)
        refine ⟨_, T, t1, 1, fun β wr a w hR hT => ?_⟩
        rw [rounds_succ]
        refine wp_mono (h1.sim t2 β wr a w hR hT) ?_
        rintro e' a' w' ⟨he, hh⟩
        cases e' with
        | ret => exact ⟨he, hh⟩
        | _ => exact he.elim
    refine ⟨?_, hloop⟩
    intro A c S L hA h
    have hC : CallOk P ρ (fun A f args S => match sum f with | some g => (match g A args S with | .ok v => .ok (v, S) | _ => callWith P (exec P q sum n) f args S A) | none => callWith P (exec P q sum n) f args S A) := by
      intro A f vs S v S1 hA h β wr w hR _
      simp only at h
      split at h
      · rename_i g hg
        split at h
        · rename_i u hu
          cases h
          refine Calls.mono ((hS f g hg).2 A vs S v hA hu β wr w hR) fun e w' hh => ?_
          exact ⟨β, fun _ _ => rfl, hR.below hh.2, hh.1, rfl, .refl _⟩
        · exact callWith_ok ih hA h hR
      · exact callWith_ok ih hA h hR
    have hF : ∀ A f vs S r, (fun A f args S => match sum f with | some g => (match g A args S with | .ok v => .ok (v, S) | _ => callWith P (exec P q sum n) f args S A) | none => callWith P (exec P q sum n) f args S A : Known → FuncId → List SV → St → R (ST × St)) A f vs S = .ok r → FuncOk P f := by
      intro A f vs S r h
      simp only at h
      split at h
      · rename_i g hg; exact (hS f g hg).1
      · exact callWith_func h
    cases c with
    | skip =>
      simp only [exec] at h; cases h
      exact ⟨.normal, S, .inl ⟨rfl, rfl, rfl, trivial⟩, fun β wr a w hR hT => wp_skip ⟨trivial, β, fun _ _ => rfl, hR, hT, .refl _⟩⟩
    | region id ops draw =>
      simp only [exec] at h
      refine asking_ok (Φ := After P ρ S (.region id ops draw)) ?_ (fun e S1 T hs h => h.sim hs) q A L hA h
      intro A L hA h
      cases draw with
      | true =>
        simp only [if_true, R.bind_ok] at h
        obtain ⟨T, hT1, h⟩ := h
        cases h
        exact ⟨.normal, T, .inl ⟨rfl, rfl, rfl, trivial⟩, fun β wr a w hR hT => hD _ hC hF _ A id ops S _ hA hT1 β wr a w hR hT _ fun a' w' β' b1 b2 b3 b4 => ⟨trivial, β', b1, b2, b3, b4⟩⟩
      | false =>
        simp only [Bool.false_eq_true, if_false, R.bind_ok] at h
        obtain ⟨T, hT1, h⟩ := h
        cases h
        exact ⟨.normal, T, .inl ⟨rfl, rfl, rfl, trivial⟩, fun β wr a w hR hT => wp_region_list (runS_ok hC hF hA ops.toList S β a w hR hT hT1 fun a' w' β' b1 b2 b3 b4 => ⟨trivial, β', b1, b2, b3, b4⟩)⟩
    | seq x y =>
      simp only [exec, R.bind_ok] at h
      obtain ⟨L0, hL0, h⟩ := h
      obtain ⟨e1, S2, p1, h1⟩ := ih A x S L0 hA hL0
      have hq := seqO_pick hA h p1
      cases e1 with
      | normal =>
        obtain ⟨A', L1, a1, a2, a3⟩ := hq.1 rfl
        obtain ⟨e, S3, p3, h3⟩ := ih A' y S2 L1 a1 a2
        obtain ⟨T, t1, t2⟩ := a3 e S3 p3
        refine ⟨e, T, t1, fun β wr a w hR hT => ?_⟩
        refine wp_seq (wp_mono (h1 β wr a w hR hT) ?_)
        rintro e' a' w' ⟨he, β', b1, b2, b3, b4⟩
        cases e' with
        | normal =>
          refine wp_mono (h3 β' wr a' w' b2 b3) ?_
          rintro e'' a'' w'' ⟨he2, β'', d1, d2, d3, d4⟩
          exact ⟨he2, β'', fun i hi => (d1 i (Nat.lt_of_lt_of_le hi b4.hp)).trans (b1 i hi), t2.rep d2, t2.repA d3, (b4.trans d4).sim t2⟩
        | _ => exact he.elim
      | exit j =>
        obtain ⟨T, t1, t2⟩ := hq.2 (fun h => by cases h)
        refine ⟨_, T, t1, fun β wr a w hR hT => ?_⟩
        refine wp_seq (wp_mono (h1.sim t2 β wr a w hR hT) ?_)
        rintro e' a' w' ⟨he, hh⟩
        cases e' with
        | exit k => exact ⟨he, hh⟩
        | _ => exact he.elim
      | ret =>
        obtain ⟨T, t1, t2⟩ := hq.2 (fun h => by cases h)
        refine ⟨_, T, t1, fun β wr a w hR hT => ?_⟩
        refine wp_seq (wp_mono (h1.sim t2 β wr a w hR hT) ?_)
        rintro e' a' w' ⟨he, hh⟩
        cases e' with
        | ret => exact ⟨he, hh⟩
        | _ => exact he.elim
    | cond c t f =>
      simp only [exec] at h
      refine asking_ok (Φ := After P ρ S (.cond c t f)) ?_ (fun e S1 T hs h => h.sim hs) q A L hA h
      intro A L hA h
      simp only [R.bind_ok] at h
      obtain ⟨c0, hc0, x, hx, h⟩ := h
      have hc : ∀ {β wr a w}, Rep ρ β S wr w → RepA ρ β S a → a.eval c = .bool (x.B ρ) := by
        intro β wr a w hR hT
        have hc := evC_ok hA hT hc0
        rw [asB_ok hx] at hc
        simpa only [SC.den] using hc
      split at h
      · rename_i hd
        obtain ⟨e, S1, p1, h1⟩ := ih A t S L hA h
        refine ⟨e, S1, p1, fun β wr a w hR hT => ?_⟩
        exact wp_cond_true (by rw [hc hR hT, dec_ok hA x true hd]) (h1 β wr a w hR hT)
      · rename_i hd
        obtain ⟨e, S1, p1, h1⟩ := ih A f S L hA h
        refine ⟨e, S1, p1, fun β wr a w hR hT => ?_⟩
        exact wp_cond_false (by rw [hc hR hT, dec_ok hA x false hd]) (h1 β wr a w hR hT)
      · split at h
        case h_2 =>
          rename_i m R1 hm h2
          split at h
          · rename_i hv
            cases h
            cases hb : x.B ρ with
            | true => exact absurd (assume_ok x true hA hb) (void_ok hv)
            | false =>
              obtain ⟨e, S1, p1, h1⟩ := ih _ f S _ (assume_ok x false hA hb) h2
              exact ⟨e, S1, p1, fun β wr a w hR hT => wp_cond_false (by rw [hc hR hT, hb]) (h1 β wr a w hR hT)⟩
          · cases h
        case h_3 =>
          rename_i L1 m h1 hm
          split at h
          · rename_i hv
            cases h
            cases hb : x.B ρ with
            | false => exact absurd (assume_ok x false hA hb) (void_ok hv)
            | true =>
              obtain ⟨e, S1, p1, h1⟩ := ih _ t S _ (assume_ok x true hA hb) h1
              exact ⟨e, S1, p1, fun β wr a w hR hT => wp_cond_true (by rw [hc hR hT, hb]) (h1 β wr a w hR hT)⟩
          · cases h
        case h_4 => cases h
        case h_5 => cases h
        case h_6 => cases h
        rename_i L1 L2 h1 h2
        cases h
        cases hb : x.B ρ with
        | true =>
          obtain ⟨e, S1, p1, h1⟩ := ih _ t S L1 (assume_ok x true hA hb) h1
          obtain ⟨T, t1, t2⟩ := joinO_t hb (neg := mkNot x) (n0 := len S.hp) (R := L2) p1 (.inl (by simp [hb]))
          exact ⟨e, T, t1, fun β wr a w hR hT => wp_cond_true (by rw [hc hR hT, hb]) (h1.sim t2 β wr a w hR hT)⟩
        | false =>
          obtain ⟨e, S1, p1, h1⟩ := ih _ f S L2 (assume_ok x false hA hb) h2
          obtain ⟨T, t1, t2⟩ := joinO_f hb (neg := mkNot x) (by simp [hb]) (n0 := len S.hp) (L := L1) p1
          exact ⟨e, T, t1, fun β wr a w hR hT => wp_cond_false (by rw [hc hR hT, hb]) (h1.sim t2 β wr a w hR hT)⟩
    | block id body =>
      simp only [exec, R.bind_ok] at h
      obtain ⟨L0, hL0, h⟩ := h
      cases h
      obtain ⟨e1, S2, p1, h1⟩ := ih A body S L0 hA hL0
      obtain ⟨T, t1, t2⟩ := blockO_pick (id := id) (n0 := len S.hp) p1
      refine ⟨_, T, t1, fun β wr a w hR hT => ?_⟩
      refine wp_block (wp_mono (h1.sim t2 β wr a w hR hT) ?_)
      rintro e' a' w' ⟨he, hh⟩
      cases e1 with
      | normal =>
        cases e' with
        | normal => exact ⟨he, hh⟩
        | _ => exact he.elim
      | exit j =>
        cases e' with
        | exit k =>
          simp only [Ex.is] at he
          subst he
          simp only [leaves]
          split
          · rename_i hj
            have := Nat.eq_of_beq_eq_true hj
            simp only [Exit.inBlock, if_pos this]
            exact ⟨trivial, hh⟩
          · rename_i hj
            have : ¬ j = id := fun e => hj (by subst e; simp)
            simp only [Exit.inBlock, if_neg this]
            exact ⟨rfl, hh⟩
        | _ => exact he.elim
      | ret =>
        cases e' with
        | ret => exact ⟨he, hh⟩
        | _ => exact he.elim
    | loop body =>
      obtain ⟨e, S1, p1, m, hm⟩ := hloop A body S L hA h
      exact ⟨e, S1, p1, fun β wr a w hR hT => wp_loop_rounds m (hm β wr a w hR hT)⟩
    | exit id =>
      simp only [exec] at h; cases h
      exact ⟨.exit id, S, .inl ⟨rfl, rfl, rfl, trivial⟩, fun β wr a w hR hT => wp_exit ⟨rfl, β, fun _ _ => rfl, hR, hT, .refl _⟩⟩
    | ret =>
      simp only [exec] at h; cases h
      exact ⟨.ret, S, .inl ⟨rfl, rfl, rfl, trivial⟩, fun β wr a w hR hT => wp_ret ⟨trivial, β, fun _ _ => rfl, hR, hT, .refl _⟩⟩
    | _ => simp only [exec] at h; cases h
end
end Go.Sx
