/- Loops by what holds at their heads. -/
import Derived.Test.YtdgjenlejalgeaaSx22
import Derived.Deep.LoopGhost
namespace Go.Sx

/-- What holds at a loop's head: slots of which nothing is kept, literals (by their numbers) that are taken as variables, cells that are told by the others, bounds and truths of the variables, a measure; does it hold behind the first round only? Cases in which a round is looked at; may a round leave it, where the next one ends the loop? -/
structure Ann where
  drop : List Nat
  keep : List Nat
  ex : List (Nat × X)
  peel : Bool
  cases : List (X × Nat)
  last : Bool
  rg : List (Option (Int × Int))
  tr : List (X × Bool)
  ms : X
/-- A state at a loop's head. -/
structure Pt where
  tm : List (Option ST)
  hp : List (Option Blk)
def Pt.st (p : Pt) : St := ⟨p.tm, p.hp, 0, []⟩

/-! ### A state with variables for what may be another one -/
def litX : X → Bool
  | .lit _ => true
  | .bl _ => true
  | _ => false
def exAt (p : Nat) : List (Nat × X) → Option X
  | [] => none
  | (q, x) :: l => if Nat.beq p q then some x else exAt p l
def newI (ex : Option X) (b : Bool) (n : Nat) (x : X) : X × Nat :=
  match ex with
  | some y => (y, n)
  | none => if b then (.iv n, n + 1) else if litX x then (x, n) else (.iv n, n + 1)
def newB (ex : Option X) (b : Bool) (n : Nat) (x : X) : X × Nat :=
  match ex with
  | some y => (y, n)
  | none => if b then (.bv n, n + 1) else if litX x then (x, n) else (.bv n, n + 1)
def genC (ex : List (Nat × X)) (keep : List Nat) (p n : Nat) : SC → SC × Nat
  | .ci k x => match newI (exAt p ex) (mem p keep) n x with | (y, m) => (.ci k y, m)
  | .cb x => match newB (exAt p ex) (mem p keep) n x with | (y, m) => (.cb y, m)
  | .xp e x o => match newI (exAt p ex) (mem p keep) n x with | (y, m) => (.xp e y o, m)
  | .xs e o l c => match newI (exAt p ex) (mem p keep) n o with | (y, m) => match newI (exAt p ex) (mem p keep) m l with | (z, m') => match newI (exAt p ex) (mem p keep) m' c with | (u, m'') => (.xs e y z u, m'')
  | x => (x, n)
def genCs (ex : List (Nat × X)) (keep : List Nat) : Nat → Nat → List SC → List SC × Nat × Nat
  | p, n, [] => ([], p, n)
  | p, n, x :: l => match genC ex keep p n x with | (y, m) => match genCs ex keep (p + 1) m l with | (r, q) => (y :: r, q)
def genV (ex : List (Nat × X)) (keep : List Nat) (p n : Nat) : SV → SV × Nat × Nat
  | .c x => match genC ex keep p n x with | (y, m) => (.c y, p + 1, m)
  | .agg l => match genCs ex keep p n l with | (r, q) => (.agg r, q)
def genVs (ex : List (Nat × X)) (keep : List Nat) : Nat → Nat → List SV → List SV × Nat × Nat
  | p, n, [] => ([], p, n)
  | p, n, x :: l => match genV ex keep p n x with | (y, p', m) => match genVs ex keep p' m l with | (r, q) => (y :: r, q)
def genT (ex : List (Nat × X)) (keep : List Nat) (p n : Nat) : ST → Option ST × Nat × Nat
  | .v x => match genV ex keep p n x with | (y, q) => (some (.v y), q)
  | .tup l => match genVs ex keep p n l with | (r, q) => (some (.tup r), q)
  | .ifv _ _ => (none, p, n)
def genTm (ex : List (Nat × X)) (drop keep : List Nat) : Nat → Nat → Nat → List (Option ST) → List (Option ST) × Nat × Nat
  | _, p, n, [] => ([], p, n)
  | t, p, n, none :: l => match genTm ex drop keep (t + 1) p n l with | (r, q) => (none :: r, q)
  | t, p, n, some x :: l =>
    if mem t drop then match genTm ex drop keep (t + 1) p n l with | (r, q) => (none :: r, q)
    else match genT ex keep p n x with | (y, p', m) => match genTm ex drop keep (t + 1) p' m l with | (r, q) => (y :: r, q)
def genHp (ex : List (Nat × X)) (keep : List Nat) : Nat → Nat → List (Option Blk) → List (Option Blk) × Nat × Nat
  | p, n, [] => ([], p, n)
  | p, n, none :: l => match genHp ex keep p n l with | (r, q) => (none :: r, q)
  | p, n, some b :: l => match genCs ex keep p n b.cells with | (y, p', m) => match genHp ex keep p' m l with | (r, q) => ((match b.sp with | none => some ⟨y, b.elem, none⟩ | some _ => none) :: r, q)
def genS (an : Ann) (S : St) : Pt :=
  match genTm an.ex an.drop an.keep 0 0 0 S.tm with
  | (tm, p, n) => match genHp an.ex an.keep p n S.hp with
    | (hp, _) => ⟨tm, hp⟩

/-! ### What the variables stand for -/
abbrev Grab := List X × Nat
/-- What the next variable stands for. -/
def grabX (p x : X) (l : Grab) : Grab :=
  match p with
  | .iv n => if Nat.beq n l.2 then (x :: l.1, l.2 + 1) else l
  | .bv n => if Nat.beq n l.2 then (x :: l.1, l.2 + 1) else l
  | _ => l
/-- What variables stand for, the last one first. -/
def grabS : SC → SC → Grab → Grab
  | .ci _ p, .ci _ x, l => grabX p x l
  | .cb p, .cb x, l => grabX p x l
  | .xp _ p _, .xp _ x _, l => grabX p x l
  | .xs _ o m c, .xs _ o' m' c', l => grabX c c' (grabX m m' (grabX o o' l))
  | _, _, l => l
def grabCs : List SC → List SC → Grab → Grab
  | p :: ps, x :: xs, l => grabCs ps xs (grabS p x l)
  | _, _, l => l
def grabV (p x : SV) (l : Grab) : Grab := grabCs p.cells x.cells l
def grabVs : List SV → List SV → Grab → Grab
  | p :: ps, x :: xs, l => grabVs ps xs (grabV p x l)
  | _, _, l => l
def grabT : ST → ST → Grab → Grab
  | .v p, .v x, l => grabV p x l
  | .tup p, .tup x, l => grabVs p x l
  | _, _, l => l
def grabTm : List (Option ST) → List (Option ST) → Grab → Grab
  | some p :: ps, some x :: xs, l => grabTm ps xs (grabT p x l)
  | _ :: ps, _ :: xs, l => grabTm ps xs l
  | _, _, l => l
def grabHp : List (Option Blk) → List (Option Blk) → Grab → Grab
  | some p :: ps, some x :: xs, l => grabHp ps xs (grabCs p.cells x.cells l)
  | _ :: ps, _ :: xs, l => grabHp ps xs l
  | _, _, l => l
def revX : List X → List X → List X
  | [], r => r
  | x :: l, r => revX l (x :: r)
def grabAll (p : Pt) (S : St) : List X := revX (grabHp p.hp S.hp (grabTm p.tm S.tm ([], 0))).1 []

/-! ### Is a state one of the pattern's? -/
def sureP (A : Known) (c : X) : Bool :=
  match c.dec A with
  | some b => b
  | none => if linQ A c then true else X.proveE 300 1000 A c
def inRg (A : Known) (x : X) (lo hi : Int) : Bool :=
  match X.rng A.rg x with
  | some (a, b) => intLe lo a && intLe b hi
  | none => false
section
variable (A : Known) (σ : List X)
def samI (p x : X) : Bool :=
  match p with
  | .iv n => if X.eqb (at0 σ n) x then true else sureP A (mkCmp .eql (at0 σ n) x)
  | p => if (if litX p then X.eqb p x else false) then true else sureP A (mkCmp .eql (X.onI A σ p) x)
def samT (p x : X) : Bool :=
  match p with
  | .bv n => if X.eqb (at0 σ n) x then true else sureP A (mkBeq (at0 σ n) x)
  | p => if (if litX p then X.eqb p x else false) then true else sureP A (mkBeq (X.onB A σ p) x)
def fitC : SC → SC → Bool
  | .ci k p, .ci k' x => if Nat.beq (kN k) (kN k') then samI A σ p x else false
  | .cb p, .cb x => samT A σ p x
  | .cp b o, .cp b' o' => Nat.beq b b' && Nat.beq o o'
  | .csl b o n m, .csl b' o' n' m' => Nat.beq b b' && Nat.beq o o' && Nat.beq n n' && Nat.beq m m'
  | .cv v, .cv v' => valB v v'
  | .co n, .co n' => Nat.beq n n'
  | .cf f l, .cf f' l' => Nat.beq f f' && capsB l l'
  | .xp e p o, .xp e' x o' => if Nat.beq e e' && Nat.beq o o' then samI A σ p x else false
  | .xs e o l c, .xs e' o' l' c' => if Nat.beq e e' then (if samI A σ o o' then (if samI A σ l l' then samI A σ c c' else false) else false) else false
  | _, _ => false
def fitCs : List SC → List SC → Bool
  | [], [] => true
  | p :: ps, x :: xs => if fitC A σ p x then fitCs ps xs else false
  | _, _ => false
def fitV : SV → SV → Bool
  | .c p, .c x => fitC A σ p x
  | .agg p, .agg x => fitCs A σ p x
  | _, _ => false
def fitVs : List SV → List SV → Bool
  | [], [] => true
  | p :: ps, x :: xs => if fitV A σ p x then fitVs ps xs else false
  | _, _ => false
def fitT : ST → ST → Bool
  | .v p, .v x => fitV A σ p x
  | .tup p, .tup x => fitVs A σ p x
  | _, _ => false
def fitTm : List (Option ST) → List (Option ST) → Bool
  | [], [] => true
  | none :: ps, _ :: xs => fitTm ps xs
  | some p :: ps, some x :: xs => if fitT A σ p x then fitTm ps xs else false
  | _, _ => false
def spNone (b : Blk) : Bool := match b.sp with
  | none => true
  | some _ => false
def fitHp : List (Option Blk) → List (Option Blk) → Bool
  | [], _ => true
  | none :: ps, _ :: xs => fitHp ps xs
  | some p :: ps, some x :: xs => if Nat.beq p.elem x.elem && spNone p && spNone x && fitCs A σ p.cells x.cells then fitHp ps xs else false
  | _, _ => false
def rgB : Nat → List (Option (Int × Int)) → Bool
  | _, [] => true
  | n, none :: l => rgB (n + 1) l
  | n, some (lo, hi) :: l =>
    if inRg A (at0 σ n) lo hi then rgB (n + 1) l
    else if sureP A (mkCmp .geq (at0 σ n) (.lit lo)) then (if sureP A (mkCmp .leq (at0 σ n) (.lit hi)) then rgB (n + 1) l else false) else false
def trB : List (X × Bool) → Bool
  | [] => true
  | (x, true) :: l => if sureP A (X.onB A σ x) then trB l else false
  | (x, false) :: l => if sureP A (mkNot (X.onB A σ x)) then trB l else false
end
def fitS (A Kp : Known) (p : Pt) (S : St) : Option (List X) :=
  let σ := grabAll p S
  if Nat.beq S.base 0 && Nat.ble (len p.hp) (len S.hp) then
    if fitTm A σ p.tm S.tm then if fitHp A σ p.hp S.hp then if rgB A σ 0 Kp.rg then if trB A σ Kp.tr then some σ else none else none else none else none
  else none
def Pt.ok (p : Pt) : Bool := okHp (len p.hp) p.hp && allB (optT (ST.fits (len p.hp))) p.tm

section
variable {P : Program} {A Kp : Known} {ρ : Env} {β : Nat → Nat} {S : St} {wr w : World} {a : Act} {σ : List X} {p : Pt}

theorem sureP_ok (hA : A.ok ρ) {c : X} (h : sureP A c = true) : c.B ρ = true := by
  unfold sureP at h
  split at h
  · next b hb => rw [dec_ok hA c b hb, h]
  · split at h
    · next hl => exact linQ_ok hA hl
    · exact proveE_ok hA h
theorem litX_I {x : X} (h : litX x = true) (ρ' : Env) : x.I ρ' = x.I ρ ∧ x.B ρ' = x.B ρ := by
  cases x <;> simp [litX] at h <;> simp [X.I, X.B]
theorem samI_ok (hA : A.ok ρ) {x y : X} (h : samI A σ x y = true) : x.I (ρ.on σ) = y.I ρ := by
  have two : ∀ {u v : X}, sureP A (mkCmp .eql u v) = true → u.I ρ = v.I ρ := by
    intro u v h
    have := sureP_ok hA h
    simpa [cmpI] using this
  unfold samI at h
  split at h
  · next n =>
    show (at0 σ n).I ρ = _
    split at h
    · next he => rw [X.eqb_eq he]
    · exact two h
  · split at h
    · next hl =>
      split at h
      · next he => rw [← X.eqb_eq he]; exact (litX_I hl _).1
      · rw [← onI_ok hA]; exact two h
    · rw [← onI_ok hA]; exact two h
theorem samT_ok (hA : A.ok ρ) {x y : X} (h : samT A σ x y = true) : x.B (ρ.on σ) = y.B ρ := by
  have two : ∀ {u v : X}, sureP A (mkBeq u v) = true → u.B ρ = v.B ρ := by
    intro u v h
    have := sureP_ok hA h
    simpa using this
  unfold samT at h
  split at h
  · next n =>
    show (at0 σ n).B ρ = _
    split at h
    · next he => rw [X.eqb_eq he]
    · exact two h
  · split at h
    · next hl =>
      split at h
      · next he => rw [← X.eqb_eq he]; exact (litX_I hl _).2
      · rw [← onB_ok hA]; exact two h
    · rw [← onB_ok hA]; exact two h
theorem fitC_ok (hA : A.ok ρ) {x y : SC} (h : fitC A σ x y = true) : x.den (ρ.on σ) β = y.den ρ β := by
  unfold fitC at h
  split at h
  · split at h
    · next hk => simp only [SC.den, kN_inj hk, samI_ok hA h]
    · cases h
  · simp only [SC.den, samT_ok hA h]
  · simp only [Bool.and_eq_true] at h
    simp only [SC.den, Nat.eq_of_beq_eq_true h.1, Nat.eq_of_beq_eq_true h.2]
  · simp only [Bool.and_eq_true] at h
    simp only [SC.den, Nat.eq_of_beq_eq_true h.1.1.1, Nat.eq_of_beq_eq_true h.1.1.2, Nat.eq_of_beq_eq_true h.1.2, Nat.eq_of_beq_eq_true h.2]
  · simp only [SC.den, valB_eq h]
  · simp only [SC.den, Nat.eq_of_beq_eq_true h]; rfl
  · simp only [Bool.and_eq_true] at h
    simp only [SC.den, Nat.eq_of_beq_eq_true h.1, capsB_eq h.2]
  · split at h
    · next he =>
      simp only [Bool.and_eq_true] at he
      simp only [SC.den, Nat.eq_of_beq_eq_true he.1, Nat.eq_of_beq_eq_true he.2, samI_ok hA h]; rfl
    · cases h
  · split at h
    · next he =>
      split at h
      · next ho =>
        split at h
        · next hl => simp only [SC.den, Nat.eq_of_beq_eq_true he, samI_ok hA h, samI_ok hA ho, samI_ok hA hl]; rfl
        · cases h
      · cases h
    · cases h
  · cases h
theorem fitCs_ok (hA : A.ok ρ) : ∀ {x y : List SC}, fitCs A σ x y = true → dens (ρ.on σ) β x = dens ρ β y
  | [], [], _ => rfl
  | x :: xs, y :: ys, h => by
    simp only [fitCs] at h
    split at h
    · next hc => simp only [dens, List.map_cons, fitC_ok hA hc, List.cons.injEq, true_and]; exact fitCs_ok hA h
    · cases h
  | [], _ :: _, h => by simp [fitCs] at h
  | _ :: _, [], h => by simp [fitCs] at h
theorem fitV_ok (hA : A.ok ρ) {x y : SV} (h : fitV A σ x y = true) : x.den (ρ.on σ) β = y.den ρ β := by
  cases x <;> cases y <;> simp only [fitV] at h
  · exact fitC_ok hA h
  · cases h
  · cases h
  · have := fitCs_ok (β := β) hA h
    simp only [dens] at this
    simp only [SV.den, this]
theorem fitVs_ok (hA : A.ok ρ) : ∀ {x y : List SV}, fitVs A σ x y = true → x.map (SV.den (ρ.on σ) β) = y.map (SV.den ρ β)
  | [], [], _ => rfl
  | x :: xs, y :: ys, h => by
    simp only [fitVs] at h
    split at h
    · next hc => simp only [List.map_cons, fitV_ok hA hc, List.cons.injEq, true_and]; exact fitVs_ok hA h
    · cases h
  | [], _ :: _, h => by simp [fitVs] at h
  | _ :: _, [], h => by simp [fitVs] at h
theorem fitT_ok (hA : A.ok ρ) {x y : ST} (h : fitT A σ x y = true) : x.den (ρ.on σ) β = y.den ρ β := by
  cases x <;> cases y <;> simp only [fitT, Bool.false_eq_true] at h
  · exact fitV_ok hA h
  · simp only [ST.den, fitVs_ok hA h]
theorem fitTm_ok (hA : A.ok ρ) : ∀ {x y : List (Option ST)}, fitTm A σ x y = true → x.length = y.length ∧ ∀ (t : Nat) (v : ST), x[t]? = some (some v) → ∃ u, y[t]? = some (some u) ∧ v.den (ρ.on σ) β = u.den ρ β
  | [], [], _ => ⟨rfl, fun t v h => by simp at h⟩
  | none :: ps, _ :: xs, h => by
    simp only [fitTm] at h
    obtain ⟨h1, h2⟩ := fitTm_ok hA h
    refine ⟨by simp [h1], fun t v ht => ?_⟩
    cases t with
    | zero => simp at ht
    | succ t => simpa using h2 t v (by simpa using ht)
  | some p :: ps, some x :: xs, h => by
    simp only [fitTm] at h
    split at h
    · next hc =>
      obtain ⟨h1, h2⟩ := fitTm_ok hA h
      refine ⟨by simp [h1], fun t v ht => ?_⟩
      cases t with
      | zero => simp only [List.getElem?_cons_zero, Option.some.injEq] at ht; subst ht; exact ⟨x, rfl, fitT_ok hA hc⟩
      | succ t => simpa using h2 t v (by simpa using ht)
    · cases h
  | some p :: ps, none :: xs, h => by simp [fitTm] at h
  | [], _ :: _, h => by simp [fitTm] at h
  | none :: _, [], h => by simp [fitTm] at h
  | some _ :: _, [], h => by simp [fitTm] at h
theorem fitHp_ok (hA : A.ok ρ) : ∀ {x y : List (Option Blk)}, fitHp A σ x y = true → ∀ (t : Nat) (v : Blk), x[t]? = some (some v) → ∃ u, y[t]? = some (some u) ∧ v.obj (ρ.on σ) β = u.obj ρ β
  | [], _, _ => fun t v h => by simp at h
  | none :: ps, _ :: xs, h => by
    simp only [fitHp] at h
    intro t v ht
    cases t with
    | zero => simp at ht
    | succ t => simpa using fitHp_ok hA h t v (by simpa using ht)
  | some p :: ps, some x :: xs, h => by
    simp only [fitHp] at h
    split at h
    · next hc =>
      simp only [Bool.and_eq_true] at hc
      intro t v ht
      cases t with
      | zero =>
        simp only [List.getElem?_cons_zero, Option.some.injEq] at ht
        subst ht
        refine ⟨x, rfl, ?_⟩
        have sn : ∀ b : Blk, spNone b = true → b.sp = none := by intro b hb; unfold spNone at hb; split at hb; assumption; cases hb
        unfold Blk.obj
        rw [fitCs_ok hA hc.2, Nat.eq_of_beq_eq_true hc.1.1.1, sn p hc.1.1.2, sn x hc.1.2]
        rfl
      | succ t => simpa using fitHp_ok hA h t v (by simpa using ht)
    · cases h
  | some p :: ps, none :: xs, h => by simp [fitHp] at h
  | none :: _, [], h => by simp [fitHp] at h
  | some _ :: _, [], h => by simp [fitHp] at h
theorem rgB_ok (hA : A.ok ρ) : ∀ {l : List (Option (Int × Int))} {m : Nat}, rgB A σ m l = true → ∀ (n : Nat) (lo hi : Int), l[n]? = some (some (lo, hi)) → lo ≤ (at0 σ (m + n)).I ρ ∧ (at0 σ (m + n)).I ρ ≤ hi
  | [], m, _ => fun n lo hi h => by simp at h
  | none :: l, m, h => by
    simp only [rgB] at h
    intro n lo hi hn
    cases n with
    | zero => simp at hn
    | succ n => have := rgB_ok hA h n lo hi (by simpa using hn); rwa [show m + (n + 1) = m + 1 + n by omega]
  | some (lo0, hi0) :: l, m, h => by
    intro n lo hi hn
    have rest : rgB A σ (m + 1) l = true ∧ lo0 ≤ (at0 σ m).I ρ ∧ (at0 σ m).I ρ ≤ hi0 := by
      simp only [rgB] at h
      split at h
      · next hc =>
        refine ⟨h, ?_⟩
        unfold inRg at hc
        split at hc
        · next a b e =>
          simp only [Bool.and_eq_true, intLe_iff] at hc
          have hb := rng_ok hA.1 _ _ _ e
          omega
        · cases hc
      · split at h
        · next h1 =>
          split at h
          · next h2 =>
            have g1 : lo0 ≤ (at0 σ m).I ρ := by have := sureP_ok hA h1; simpa [cmpI, X.I] using this
            have g2 : (at0 σ m).I ρ ≤ hi0 := by have := sureP_ok hA h2; simp only [B_mkCmp, cmpI, X.I] at this; exact of_decide_eq_true this
            exact ⟨h, g1, g2⟩
          · cases h
        · cases h
    cases n with
    | zero =>
      simp only [List.getElem?_cons_zero, Option.some.injEq, Prod.mk.injEq] at hn
      obtain ⟨rfl, rfl⟩ := hn
      exact rest.2
    | succ n => have := rgB_ok hA rest.1 n lo hi (by simpa using hn); rwa [show m + (n + 1) = m + 1 + n by omega]
theorem trB_ok (hA : A.ok ρ) : ∀ {l : List (X × Bool)}, trB A σ l = true → ∀ x b, (x, b) ∈ l → x.B (ρ.on σ) = b
  | [], _ => fun x b h => by simp at h
  | (x, true) :: l, h => by
    simp only [trB] at h
    split at h
    · next hc =>
      intro y b hy
      rcases List.mem_cons.1 hy with hy | hy
      · cases hy; rw [← onB_ok hA]; exact sureP_ok hA hc
      · exact trB_ok hA h y b hy
    · cases h
  | (x, false) :: l, h => by
    simp only [trB] at h
    split at h
    · next hc =>
      intro y b hy
      rcases List.mem_cons.1 hy with hy | hy
      · cases hy
        have := sureP_ok hA hc
        rw [← onB_ok hA]; simpa using this
      · exact trB_ok hA h y b hy
    · cases h
theorem fitS_ok (h : fitS A Kp p S = some σ) (hp : p.ok = true) (hA : A.ok ρ) (hR : Rep ρ β S wr w) (hT : RepA ρ β S a) : Kp.ok (ρ.on σ) ∧ Rep (ρ.on σ) β p.st wr w ∧ RepA (ρ.on σ) β p.st a := by
  unfold fitS at h
  simp only at h
  split at h
  case isFalse => cases h
  next h0 =>
  split at h
  case isFalse => cases h
  next h1 =>
  split at h
  case isFalse => cases h
  next h2 =>
  split at h
  case isFalse => cases h
  next h3 =>
  split at h
  case isFalse => cases h
  next h4 =>
  simp only [Option.some.injEq] at h
  rw [h] at h1 h2 h3 h4
  simp only [Bool.and_eq_true, Nat.ble_eq, len_eq] at h0
  have hb := Nat.eq_of_beq_eq_true h0.1
  simp only [Pt.ok, Bool.and_eq_true, len_eq] at hp
  obtain ⟨t1, t2⟩ := fitTm_ok (β := β) hA h1
  have g2 := fitHp_ok (β := β) hA h2
  refine ⟨⟨fun n l h hn => ?_, trB_ok hA h4, hA.2.2⟩, ⟨?_, okHp_eq hp.1, ?_, ?_, ?_, ?_, hR.size, hR.os, hR.tape, hR.output, ?_, Nat.zero_le _, ?_⟩, ⟨?_, ?_, ?_, hT.df⟩⟩
  · have := rgB_ok hA h3 n l h hn
    rw [Nat.zero_add] at this
    exact this
  · intro id b hid
    obtain ⟨c, c1, c2⟩ := g2 id b hid
    rw [c2]; exact hR.blk id c c1
  · intro id b _ hlt; exact absurd hlt (Nat.not_lt_zero _)
  · intro id b hid _
    obtain ⟨c, c1, _⟩ := g2 id b hid
    rcases hR.new id c c1 (by rw [hb]; exact Nat.zero_le _) with h3 | ⟨o, ho, _⟩
    · exact .inl h3
    · exact absurd (hR.wrs o ho) (by rw [hb]; exact Nat.not_lt_zero _)
  · intro i j b c hi hj
    obtain ⟨b', b1, _⟩ := g2 i b hi
    obtain ⟨c', c1, _⟩ := g2 j c hj
    exact hR.inj i j b' c' b1 c1
  · intro k hk _
    exact hR.frame k hk fun id hid => absurd (hR.wrs id hid) (by rw [hb]; exact Nat.not_lt_zero _)
  · intro id hid; simp [Pt.st] at hid
  · intro e he
    refine ⟨(hR.row e he).1, fun id b hid => ?_⟩
    obtain ⟨c, c1, _⟩ := g2 id b hid
    exact (hR.row e he).2 id c c1
  · show _ = p.tm.length
    rw [t1]; exact hT.sz
  · intro t v ht
    obtain ⟨u, u1, u2⟩ := t2 t v ht
    rw [u2]; exact hT.tm t u u1
  · intro t v ht
    have := (allB_eq _ _).1 hp.2 _ (List.mem_of_getElem? ht)
    exact this
end

/-! ### Code, way by way -/
abbrev Kont := Ex → Known → St → Bool
def wayB (k : Kont) (A : Known) (c : X) (e : Ex) (S : St) : Bool :=
  match c with
  | .bl false => true
  | c => if k e (A.holds c) S then true else (A.holds c).void
def outsB (k : Kont) (A : Known) : Outs → Bool
  | [] => true
  | (c, e, S) :: l => if wayB k A c e S then outsB k A l else false
def runB (run : Known → R Outs) (k : Kont) : Nat → Known → Bool
  | 0, A => match run A with
    | .ok L => outsB k A L
    | .split _ => false
    | .fail _ => A.void
  | d + 1, A => match run A with
    | .ok L => outsB k A L
    | .split c => if runB run k d (A.assume c true) then runB run k d (A.assume c false) else false
    | .fail _ => A.void
def seqK (kb : Known → St → Bool) (k : Kont) : Kont
  | .normal, A, S => kb A S
  | e, A, S => k e A S
def blockK (id : Nat) (k : Kont) : Kont := fun e A S => k (leaves id e) A S
def lastK (k : Kont) : Kont
  | .normal, _, _ => false
  | e, A, S => k e A S
def roundK (more : Known → St → Bool) (p : Pt) (Kp : Known) (ms : X) (k : Kont) : Kont
  | .normal, A, S => match fitS A Kp p S with
    | some σ => if sureP A (mkCmp .geq ms (.lit 1)) then sureP A (mkCmp .lss (X.onI A σ ms) ms) else false
    | none => more A S
  | e, A, S => k e A S
/-- What follows where the first of two does not hold. -/
def orsOf (c : X) : List (X × Bool) → Known → Known
  | [], K => K
  | (.or a b, true) :: l, K => orsOf c l (if X.eqb a c then K.assume b true else K)
  | _ :: l, K => orsOf c l K
/-! A state told more shortly -/
def eqVar (n : Nat) : List (X × Bool) → X
  | [] => .iv n
  | (.cmp .eql (.iv m) (.iv n'), true) :: l => if Nat.beq n n' then .iv m else eqVar n l
  | _ :: l => eqVar n l
def simpC (A : Known) : SC → SC
  | .ci k x => match eqLit x A.tr with
    | some z => .ci k (.lit z)
    | none => match x with
      | .iv n => .ci k (eqVar n A.tr)
      | x => .ci k x
  | .cb x => match x.dec A with
    | some b => .cb (.bl b)
    | none => .cb x
  | x => x
def simpV (A : Known) : SV → SV
  | .c x => .c (simpC A x)
  | .agg l => .agg (mapS (simpC A) l)
def simpT (A : Known) : ST → ST
  | .v x => .v (simpV A x)
  | .tup l => .tup (mapS (simpV A) l)
  | .ifv c x => .ifv c x
def simpO {α : Type} (f : α → α) : Option α → Option α
  | some x => some (f x)
  | none => none
def simpS (A : Known) (S : St) : St :=
  { S with tm := mapS (simpO (simpT A)) S.tm, hp := mapS (simpO (fun (b : Blk) => ⟨mapS (simpC A) b.cells, b.elem, b.sp⟩)) S.hp }
/-- It is none below. -/
def noneB (x : X) : Nat → Known → Known
  | 0, A => A
  | n + 1, A => noneB x n (A.assume (.cmp .eql x (.lit (.ofNat n))) false)
/-- One case: of truths 0 or 1, of numbers the number. -/
def pathB (f : Known → Bool) : List (X × Nat) → List Nat → Known → Bool
  | [], _, A => f A
  | _ :: _, [], _ => true
  | (c, 0) :: l, m :: r, A => if Nat.beq m 0 then pathB f l r (A.assume c true) else pathB f l r (orsOf c A.tr (A.assume c false))
  | (x, n + 1) :: l, m :: r, A => if inRg A x 0 (.ofNat n) then pathB f l r (noneB x m (A.assume (.cmp .eql x (.lit (.ofNat m))) true)) else false
/-- All of them. -/
def pathsL (l : List (List Nat)) : Nat → List (List Nat)
  | 0 => []
  | n + 1 => mapS (fun r => n :: r) l ++ pathsL l n
def paths : List (X × Nat) → List (List Nat)
  | [] => [[]]
  | (_, 0) :: l => pathsL (paths l) 2
  | (_, n + 1) :: l => pathsL (paths l) (n + 1)
abbrev Mode := Option (List Nat)
def moreB (run : Known → St → R Outs) (k : Kont) (d : Nat) (b : Bool) (A : Known) (S : St) : Bool :=
  if b then runB (fun A => run A S) (lastK k) d A else false
/-- Behind the first round. -/
def firstK (p : Pt) (Kp : Known) (ms : X) (k : Kont) : Kont
  | .normal, A, S => match fitS A Kp p S with
    | some σ => sureP A (mkCmp .leq (X.onI A σ ms) (.lit 9223372036854775807))
    | none => false
  | e, A, S => k e A S
def firstB (run : Known → St → R Outs) (k : Kont) (d : Nat) (an : Ann) (p : Pt) (A : Known) (S : St) : Bool :=
  if an.peel then runB (fun A => run A S) (firstK p ⟨an.rg, an.tr⟩ an.ms k) d A
  else match fitS A ⟨an.rg, an.tr⟩ p S with
    | some _ => true
    | none => false
def loopB (run : Known → St → R Outs) (k : Kont) (d : Nat) (an : Ann) (M : Mode) (A : Known) (S : St) : Bool :=
  let p := genS an S
  let Kp : Known := ⟨an.rg, an.tr⟩
  if p.ok then
    match M with
    | none => firstB run k d an p A S
    | some m => pathB (fun A0 => runB (fun A => run A (simpS A0 p.st)) (roundK (moreB run k d an.last) p Kp an.ms k) d A0) an.cases m Kp
  else false
/-- Is a place within another one? -/
def inSub : Nat → Nat → Nat → Bool
  | 0, _, _ => false
  | n + 1, p, q => if Nat.beq p q then true else if Nat.ble q p then false else inSub n p (q / 2)
def hasA (p : Nat) : List (Nat × Ann) → Bool
  | [] => false
  | (q, _) :: l => if inSub 64 p q then true else hasA p l
def annAt (p : Nat) : List (Nat × Ann) → Option Ann
  | [] => none
  | (q, an) :: l => if Nat.beq p q then some an else annAt p l
/-- It holds, or nothing is so. -/
def orV (A : Known) (b : Bool) : Bool := if b then true else A.void
def vc (P : Program) (q : Nat) (sum : Sums) (fuel d : Nat) (anns : List (Nat × Ann)) (M : Mode) : Code → Nat → Kont → Known → St → Bool
  | .seq a b, p, k, A, S =>
    if hasA (2 * p) anns then vc P q sum fuel d anns M a (2 * p) (seqK (fun A S => runB (fun A => exec P q sum fuel A b S) k d A) k) A S
    else if hasA (2 * p + 1) anns then runB (fun A => exec P q sum fuel A a S) (seqK (fun A S => vc P q sum fuel d anns M b (2 * p + 1) k A S) k) d A
    else runB (fun A => exec P q sum fuel A (.seq a b) S) k d A
  | .block id body, p, k, A, S =>
    if hasA p anns then vc P q sum fuel d anns M body (2 * p) (blockK id k) A S
    else runB (fun A => exec P q sum fuel A (.block id body) S) k d A
  | .loop body, p, k, A, S =>
    match annAt p anns with
    | some an => loopB (fun A S => exec P q sum fuel A body S) k d an M A S
    | none => runB (fun A => exec P q sum fuel A (.loop body) S) k d A
  | .cond c t e, p, k, A, S =>
    if hasA p anns then
      match (do asB (← evC A S c) : R X) with
      | .ok x => match x.dec A with
        | some true => vc P q sum fuel d anns M t (2 * p) k A S
        | some false => vc P q sum fuel d anns M e (2 * p + 1) k A S
        | none =>
          if orV (A.assume x true) (vc P q sum fuel d anns M t (2 * p) k (A.assume x true) S) then
            orV (A.assume x false) (vc P q sum fuel d anns M e (2 * p + 1) k (A.assume x false) S)
          else false
      | _ => false
    else runB (fun A => exec P q sum fuel A (.cond c t e) S) k d A
  | c, _, k, A, S => runB (fun A => exec P q sum fuel A c S) k d A
def modesOf : List (Nat × Ann) → List Mode
  | [] => [none]
  | (_, an) :: l => mapS some (paths an.cases) ++ modesOf l
def AllM (f : Mode → Prop) : List Mode → Prop
  | [] => True
  | m :: l => f m ∧ AllM f l
/-- What a law's function has to answer. -/
def endK (P : Program) (fn : Func) : Kont := fun e A S =>
  match e with
  | .exit _ => false
  | _ => match resS P A S fn.results.toList with
    | .ok [.c (.cb x)] => if Nat.beq S.base 0 then (if sureP A x then true else A.void) else false
    | .ok _ => false
    | _ => A.void
def vcF (P : Program) (q : Nat) (sum : Sums) (fuel d : Nat) (anns : List (Nat × Ann)) (M : Mode) (f : FuncId) (args : List SV) (A : Known) : Bool :=
  match P.funcs[f]? with
  | some fn => match fn.body with
    | some body =>
      if (fn.name != "runtime.NumGoroutine") && Nat.ble (len args) fn.ntmps && allB (SV.fits 0) args then
        vc P q sum fuel d anns M body 1 (endK P fn) A ⟨args.map (fun v => some (ST.v v)) ++ rep (fn.ntmps - len args) (some (ST.tup [])), [], 0, []⟩
      else false
    | none => false
  | none => false

section
variable {P : Program} {A : Known} {ρ : Env} {β : Nat → Nat} {S : St} {wr w : World} {a : Act}

section
variable {G : Mode → Prop}
/-- What a way's end asks, whatever is looked at. -/
def KontAt (G : Mode → Prop) (ρ : Env) (wr : World) (Q : Exit → Act → World → Prop) (k : Mode → Kont) : Prop :=
  ∀ e A S, (∀ M, G M → k M e A S = true) → ∀ (β : Nat → Nat) (a : Act) (w : World) (e' : Exit), A.ok ρ → Rep ρ β S wr w → RepA ρ β S a → e.is e' → Q e' a w
theorem outsB_ok {k : Mode → Kont} {e : Ex} {S1 : St} (hA : A.ok ρ) : ∀ {L : Outs}, (∀ M, G M → outsB (k M) A L = true) → Pick ρ e S1 L → ∃ A', A'.ok ρ ∧ ∀ M, G M → k M e A' S1 = true
  | [], _, h => h.elim
  | (c, e0, S0) :: l, h, hP => by
    have h2 : ∀ M, G M → wayB (k M) A c e0 S0 = true ∧ outsB (k M) A l = true := by
      intro M hM
      have h := h M hM
      simp only [outsB] at h
      split at h
      · next hw => exact ⟨hw, h⟩
      · cases h
    rcases hP with ⟨h1, h3, h4, _⟩ | ⟨_, h3⟩
    · subst h3; subst h4
      refine ⟨_, holds_ok hA h1, fun M hM => ?_⟩
      have hc := (h2 M hM).1
      unfold wayB at hc
      split at hc
      · simp [X.B] at h1
      · split at hc
        · next hk => exact hk
        · exact absurd (holds_ok hA h1) (void_ok hc)
    · exact outsB_ok hA (fun M hM => (h2 M hM).2) h3
theorem runB_ok (hG : ∃ M, G M) {run : Known → R Outs} {k : Mode → Kont} {Q : Exit → Act → World → Prop} {c : Code} (hr : ∀ A L, A.ok ρ → run A = .ok L → ∃ e S1, Pick ρ e S1 L ∧ After P ρ S c e S1) (hk : KontAt G ρ wr Q k) :
    ∀ (d : Nat) (A : Known), A.ok ρ → (∀ M, G M → runB run (k M) d A = true) → ∀ (β : Nat → Nat) (a : Act) (w : World), Rep ρ β S wr w → RepA ρ β S a → c.wp P Q a w := by
  have fin : ∀ (A : Known) (L : Outs), A.ok ρ → run A = .ok L → (∀ M, G M → outsB (k M) A L = true) → ∀ (β : Nat → Nat) (a : Act) (w : World), Rep ρ β S wr w → RepA ρ β S a → c.wp P Q a w := by
    intro A L hA hL hB β a w hR hT
    obtain ⟨e, S1, p1, h1⟩ := hr A L hA hL
    obtain ⟨A', a1, a2⟩ := outsB_ok hA hB p1
    refine wp_mono (h1 β wr a w hR hT) ?_
    rintro e' a' w' ⟨he, β', _, b2, b3, _⟩
    exact hk e A' S1 a2 β' a' w' e' a1 b2 b3 he
  obtain ⟨M0, hM0⟩ := hG
  intro d
  induction d with
  | zero =>
    intro A hA h β a w hR hT
    cases hL : run A with
    | ok L => exact fin A L hA hL (fun M hM => by have := h M hM; simpa only [runB, hL] using this) β a w hR hT
    | split c => have := h M0 hM0; simp only [runB, hL] at this; cases this
    | fail m => have := h M0 hM0; simp only [runB, hL] at this; exact absurd hA (void_ok this)
  | succ d ih =>
    intro A hA h β a w hR hT
    cases hL : run A with
    | ok L => exact fin A L hA hL (fun M hM => by have := h M hM; simpa only [runB, hL] using this) β a w hR hT
    | split c =>
      have h2 : ∀ M, G M → runB run (k M) d (A.assume c true) = true ∧ runB run (k M) d (A.assume c false) = true := by
        intro M hM
        have := h M hM
        simp only [runB, hL] at this
        split at this
        · next ht => exact ⟨ht, this⟩
        · cases this
      cases hb : c.B ρ with
      | true => exact ih _ (assume_ok c true hA hb) (fun M hM => (h2 M hM).1) β a w hR hT
      | false => exact ih _ (assume_ok c false hA hb) (fun M hM => (h2 M hM).2) β a w hR hT
    | fail m => have := h M0 hM0; simp only [runB, hL] at this; exact absurd hA (void_ok this)
end
/-- The same of what is looked at once. -/
abbrev KontAt1 (ρ : Env) (wr : World) (Q : Exit → Act → World → Prop) (k : Kont) : Prop := KontAt (fun _ => True) ρ wr Q (fun _ => k)
theorem kont1 {Q : Exit → Act → World → Prop} {k : Kont} (h : KontAt1 ρ wr Q k) {e : Ex} {A : Known} {S : St} (hk : k e A S = true) : ∀ (β : Nat → Nat) (a : Act) (w : World) (e' : Exit), A.ok ρ → Rep ρ β S wr w → RepA ρ β S a → e.is e' → Q e' a w :=
  h e A S fun _ _ => hk
theorem runB_ok1 {run : Known → R Outs} {k : Kont} {Q : Exit → Act → World → Prop} {c : Code} (hr : ∀ A L, A.ok ρ → run A = .ok L → ∃ e S1, Pick ρ e S1 L ∧ After P ρ S c e S1) (hk : KontAt1 ρ wr Q k)
    (d : Nat) (A : Known) (hA : A.ok ρ) (h : runB run k d A = true) (β : Nat → Nat) (a : Act) (w : World) (hR : Rep ρ β S wr w) (hT : RepA ρ β S a) : c.wp P Q a w :=
  runB_ok (G := fun _ => True) ⟨none, trivial⟩ hr hk d A hA (fun _ _ => h) β a w hR hT

theorem orsOf_ok {c : X} (hc : c.B ρ = false) : ∀ {l : List (X × Bool)}, (∀ x b, (x, b) ∈ l → x.B ρ = b) → ∀ {K : Known}, K.ok ρ → (orsOf c l K).ok ρ
  | [], _, K, hK => hK
  | p :: l, h, K, hK => by
    have ih := fun {K : Known} (hK : K.ok ρ) => orsOf_ok hc (l := l) (fun x b hx => h x b (List.mem_cons_of_mem _ hx)) hK
    unfold orsOf
    split
    · next e => cases e
    · next a b l' e =>
      cases e
      refine ih ?_
      split
      · next he =>
        have := h _ _ (List.mem_cons_self)
        simp only [X.B, X.eqb_eq he, hc, Bool.false_or] at this
        exact assume_ok b true hK this
      · exact hK
    · next e => cases e; exact ih hK
theorem noneB_ok {x : X} : ∀ (n : Nat), (n : Int) ≤ x.I ρ → ∀ {K : Known}, K.ok ρ → (noneB x n K).ok ρ
  | 0, _, _, hK => hK
  | n + 1, h, _, hK => noneB_ok n (by omega) (assume_ok _ false hK (by
    simp only [X.B, X.I, cmpI, beq_eq_false_iff_ne]
    show x.I ρ ≠ (n : Int)
    omega))
theorem eqVar_ok (n : Nat) : ∀ {l : List (X × Bool)}, (∀ x b, (x, b) ∈ l → x.B ρ = b) → (eqVar n l).I ρ = ρ.i n
  | [], _ => rfl
  | p :: l, h => by
    have ih := eqVar_ok n (l := l) fun x b hx => h x b (List.mem_cons_of_mem _ hx)
    unfold eqVar
    split
    · next e => cases e
    · next m n' l' e =>
      cases e
      split
      · next hn =>
        have := h _ _ (List.mem_cons_self)
        simp only [X.B, X.I, cmpI, beq_iff_eq] at this
        simp only [X.I, this, Nat.eq_of_beq_eq_true hn]
      · exact ih
    · next e => cases e; exact ih
theorem eqLit_is {e : X} {z : Int} : ∀ {l : List (X × Bool)}, (∀ x b, (x, b) ∈ l → x.B ρ = b) → eqLit e l = some z → e.I ρ = z
  | [], _, h => by simp [eqLit] at h
  | p :: l, h, hz => by
    have ih := fun hz => eqLit_is (e := e) (z := z) (l := l) (fun x b hx => h x b (List.mem_cons_of_mem _ hx)) hz
    unfold eqLit at hz
    split at hz
    · next e => cases e
    · next x y l' e =>
      cases e
      split at hz
      · next hx =>
        cases hz
        have := h _ _ (List.mem_cons_self)
        simp only [X.B, X.I, cmpI, beq_iff_eq] at this
        rw [← X.eqb_eq hx]; exact this
      · exact ih hz
    · next e => cases e; exact ih hz
theorem simpC_ok (hA : A.ok ρ) (x : SC) : (simpC A x).den ρ β = x.den ρ β ∧ ∀ n, (simpC A x).fits n = x.fits n := by
  cases x with
  | ci k x =>
    simp only [simpC]
    split
    · next z hz => exact ⟨by simp only [SC.den, X.I, eqLit_is hA.2.1 hz], fun _ => rfl⟩
    · split
      · exact ⟨by simp only [SC.den, eqVar_ok _ hA.2.1, X.I], fun _ => rfl⟩
      · exact ⟨rfl, fun _ => rfl⟩
  | cb x =>
    simp only [simpC]
    split
    · next b hb => exact ⟨by simp only [SC.den, X.B, dec_ok hA x b hb], fun _ => rfl⟩
    · exact ⟨rfl, fun _ => rfl⟩
  | _ => exact ⟨rfl, fun _ => rfl⟩
theorem simpCs_ok (hA : A.ok ρ) (l : List SC) : dens ρ β (mapS (simpC A) l) = dens ρ β l ∧ ∀ n, allB (SC.fits n) l = true → allB (SC.fits n) (mapS (simpC A) l) = true := by
  refine ⟨?_, fun n h => ?_⟩
  · simp only [dens, mapS_eq, List.map_map]
    exact List.map_congr_left fun x _ => (simpC_ok hA x).1
  · rw [allB_eq] at h ⊢
    intro x hx
    rw [mapS_eq] at hx
    obtain ⟨y, hy, rfl⟩ := List.mem_map.1 hx
    rw [(simpC_ok (β := β) hA y).2]; exact h y hy
theorem simpV_ok (hA : A.ok ρ) (x : SV) : (simpV A x).den ρ β = x.den ρ β ∧ ∀ n, x.fits n = true → (simpV A x).fits n = true := by
  cases x with
  | c x => exact ⟨(simpC_ok hA x).1, fun n h => by rw [← h]; exact (simpC_ok (β := β) hA x).2 n⟩
  | agg l =>
    have h1 := (simpCs_ok (β := β) hA l).1
    simp only [dens] at h1
    exact ⟨by simp only [simpV, SV.den, h1], fun n h => (simpCs_ok (β := β) hA l).2 n h⟩
theorem simpT_ok (hA : A.ok ρ) (x : ST) : (simpT A x).den ρ β = x.den ρ β ∧ ∀ n, x.fits n = true → (simpT A x).fits n = true := by
  cases x with
  | v x => exact simpV_ok hA x
  | tup l =>
    refine ⟨?_, fun n h => ?_⟩
    · simp only [simpT, ST.den, mapS_eq, List.map_map]
      congr 2
      exact List.map_congr_left fun x _ => (simpV_ok hA x).1
    · simp only [simpT, ST.fits, allB_eq, mapS_eq] at h ⊢
      intro x hx
      obtain ⟨y, hy, rfl⟩ := List.mem_map.1 hx
      exact (simpV_ok (β := β) hA y).2 n (h y hy)
  | ifv c x => exact ⟨rfl, fun _ h => h⟩
theorem simpS_ok (hA : A.ok ρ) (hR : Rep ρ β S wr w) (hT : RepA ρ β S a) : Rep ρ β (simpS A S) wr w ∧ RepA ρ β (simpS A S) a := by
  have len : (simpS A S).hp.length = S.hp.length := by simp [simpS, mapS_eq]
  have get : ∀ {id : Nat} {b : Blk}, (simpS A S).hp[id]? = some (some b) → ∃ c, S.hp[id]? = some (some c) ∧ b.obj ρ β = c.obj ρ β ∧ ∀ n, c.ok n = true → b.ok n = true := by
    intro id b h
    have e : (simpS A S).hp = S.hp.map (simpO (fun (b : Blk) => ⟨mapS (simpC A) b.cells, b.elem, b.sp⟩)) := by simp only [simpS]; rw [mapS_eq]
    rw [e, List.getElem?_map] at h
    cases hc : S.hp[id]? with
    | none => simp [hc] at h
    | some o =>
      cases o with
      | none => simp [hc, simpO] at h
      | some c =>
        simp only [hc, Option.map_some, simpO, Option.some.injEq] at h
        subst h
        obtain ⟨h1, h2⟩ := simpCs_ok (β := β) hA c.cells
        exact ⟨c, rfl, by simp only [Blk.obj, h1], fun n hn => by simp only [Blk.ok, Bool.and_eq_true] at hn ⊢; exact ⟨h2 n hn.1, hn.2⟩⟩
  refine ⟨⟨fun id b h => ?_, fun id b h => ?_, fun id b h hb => ?_, fun id b h hb => ?_, fun i j b c hi hj => ?_, hR.frame, hR.size, hR.os, hR.tape, hR.output, hR.wrs, by rw [len]; exact hR.bs, fun e he => ⟨(hR.row e he).1, fun id b h => ?_⟩⟩, ⟨?_, fun t v h => ?_, fun t v h => ?_, hT.df⟩⟩
  · obtain ⟨c, h1, h2, _⟩ := get h; rw [h2]; exact hR.blk id c h1
  · obtain ⟨c, h1, _, h3⟩ := get h; rw [len]; exact h3 _ (hR.bok id c h1)
  · obtain ⟨c, h1, _⟩ := get h; exact hR.old id c h1 hb
  · obtain ⟨c, h1, _⟩ := get h; exact hR.new id c h1 hb
  · obtain ⟨c1, h1, _⟩ := get hi
    obtain ⟨c2, h2, _⟩ := get hj
    exact hR.inj i j c1 c2 h1 h2
  · obtain ⟨c, h1, _⟩ := get h; exact (hR.row e he).2 id c h1
  · rw [hT.sz]; simp [simpS, mapS_eq]
  · simp only [simpS, mapS_eq, List.getElem?_map] at h
    cases hc : S.tm[t]? with
    | none => simp [hc] at h
    | some o =>
      cases o with
      | none => simp [hc, simpO] at h
      | some u =>
        simp only [hc, Option.map_some, simpO, Option.some.injEq] at h
        subst h
        rw [(simpT_ok hA u).1]; exact hT.tm t u hc
  · simp only [simpS, mapS_eq, List.getElem?_map] at h
    cases hc : S.tm[t]? with
    | none => simp [hc] at h
    | some o =>
      cases o with
      | none => simp [hc, simpO] at h
      | some u =>
        simp only [hc, Option.map_some, simpO, Option.some.injEq] at h
        subst h
        rw [len]; exact (simpT_ok (β := β) hA u).2 _ (hT.tok t u hc)
def KontOk (wr : World) (Q : Exit → Act → World → Prop) (k : Kont) : Prop := ∀ ρ, KontAt1 ρ wr Q k
theorem loopB_ok {run : Known → St → R Outs} {k : Kont} {Q : Exit → Act → World → Prop} {body : Code} (hr : ∀ ρ A S L, A.ok ρ → run A S = .ok L → ∃ e S1, Pick ρ e S1 L ∧ After P ρ S body e S1) (hk : KontOk wr Q k) {d : Nat} {an : Ann}
    (hA : A.ok ρ) (h0 : loopB run k d an none A S = true) (hp' : ∀ m ∈ paths an.cases, loopB run k d an (some m) A S = true) (hR : Rep ρ β S wr w) (hT : RepA ρ β S a) : (Code.loop body).wp P Q a w := by
  simp only [loopB] at h0 hp'
  generalize genS an S = p at h0 hp'
  split at h0
  case isFalse => cases h0
  next hp =>
  have hfirst := h0
  have h : ∀ m ∈ paths an.cases, pathB (fun A0 => runB (fun A => run A (simpS A0 p.st)) (roundK (moreB run k d an.last) p ⟨an.rg, an.tr⟩ an.ms k) d A0) an.cases m ⟨an.rg, an.tr⟩ = true := by
    intro m hm
    have := hp' m hm
    rw [if_pos hp] at this
    exact this
  have one : ∀ (ρ : Env) (β : Nat → Nat) (A : Known) (a : Act) (w : World), A.ok ρ → runB (fun A' => run A' (simpS A p.st)) (roundK (moreB run k d an.last) p ⟨an.rg, an.tr⟩ an.ms k) d A = true → Rep ρ β p.st wr w → RepA ρ β p.st a →
      body.wp P (Exit.then (fun a' w' => (body.wp P (Exit.then (fun _ _ => False) Q) a' w' ∧ 0 < (an.ms.I ρ).toNat + 1) ∨ ∃ n', n' + 1 < (an.ms.I ρ).toNat + 1 ∧ ∃ ρ β, (⟨an.rg, an.tr⟩ : Known).ok ρ ∧ Rep ρ β p.st wr w' ∧ RepA ρ β p.st a' ∧ (an.ms.I ρ).toNat = n') Q) a w := by
    intro ρ β A a w j1 h j2 j3
    obtain ⟨j2, j3⟩ := simpS_ok j1 j2 j3
    refine runB_ok1 (S := simpS A p.st) (run := fun A' => run A' (simpS A p.st)) (k := roundK (moreB run k d an.last) p ⟨an.rg, an.tr⟩ an.ms k) (fun A L hA hL => hr ρ A _ L hA hL) ?_ d _ j1 h β a w j2 j3
    intro e A1 S1 h1 β1 a1 w1 e' hA1 hR1 hT1 he
    have h1 := h1 none trivial
    cases e with
    | normal =>
      cases e' with
      | normal =>
        simp only [roundK] at h1
        split at h1
        · next τ hτ =>
          split at h1
          · next h2 =>
            obtain ⟨l1, l2, l3⟩ := fitS_ok hτ hp hA1 hR1 hT1
            have g1 : 1 ≤ an.ms.I ρ := by have := sureP_ok hA1 h2; simpa [cmpI, X.I] using this
            have g2 : an.ms.I (ρ.on τ) < an.ms.I ρ := by have := sureP_ok hA1 h1; simpa [cmpI, X.I, onI_ok hA1] using this
            refine .inr ⟨_, ?_, ρ.on τ, β1, l1, l2, l3, rfl⟩
            omega
          · cases h1
        · unfold moreB at h1
          split at h1
          · refine .inl ⟨?_, Nat.succ_pos _⟩
            refine runB_ok1 (S := S1) (run := fun A => run A S1) (k := lastK k) (fun A L hA hL => hr ρ A _ L hA hL) ?_ d _ hA1 h1 β1 a1 w1 hR1 hT1
            intro e A2 S2 h2 β2 a2 w2 e' hA2 hR2 hT2 he
            have h2 := h2 none trivial
            cases e with
            | normal => simp only [lastK] at h2; cases h2
            | exit j =>
              cases e' with
              | exit _ => exact kont1 (hk ρ) h2 β2 a2 w2 _ hA2 hR2 hT2 he
              | _ => exact he.elim
            | ret =>
              cases e' with
              | ret => exact kont1 (hk ρ) h2 β2 a2 w2 _ hA2 hR2 hT2 he
              | _ => exact he.elim
          · cases h1
      | _ => exact he.elim
    | exit j =>
      cases e' with
      | exit _ => exact kont1 (hk ρ) h1 β1 a1 w1 _ hA1 hR1 hT1 he
      | _ => exact he.elim
    | ret =>
      cases e' with
      | ret => exact kont1 (hk ρ) h1 β1 a1 w1 _ hA1 hR1 hT1 he
      | _ => exact he.elim
  have inL : ∀ (l : List (List Nat)) (j : Nat) (r : List Nat), r ∈ l → ∀ n, j < n → j :: r ∈ pathsL l n := by
    intro l j r hr n
    induction n with
    | zero => intro h; exact absurd h (Nat.not_lt_zero _)
    | succ n ih =>
      intro h
      simp only [pathsL, mapS_eq, List.mem_append, List.mem_map]
      by_cases he : j = n
      · subst he; exact .inl ⟨r, hr, rfl⟩
      · exact .inr (ih (by omega))
  have all : ∀ (l : List (X × Nat)) (A : Known) (ρ : Env), A.ok ρ → (∀ m ∈ paths l, pathB (fun A0 => runB (fun A => run A (simpS A0 p.st)) (roundK (moreB run k d an.last) p ⟨an.rg, an.tr⟩ an.ms k) d A0) l m A = true) →
      ∃ A', A'.ok ρ ∧ runB (fun A => run A (simpS A' p.st)) (roundK (moreB run k d an.last) p ⟨an.rg, an.tr⟩ an.ms k) d A' = true := by
    intro l
    induction l with
    | nil => intro A ρ hA h; exact ⟨A, hA, h [] (by simp [paths])⟩
    | cons c l ih =>
      intro A ρ hA h
      obtain ⟨c, n⟩ := c
      cases n with
      | zero =>
        cases hb : c.B ρ with
        | true => exact ih _ ρ (assume_ok c true hA hb) fun m hm => h (0 :: m) (inL _ 0 m hm 2 (by omega))
        | false => exact ih _ ρ (orsOf_ok hb hA.2.1 (assume_ok c false hA hb)) fun m hm => h (1 :: m) (inL _ 1 m hm 2 (by omega))
      | succ n =>
        have key : ∀ j m, m ∈ paths l → j < n + 1 → inRg A c 0 (.ofNat n) = true ∧ pathB (fun A0 => runB (fun A => run A (simpS A0 p.st)) (roundK (moreB run k d an.last) p ⟨an.rg, an.tr⟩ an.ms k) d A0) l m (noneB c j (A.assume (.cmp .eql c (.lit (.ofNat j))) true)) = true := by
          intro j m hm hj
          have := h (j :: m) (inL _ j m hm (n + 1) hj)
          simp only [pathB] at this
          split at this
          · next hr => exact ⟨hr, this⟩
          · cases this
        have ne : ∃ m, m ∈ paths l := by
          clear ih h key
          induction l with
          | nil => exact ⟨[], by simp [paths]⟩
          | cons y l ih =>
            obtain ⟨m, hm⟩ := ih
            obtain ⟨y, i⟩ := y
            cases i with
            | zero => exact ⟨_, inL _ 0 m hm 2 (by omega)⟩
            | succ i => exact ⟨_, inL _ 0 m hm (i + 1) (by omega)⟩
        obtain ⟨m0, hm0⟩ := ne
        have hr := (key 0 m0 hm0 (by omega)).1
        unfold inRg at hr
        split at hr
        · next a b e =>
          simp only [Bool.and_eq_true, intLe_iff] at hr
          have hb := rng_ok hA.1 _ _ _ e
          have h1 : (0 : Int) ≤ c.I ρ := Int.le_trans hr.1 hb.1
          have h2 : c.I ρ ≤ (n : Int) := Int.le_trans hb.2 hr.2
          refine ih _ ρ (noneB_ok _ (by omega) (assume_ok (.cmp .eql c (.lit (.ofNat (c.I ρ).toNat))) true hA ?_)) fun m hm => (key _ m hm (by omega)).2
          simp only [X.B, X.I, cmpI, beq_iff_eq]
          show c.I ρ = ((c.I ρ).toNat : Int)
          omega
        · cases hr
  let I : Nat → Act → World → Prop := fun n a' w' => (body.wp P (Exit.then (fun _ _ => False) Q) a' w' ∧ n = 0) ∨ ∃ n', n' + 1 = n ∧ ∃ ρ β, (⟨an.rg, an.tr⟩ : Known).ok ρ ∧ Rep ρ β p.st wr w' ∧ RepA ρ β p.st a' ∧ (an.ms.I ρ).toNat = n'
  have round : ∀ n a w, I n a w → body.wp P (Exit.then (fun a' w' => ∃ n', n' < n ∧ I n' a' w') Q) a w := by
    rintro n a w (⟨h1, rfl⟩ | ⟨_, rfl, ρ, β, j1, j2, j3, rfl⟩)
    · refine wp_mono h1 ?_
      intro e a1 w1 hq
      cases e with
      | normal => exact hq.elim
      | _ => exact hq
    · obtain ⟨A', a1, a2⟩ := all _ _ ρ j1 h
      refine wp_mono (one ρ β A' a w a1 a2 j2 j3) ?_
      intro e a1 w1 hq
      cases e with
      | normal =>
        rcases hq with ⟨h1, h2⟩ | ⟨n', h1, h2⟩
        · exact ⟨0, h2, .inl ⟨h1, rfl⟩⟩
        · exact ⟨n' + 1, h1, .inr ⟨n', rfl, h2⟩⟩
      | _ => exact hq
  unfold firstB at hfirst
  split at hfirst
  · refine wp_loop_ghost (fun n a' w' => (n = 9223372036854775809 ∧ a' = a ∧ w' = w) ∨ I n a' w') _ (.inl ⟨rfl, rfl, rfl⟩) ?_
    rintro n a' w' (⟨rfl, rfl, rfl⟩ | hI)
    · refine runB_ok1 (S := S) (run := fun A => run A S) (k := firstK p ⟨an.rg, an.tr⟩ an.ms k) (fun A L hA hL => hr ρ A _ L hA hL) ?_ d _ hA hfirst β a' w' hR hT
      intro e A1 S1 h1 β1 a1 w1 e' hA1 hR1 hT1 he
      have h1 := h1 none trivial
      cases e with
      | normal =>
        cases e' with
        | normal =>
          simp only [firstK] at h1
          split at h1
          · next τ hτ =>
            obtain ⟨l1, l2, l3⟩ := fitS_ok hτ hp hA1 hR1 hT1
            have g2 : an.ms.I (ρ.on τ) ≤ 9223372036854775807 := by have := sureP_ok hA1 h1; simp only [B_mkCmp, cmpI, X.I, onI_ok hA1] at this; exact of_decide_eq_true this
            refine ⟨(an.ms.I (ρ.on τ)).toNat + 1, ?_, .inr (.inr ⟨_, rfl, ρ.on τ, β1, l1, l2, l3, rfl⟩)⟩
            omega
          · cases h1
        | _ => exact he.elim
      | exit j =>
        cases e' with
        | exit _ => exact kont1 (hk ρ) h1 β1 a1 w1 _ hA1 hR1 hT1 he
        | _ => exact he.elim
      | ret =>
        cases e' with
        | ret => exact kont1 (hk ρ) h1 β1 a1 w1 _ hA1 hR1 hT1 he
        | _ => exact he.elim
    · refine wp_mono (round n a' w' hI) ?_
      intro e a1 w1 hq
      cases e with
      | normal =>
        obtain ⟨n', h1, h2⟩ := hq
        exact ⟨n', h1, .inr h2⟩
      | _ => exact hq
  · split at hfirst
    case h_2 => cases hfirst
    next σ hσ =>
    obtain ⟨i1, i2, i3⟩ := fitS_ok hσ hp hA hR hT
    exact wp_loop_ghost I _ (.inr ⟨_, rfl, ρ.on σ, β, i1, i2, i3, rfl⟩) round

theorem vc_ok (hD : ∀ ρ, DrawnOk P ρ) {q : Nat} {sum : Sums} (hS : ∀ ρ, SumOk P ρ sum) {fuel d : Nat} {anns : List (Nat × Ann)} {G : Mode → Prop} (hG : G none) (hGp : ∀ p an, annAt p anns = some an → ∀ m ∈ paths an.cases, G (some m)) :
    ∀ (c : Code) (p : Nat) (k : Kont) (Q : Exit → Act → World → Prop), KontOk wr Q k →
    ∀ (ρ : Env) (A : Known) (S : St), A.ok ρ → (∀ M, G M → vc P q sum fuel d anns M c p k A S = true) → ∀ (β : Nat → Nat) (a : Act) (w : World), Rep ρ β S wr w → RepA ρ β S a → c.wp P Q a w := by
  have plain : ∀ (c : Code) (k : Kont) (Q : Exit → Act → World → Prop), KontOk wr Q k → ∀ (ρ : Env) (A : Known) (S : St), A.ok ρ → runB (fun A => exec P q sum fuel A c S) k d A = true →
      ∀ (β : Nat → Nat) (a : Act) (w : World), Rep ρ β S wr w → RepA ρ β S a → c.wp P Q a w := by
    intro c k Q hk ρ A S hA h β a w hR hT
    exact runB_ok1 (fun A L hA hL => (exec_ok (hD ρ) (hS ρ) fuel).1 A c S L hA hL) (hk ρ) d A hA h β a w hR hT
  -- what ends otherwise than a piece's end
  have pass : ∀ {k : Kont} {Q R : Exit → Act → World → Prop} (_ : KontOk wr Q k) (_ : ∀ e a w, e ≠ .normal → Q e a w → R e a w) {ρ : Env} {e : Ex} {A : Known} {S : St}, e ≠ .normal → k e A S = true →
      ∀ (β : Nat → Nat) (a : Act) (w : World) (e' : Exit), A.ok ρ → Rep ρ β S wr w → RepA ρ β S a → e.is e' → R e' a w := by
    intro k Q R hk hQR ρ e A S hne h β a w e' hA hR hT he
    refine hQR e' a w ?_ (kont1 (hk ρ) h β a w e' hA hR hT he)
    rintro rfl
    cases e with
    | normal => exact hne rfl
    | _ => exact he.elim
  intro c
  induction c with
  | seq x y ihx ihy =>
    intro p k Q hk ρ A S hA h β a w hR hT
    simp only [vc] at h
    have other : ∀ e a w, e ≠ Exit.normal → Q e a w → Exit.then (y.wp P Q) Q e a w := by
      intro e a w hne hq
      cases e with
      | normal => exact (hne rfl).elim
      | _ => exact hq
    split at h
    · refine wp_seq (ihx _ _ (Exit.then (y.wp P Q) Q) ?_ ρ A S hA h β a w hR hT)
      intro ρ e A1 S1 h1 β1 a1 w1 e' hA1 hR1 hT1 he
      have h1 := h1 none trivial
      cases e with
      | normal =>
        cases e' with
        | normal => exact plain y k Q hk ρ A1 S1 hA1 h1 β1 a1 w1 hR1 hT1
        | _ => exact he.elim
      | _ => exact pass hk other (fun h => by cases h) h1 β1 a1 w1 e' hA1 hR1 hT1 he
    · split at h
      · refine wp_seq (runB_ok (G := G) ⟨none, hG⟩ (k := fun M => seqK (fun A S => vc P q sum fuel d anns M y (2 * p + 1) k A S) k) (fun A L hA hL => (exec_ok (hD ρ) (hS ρ) fuel).1 A x S L hA hL) ?_ d A hA h β a w hR hT)
        intro e A1 S1 h1 β1 a1 w1 e' hA1 hR1 hT1 he
        cases e with
        | normal =>
          cases e' with
          | normal => exact ihy _ _ Q hk ρ A1 S1 hA1 h1 β1 a1 w1 hR1 hT1
          | _ => exact he.elim
        | _ => exact pass hk other (fun h => by cases h) (h1 none hG) β1 a1 w1 e' hA1 hR1 hT1 he
      · exact plain _ k Q hk ρ A S hA (h none hG) β a w hR hT
  | block id body ih =>
    intro p k Q hk ρ A S hA h β a w hR hT
    simp only [vc] at h
    split at h
    · refine wp_block (ih _ _ (Exit.inBlock id Q) ?_ ρ A S hA h β a w hR hT)
      intro ρ e A1 S1 h1 β1 a1 w1 e' hA1 hR1 hT1 he
      have h1 := h1 none trivial
      simp only [blockK] at h1
      cases e with
      | normal =>
        cases e' with
        | normal => exact kont1 (hk ρ) h1 β1 a1 w1 _ hA1 hR1 hT1 trivial
        | _ => exact he.elim
      | exit j =>
        cases e' with
        | exit i =>
          simp only [Ex.is] at he
          subst he
          simp only [leaves] at h1
          simp only [Exit.inBlock]
          split at h1
          · next hj => rw [if_pos (Nat.eq_of_beq_eq_true hj)]; exact kont1 (hk ρ) h1 β1 a1 w1 _ hA1 hR1 hT1 trivial
          · next hj => rw [if_neg (fun e => hj (by subst e; simp))]; exact kont1 (hk ρ) h1 β1 a1 w1 _ hA1 hR1 hT1 rfl
        | _ => exact he.elim
      | ret =>
        cases e' with
        | ret => exact kont1 (hk ρ) h1 β1 a1 w1 _ hA1 hR1 hT1 trivial
        | _ => exact he.elim
    · exact plain _ k Q hk ρ A S hA (h none hG) β a w hR hT
  | loop body ih =>
    intro p k Q hk ρ A S hA h β a w hR hT
    simp only [vc] at h
    split at h
    · next an he =>
      exact loopB_ok (run := fun A S => exec P q sum fuel A body S) (fun ρ A S L hA hL => (exec_ok (hD ρ) (hS ρ) fuel).1 A body S L hA hL) hk hA (h none hG) (fun m hm => h (some m) (hGp p an he m hm)) hR hT
    · exact plain _ k Q hk ρ A S hA (h none hG) β a w hR hT
  | cond c x y ihx ihy =>
    intro p k Q hk ρ A S hA h β a w hR hT
    simp only [vc] at h
    split at h
    · split at h
      · next u hu =>
        simp only [R.bind_ok] at hu
        obtain ⟨c0, hc0, hx⟩ := hu
        have hc : a.eval c = .bool (u.B ρ) := by
          have hc := evC_ok hA hT hc0
          rw [asB_ok hx] at hc
          simpa only [SC.den] using hc
        split at h
        · next hd => exact wp_cond_true (by rw [hc, dec_ok hA u true hd]) (ihx (2 * p) k Q hk ρ A S hA h β a w hR hT)
        · next hd => exact wp_cond_false (by rw [hc, dec_ok hA u false hd]) (ihy (2 * p + 1) k Q hk ρ A S hA h β a w hR hT)
        · have h2 : ∀ M, G M → orV (A.assume u true) (vc P q sum fuel d anns M x (2 * p) k (A.assume u true) S) = true ∧ orV (A.assume u false) (vc P q sum fuel d anns M y (2 * p + 1) k (A.assume u false) S) = true := by
            intro M hM
            have := h M hM
            split at this
            · next ht => exact ⟨ht, this⟩
            · cases this
          cases hb : u.B ρ with
          | true =>
            have hA1 := assume_ok u true hA hb
            refine wp_cond_true (by rw [hc, hb]) (ihx (2 * p) k Q hk ρ _ S hA1 (fun M hM => ?_) β a w hR hT)
            have ht := (h2 M hM).1
            unfold orV at ht
            split at ht
            · next hv => exact hv
            · exact absurd hA1 (void_ok ht)
          | false =>
            have hA1 := assume_ok u false hA hb
            refine wp_cond_false (by rw [hc, hb]) (ihy (2 * p + 1) k Q hk ρ _ S hA1 (fun M hM => ?_) β a w hR hT)
            have ht := (h2 M hM).2
            unfold orV at ht
            split at ht
            · next hv => exact hv
            · exact absurd hA1 (void_ok ht)
      · exact absurd (h none hG) (by simp)
    · exact plain _ k Q hk ρ A S hA (h none hG) β a w hR hT
  | _ =>
    intro p k Q hk ρ A S hA h β a w hR hT
    simp only [vc] at h
    exact plain _ k Q hk ρ A S hA (h none hG) β a w hR hT

theorem annAt_mem {p : Nat} {an : Ann} : ∀ {l : List (Nat × Ann)}, annAt p l = some an → ∃ q, (q, an) ∈ l
  | [], h => by simp [annAt] at h
  | (q, b) :: l, h => by
    simp only [annAt] at h
    split at h
    · cases h; exact ⟨q, by simp⟩
    · obtain ⟨r, hr⟩ := annAt_mem h; exact ⟨r, List.mem_cons_of_mem _ hr⟩
theorem modes_none : ∀ l : List (Nat × Ann), none ∈ modesOf l
  | [] => by simp [modesOf]
  | (q, an) :: l => by simp only [modesOf, List.mem_append]; exact .inr (modes_none l)
theorem modes_some {q : Nat} {an : Ann} {m : List Nat} (hm : m ∈ paths an.cases) : ∀ {l : List (Nat × Ann)}, (q, an) ∈ l → some m ∈ modesOf l
  | [], h => by simp at h
  | (q', an') :: l, h => by
    simp only [modesOf, List.mem_append, mapS_eq, List.mem_map]
    rcases List.mem_cons.1 h with h | h
    · cases h; exact .inl ⟨m, hm, rfl⟩
    · exact .inr (modes_some hm h)
theorem allM_mem {f : Mode → Prop} : ∀ {l : List Mode}, AllM f l → ∀ m ∈ l, f m
  | [], _, m, h => by simp at h
  | x :: l, h, m, hm => by
    rcases List.mem_cons.1 hm with rfl | hm
    · exact h.1
    · exact allM_mem h.2 m hm

theorem vcF_ok (hm : P.follows .mixedOrders = true) {q : Nat} {sum : Sums} (hS : ∀ ρ, SumOk P ρ sum) {fuel d : Nat} {anns : List (Nat × Ann)} {f : FuncId} {args : List SV} (hA : A.ok ρ) (hx : RowsIn ρ w) (h : AllM (fun M => vcF P q sum fuel d anns M f args A = true) (modesOf anns)) :
    Calls P f (args.map (SV.den ρ fun _ => 0)).toArray w fun e w' => e = .returned (.bool true) ∧ RowKit.Below w.heap.size w w' := by
  have h := allM_mem h
  have h0 := h none (modes_none anns)
  unfold vcF at h0 h
  split at h0
  case h_2 => cases h0
  next fn hf =>
  split at h0
  case h_2 => cases h0
  next body hb =>
  split at h0
  case isFalse => cases h0
  next hc =>
  have h : ∀ M, M ∈ modesOf anns → vc P q sum fuel d anns M body 1 (endK P fn) A ⟨args.map (fun v => some (ST.v v)) ++ rep (fn.ntmps - len args) (some (ST.tup [])), [], 0, []⟩ = true := by
    intro M hM
    have := h M hM
    simp only [hf, hb, if_pos hc] at this
    exact this
  simp only [Bool.and_eq_true, Nat.ble_eq, len_eq, allB_eq] at hc
  have hT0 : RepA ρ (fun _ => 0) ⟨args.map (fun v => some (ST.v v)) ++ rep (fn.ntmps - len args) (some (ST.tup [])), [], 0, []⟩
      { tmps := (args.map (SV.den ρ fun _ => 0)).toArray ++ Array.replicate (fn.ntmps - (args.map (SV.den ρ fun _ => 0)).toArray.size) undef, defers := [] } := by
    refine ⟨by simp [rep_eq, len_eq], ?_, ?_, rfl⟩
    · intro t u ht
      simp only [rep_eq, len_eq, List.getElem?_append, List.length_map, List.getElem?_map, List.getElem?_replicate] at ht
      simp only [Array.getElem?_append, List.size_toArray, List.length_map, List.getElem?_toArray, List.getElem?_map, Array.getElem?_replicate]
      split at ht
      · rename_i hlt
        rw [if_pos hlt]
        cases hv : args[t]? with
        | none => simp [hv] at ht
        | some v => simp only [hv, Option.map_some, Option.some.injEq] at ht; subst ht; rfl
      · rename_i hlt
        rw [if_neg hlt]
        split at ht
        · rename_i h2
          simp only [Option.some.injEq] at ht
          subst ht
          rw [if_pos h2]; simp [ST.den, undef]
        · cases ht
    · intro t u ht
      simp only [rep_eq, len_eq, List.getElem?_append, List.length_map, List.getElem?_map, List.getElem?_replicate] at ht
      split at ht
      · cases hv : args[t]? with
        | none => simp [hv] at ht
        | some v =>
          simp only [hv, Option.map_some, Option.some.injEq] at ht; subst ht
          exact hc.2 v (List.mem_of_getElem? hv)
      · split at ht
        · simp only [Option.some.injEq] at ht
          subst ht; rfl
        · cases ht
  have hR0 : Rep ρ (fun _ => 0) ⟨args.map (fun v => some (ST.v v)) ++ rep (fn.ntmps - len args) (some (ST.tup [])), [], 0, []⟩ w w := by
    have := bare_rep (β := fun _ => 0) w hx
    exact ⟨this.blk, this.bok, this.old, this.new, this.inj, this.frame, this.size, this.os, this.tape, this.output, this.wrs, this.bs, this.row⟩
  refine calls_of_wp hf hb (vc_ok (wr := w) (G := fun M => M ∈ modesOf anns) (fun _ => drawn_ok hm) hS (modes_none anns) (fun p an hp m hm => (annAt_mem hp).elim fun q hq => modes_some hm hq) body 1 _ _ ?_ ρ A _ hA h _ _ _ hR0 hT0)
  intro ρ e A1 S1 h1 β1 a1 w1 e' hA1 hR1 hT1 he
  have h1 := h1 none trivial
  have fin : (match resS P A1 S1 fn.results.toList with
    | .ok [.c (.cb x)] => if Nat.beq S1.base 0 then (if sureP A1 x then true else A1.void) else false
    | .ok _ => false
    | _ => A1.void) = true → a1.defers = [] ∧ ∃ x, (results fn a1.tmps).run P w1 = .ok x w1 ∧ Ending.returned x = .returned (.bool true) ∧ RowKit.Below w.heap.size w w1 := by
    intro h2
    split at h2
    · next x hx =>
      split at h2
      case isFalse => cases h2
      next hb0 =>
      have hb0 := Nat.eq_of_beq_eq_true hb0
      split at h2
      case isFalse => exact absurd hA1 (void_ok h2)
      next h3 =>
      refine ⟨hT1.df, _, resS_ok hA1 hR1 hT1 hx, by simp only [one, ST.den, SV.den, SC.den, sureP_ok hA1 h3], hR1.belowOf ?_⟩
      cases hw : S1.wr with
      | nil => rfl
      | cons y l =>
        have h3 := hR1.wrs y (by rw [hw]; simp)
        rw [hb0] at h3
        exact absurd h3 (Nat.not_lt_zero _)
    · cases h2
    · exact absurd hA1 (void_ok h2)
  cases e with
  | exit j => simp only [endK] at h1; cases h1
  | normal =>
    cases e' with
    | normal => exact fin h1
    | _ => exact he.elim
  | ret =>
    cases e' with
    | ret => exact fin h1
    | _ => exact he.elim
end

section
open RowKit ChangeShapes WideShapes ChangeAt
variable {P : Program} {w : World} {r : Reach} {base : Nat} {H : Type} {enc : TypeId × Value → H}
/-- A law that answers true, case by case; its loops by what holds at their heads. -/
theorem rows_vc (hm : P.follows .mixedOrders = true) {sums : List Sm} (hS : SumsOk P sums) {fn : FuncId} {ts : List TypeId} {ss : List SV} {ks : List LK} {rs : List RowV} (hts : argRs P ts 0 0 = some (ss, ks, rs)) {q fuel d : Nat}
    (hp : ∀ ρ, (addRows rs ⟨ks.map LK.rg, []⟩).ok ρ → ∃ K anns, K.ok ρ ∧ AllM (fun M => vcF P q (sumsIn sums) fuel d anns M fn ss K = true) (modesOf anns))
    {args : Array Value} {ds : List (DataW H)} {p : List MemPlace} (hv : ∀ (j : Nat) (t : TypeId) (v : Value), ts[j]? = some t → args[j]? = some v → Value.okWide P w r base t v)
    (hd : DataW.TrodAll enc P w 0 (fun _ => true) true ts args.toList ds p) :
    Calls P fn args w fun e w' => (∃ v, e = .returned v ∧ v = .bool true) ∧ RowKit.Below w.heap.size w w' := by
  obtain ⟨rows, cells, _, _, hk, hin, ha⟩ := rows_env hts (fun _ _ _ => 0) (fun _ _ _ => false) (fun j t v ht hv' => hv j t v ht (by simpa using hv')) hd
  obtain ⟨K, anns, hK, ht⟩ := hp _ hk
  have := vcF_ok hm hS (w := w) hK hin ht
  rw [ha] at this
  exact Calls.mono this fun e w' h => ⟨⟨_, h.1, rfl⟩, h.2⟩
end
end Go.Sx
