/- Cells that come from outside, taken as variables. -/
import Derived.Test.YtdgjenlejalgeaaSx18
namespace Go.Sx

/-- Cells from outside in an expression. -/
def X.opsA : X → List X → List X
  | .wrap k a, l => (match a with | .fi _ _ => addX (.wrap k a) l | a => X.opsA a l)
  | .fb f a, l => addX (.fb f a) l
  | .bin _ _ a b, l => X.opsA a (X.opsA b l)
  | .cmp _ a b, l => X.opsA a (X.opsA b l)
  | .not a, l => X.opsA a l
  | .and a b, l => X.opsA a (X.opsA b l)
  | .or a b, l => X.opsA a (X.opsA b l)
  | .beq a b, l => X.opsA a (X.opsA b l)
  | .ite c a b, l => X.opsA c (X.opsA a (X.opsA b l))
  | .ofB a, l => X.opsA a l
  | _, l => l
/-- .. each as a variable from a number on. -/
def X.absX (ops : List X) (base : Nat) : X → Option X
  | .iv n => if Nat.ble (n + 1) base then some (.iv n) else none
  | .bv n => if Nat.ble (n + 1) base then some (.bv n) else none
  | .lit z => some (.lit z)
  | .bl b => some (.bl b)
  | .bin op k a b => match X.absX ops base a, X.absX ops base b with
    | some x, some y => some (.bin op k x y)
    | _, _ => none
  | .cmp op a b => match X.absX ops base a, X.absX ops base b with
    | some x, some y => some (.cmp op x y)
    | _, _ => none
  | .wrap k a => match findX (.wrap k a) ops 0 with
    | some j => some (.iv (base + j))
    | none => match X.absX ops base a with
      | some x => some (.wrap k x)
      | none => none
  | .not a => match X.absX ops base a with
    | some x => some (.not x)
    | none => none
  | .and a b => match X.absX ops base a, X.absX ops base b with
    | some x, some y => some (.and x y)
    | _, _ => none
  | .or a b => match X.absX ops base a, X.absX ops base b with
    | some x, some y => some (.or x y)
    | _, _ => none
  | .beq a b => match X.absX ops base a, X.absX ops base b with
    | some x, some y => some (.beq x y)
    | _, _ => none
  | .ite c a b => match X.absX ops base c, X.absX ops base a, X.absX ops base b with
    | some z, some x, some y => some (.ite z x y)
    | _, _, _ => none
  | .ofB a => match X.absX ops base a with
    | some x => some (.ofB x)
    | none => none
  | .fb f a => match findX (.fb f a) ops 0 with
    | some j => some (.bv (base + j))
    | none => none
  | _ => none
def absTr (ops : List X) (base : Nat) : List (X × Bool) → List (X × Bool)
  | [] => []
  | (c, v) :: l => match X.absX ops base c with
    | some x => (x, v) :: absTr ops base l
    | none => absTr ops base l
def opsTr : List (X × Bool) → List X → List X
  | [], l => l
  | (c, _) :: r, l => opsTr r (X.opsA c l)
def rgOp : X → Option (Int × Int)
  | .wrap k _ => some (kLo k, kHi k)
  | _ => none
def catL {α : Type} : List α → List α → List α
  | [], m => m
  | a :: l, m => a :: catL l m
def mapO : List X → List (Option (Int × Int))
  | [] => []
  | x :: l => rgOp x :: mapO l
/-- Shown with cells from outside as variables. -/
def X.proveA (big n : Nat) (K : Known) (e : X) : Bool :=
  let ops := opsTr K.tr (X.opsA e [])
  match ops with
  | [] => false
  | ops => match X.absX ops (len K.rg) e with
    | some x => X.prove big n ⟨catL K.rg (mapO ops), absTr ops (len K.rg) K.tr⟩ x
    | none => false
/-- Shown, one way or the other. -/
def X.proveE (big n : Nat) (K : Known) (e : X) : Bool := if X.prove big n K e then true else X.proveA big n K e

theorem catL_eq {α : Type} (m : List α) : ∀ l : List α, catL l m = l ++ m
  | [] => rfl
  | a :: l => by simp [catL, catL_eq m l]
theorem mapO_eq : ∀ l : List X, mapO l = l.map rgOp
  | [] => rfl
  | x :: l => by simp [mapO, mapO_eq l]
def opAt (l : List X) (n : Nat) : X := match nth l n with | some x => x | none => .unit
/-- The environment with these as variables. -/
def Env.with (ρ : Env) (ops : List X) (base : Nat) : Env :=
  { i := fun n => if n < base then ρ.i n else (opAt ops (n - base)).I ρ, b := fun n => if n < base then ρ.b n else (opAt ops (n - base)).B ρ, f := ρ.f, g := ρ.g, v := ρ.v, x := ρ.x }
theorem find_at {x : X} {l : List X} {j : Nat} (h : findX x l 0 = some j) : opAt l j = x := by
  obtain ⟨m, rfl, hm⟩ := findX_ok h
  unfold opAt
  rw [show nth l (0 + m) = some x by simpa using hm]
theorem absX_ok {ρ : Env} {ops : List X} {base : Nat} : ∀ (e : X) (r : X), X.absX ops base e = some r → r.I (ρ.with ops base) = e.I ρ ∧ r.B (ρ.with ops base) = e.B ρ := by
  intro e
  induction e with
  | iv n =>
    intro r h
    simp only [X.absX] at h
    split at h
    · rename_i hn; cases h; simp only [Nat.ble_eq] at hn
      exact ⟨by simp only [X.I, Env.with]; rw [if_pos (by omega)], by simp only [X.B]⟩
    · cases h
  | bv n =>
    intro r h
    simp only [X.absX] at h
    split at h
    · rename_i hn; cases h; simp only [Nat.ble_eq] at hn
      exact ⟨by simp only [X.I], by simp only [X.B, Env.with]; rw [if_pos (by omega)]⟩
    · cases h
  | lit z => intro r h; simp only [X.absX] at h; cases h; exact ⟨rfl, rfl⟩
  | bl b => intro r h; simp only [X.absX] at h; cases h; exact ⟨rfl, rfl⟩
  | bin op k a b ih1 ih2 =>
    intro r h
    simp only [X.absX] at h
    split at h
    · rename_i x y hx hy; cases h
      exact ⟨by simp only [X.I, (ih1 x hx).1, (ih2 y hy).1], rfl⟩
    · cases h
  | cmp op a b ih1 ih2 =>
    intro r h
    simp only [X.absX] at h
    split at h
    · rename_i x y hx hy; cases h
      exact ⟨rfl, by simp only [X.B, (ih1 x hx).1, (ih2 y hy).1]⟩
    · cases h
  | wrap k a ih =>
    intro r h
    simp only [X.absX] at h
    split at h
    · rename_i j hj; cases h
      refine ⟨?_, by simp only [X.B]⟩
      simp only [X.I, Env.with]
      rw [if_neg (by omega), show base + j - base = j by omega, find_at hj]
      rfl
    · split at h
      · rename_i x hx; cases h
        exact ⟨by simp only [X.I, (ih x hx).1], rfl⟩
      · cases h
  | not a ih =>
    intro r h
    simp only [X.absX] at h
    split at h
    · rename_i x hx; cases h; exact ⟨rfl, by simp only [X.B, (ih x hx).2]⟩
    · cases h
  | and a b ih1 ih2 =>
    intro r h
    simp only [X.absX] at h
    split at h
    · rename_i x y hx hy; cases h; exact ⟨rfl, by simp only [X.B, (ih1 x hx).2, (ih2 y hy).2]⟩
    · cases h
  | or a b ih1 ih2 =>
    intro r h
    simp only [X.absX] at h
    split at h
    · rename_i x y hx hy; cases h; exact ⟨rfl, by simp only [X.B, (ih1 x hx).2, (ih2 y hy).2]⟩
    · cases h
  | beq a b ih1 ih2 =>
    intro r h
    simp only [X.absX] at h
    split at h
    · rename_i x y hx hy; cases h; exact ⟨rfl, by simp only [X.B, (ih1 x hx).2, (ih2 y hy).2]⟩
    · cases h
  | ite c a b ih0 ih1 ih2 =>
    intro r h
    simp only [X.absX] at h
    split at h
    · rename_i z x y hz hx hy; cases h
      exact ⟨by simp only [X.I, (ih0 z hz).2, (ih1 x hx).1, (ih2 y hy).1], by simp only [X.B, (ih0 z hz).2, (ih1 x hx).2, (ih2 y hy).2]⟩
    · cases h
  | ofB a ih =>
    intro r h
    simp only [X.absX] at h
    split at h
    · rename_i x hx; cases h; exact ⟨by simp only [X.I, (ih x hx).2], rfl⟩
    · cases h
  | fb f a ih =>
    intro r h
    simp only [X.absX] at h
    split at h
    · rename_i j hj; cases h
      refine ⟨by simp only [X.I], ?_⟩
      simp only [X.B, Env.with]
      rw [if_neg (by omega), show base + j - base = j by omega, find_at hj]
      rfl
    · cases h
  | _ => intro r h; simp only [X.absX] at h; cases h
theorem absTr_ok {ρ : Env} {ops : List X} {base : Nat} : ∀ {l : List (X × Bool)}, (∀ x b, (x, b) ∈ l → x.B ρ = b) → ∀ x b, (x, b) ∈ absTr ops base l → x.B (ρ.with ops base) = b
  | [], _, x, b, h => by simp [absTr] at h
  | (c, v) :: l, hl, x, b, h => by
    have ih := absTr_ok (ops := ops) (base := base) (l := l) fun x b hx => hl x b (List.mem_cons_of_mem _ hx)
    simp only [absTr] at h
    split at h
    · rename_i y hy
      rcases List.mem_cons.1 h with h | h
      · cases h; rw [(absX_ok c _ hy).2]; exact hl c _ List.mem_cons_self
      · exact ih x b h
    · exact ih x b h
theorem proveA_ok {big n : Nat} {ρ : Env} {K : Known} {e : X} (hK : K.ok ρ) (h : X.proveA big n K e = true) : e.B ρ = true := by
  unfold X.proveA at h
  generalize opsTr K.tr (X.opsA e []) = ops at h
  cases ops with
  | nil => simp at h
  | cons o ops =>
    simp only at h
    generalize o :: ops = ops at h
    split at h
    · rename_i x hx
      rw [len_eq] at hx h
      rw [← (absX_ok (ρ := ρ) e x hx).2]
      refine prove_ok ⟨?_, absTr_ok hK.2.1, hK.2.2.1, hK.2.2.2⟩ h
      intro m l u hm
      rw [catL_eq, List.getElem?_append] at hm
      split at hm
      · rename_i hlt
        simp only [Env.with, if_pos hlt]
        exact hK.1 m l u hm
      · rename_i hge
        simp only [Env.with, if_neg hge]
        rw [mapO_eq, List.getElem?_map] at hm
        simp only [Option.map_eq_some_iff] at hm
        obtain ⟨z, hz, hr⟩ := hm
        have ho : opAt ops (m - K.rg.length) = z := by
          unfold opAt
          rw [nth_eq, hz]
        rw [ho]
        cases z with
        | wrap k a =>
          simp only [rgOp, Option.some.injEq, Prod.mk.injEq] at hr
          obtain ⟨rfl, rfl⟩ := hr
          exact wrap_bd _ _
        | _ => simp only [rgOp] at hr; cases hr
    · cases h
theorem proveE_ok {big n : Nat} {ρ : Env} {K : Known} {e : X} (hK : K.ok ρ) (h : X.proveE big n K e = true) : e.B ρ = true := by
  unfold X.proveE at h
  split at h
  · rename_i hp; exact prove_ok hK hp
  · exact proveA_ok hK h
end Go.Sx
