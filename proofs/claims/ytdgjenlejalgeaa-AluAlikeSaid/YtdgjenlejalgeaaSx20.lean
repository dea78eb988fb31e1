/- What a function comes to, said once, and used at each call. -/
import Derived.Test.YtdgjenlejalgeaaSx19
namespace Go.Sx

/-! ### Expressions laid into others -/
def at0 (l : List X) (n : Nat) : X := match nth l n with | some x => x | none => .unit
def fixL : X → X
  | .pair _ _ => .lit 0
  | .unit => .lit 0
  | e => e
/-- A truth, as far as it is known. -/
def decX (K : Known) (e : X) : X := match X.dec K e with | some b => .bl b | none => e
/-- One bit of a number that is made of bits. -/
def bitX (K : Known) (e : X) : X :=
  match e with
  | .cmp .neq (.bin .and .u64 (.iv _) _) _ => e
  | .cmp .neq (.bin .and k a (.lit m)) (.lit z) => match blastC K .neq (.bin .and k a (.lit m)) (.lit z) with
    | some x => match powOf (.lit m) with
      | some _ => if intB z 0 then x else e
      | none => e
    | none => e
  | e => e
mutual
def X.onI (K : Known) (l : List X) : X → X
  | .iv n => at0 l n
  | .lit z => .lit z
  | .bin op k a b => mkBin op k (X.onI K l a) (X.onI K l b)
  | .wrap k a => mkWrap k (X.onI K l a)
  | .ite c a b => mkIte (X.onB K l c) (X.onI K l a) (X.onI K l b)
  | .ofB a => ofS (X.onB K l a)
  | .fi f a => .fi f (X.onL K l a)
  | _ => .unit
def X.onB (K : Known) (l : List X) : X → X
  | .bv n => decX K (at0 l n)
  | .bl b => .bl b
  | .cmp op a b => bitX K (decX K (mkCmp op (X.onI K l a) (X.onI K l b)))
  | .not a => mkNot (X.onB K l a)
  | .and a b => mkAnd (X.onB K l a) (X.onB K l b)
  | .or a b => mkOr (X.onB K l a) (X.onB K l b)
  | .beq a b => mkBeq (X.onB K l a) (X.onB K l b)
  | .ite c a b => mkIteB (X.onB K l c) (X.onB K l a) (X.onB K l b)
  | .fb f a => decX K (.fb f (X.onL K l a))
  | _ => .unit
def X.onL (K : Known) (l : List X) : X → X
  | .unit => .unit
  | .pair a b => .pair (X.onL K l a) (X.onL K l b)
  | .iv n => fixL (at0 l n)
  | .lit z => .lit z
  | .bin op k a b => fixL (mkBin op k (X.onI K l a) (X.onI K l b))
  | .wrap k a => fixL (mkWrap k (X.onI K l a))
  | .ite c a b => fixL (mkIte (X.onB K l c) (X.onI K l a) (X.onI K l b))
  | .ofB a => fixL (ofS (X.onB K l a))
  | .fi f a => .fi f (X.onL K l a)
  | _ => .lit 0
end
def Env.on (ρ : Env) (l : List X) : Env := { i := fun n => (at0 l n).I ρ, b := fun n => (at0 l n).B ρ, f := ρ.f, g := ρ.g, v := ρ.v, x := ρ.x }

theorem decX_ok {K : Known} {ρ : Env} (hK : K.ok ρ) (e : X) : (decX K e).B ρ = e.B ρ := by
  unfold decX; split
  · next b h => simp only [X.B]; exact (dec_ok hK _ _ h).symm
  · rfl
theorem bitX_ok {K : Known} {ρ : Env} (hK : K.ok ρ) (e : X) : (bitX K e).B ρ = e.B ρ := by
  unfold bitX
  split
  · rfl
  · split
    · next x hx =>
      split
      · split
        · exact blastC_ok hK hx
        · rfl
      · rfl
    · rfl
  · rfl
theorem fixL_ok (ρ : Env) (e : X) : (fixL e).L ρ = [e.I ρ] := by
  cases e <;> rfl
mutual
theorem onI_ok {K : Known} {ρ : Env} (hK : K.ok ρ) (l : List X) : ∀ e : X, (X.onI K l e).I ρ = e.I (ρ.on l)
  | .iv n => rfl
  | .lit z => rfl
  | .bin op k a b => by simp only [X.onI, I_mkBin, X.I, onI_ok hK l a, onI_ok hK l b]
  | .wrap k a => by simp only [X.onI, I_mkWrap, X.I, onI_ok hK l a]
  | .ite c a b => by simp only [X.onI, I_mkIte, X.I, onB_ok hK l c, onI_ok hK l a, onI_ok hK l b]
  | .ofB a => by simp only [X.onI, ofS_ok, X.I, onB_ok hK l a]
  | .fi f a => by simp only [X.onI, X.I, onL_ok hK l a]; rfl
  | .bv _ => rfl
  | .bl _ => rfl
  | .cmp .. => rfl
  | .not _ => rfl
  | .and .. => rfl
  | .or .. => rfl
  | .beq .. => rfl
  | .fb .. => rfl
  | .pair .. => rfl
  | .unit => rfl
theorem onB_ok {K : Known} {ρ : Env} (hK : K.ok ρ) (l : List X) : ∀ e : X, (X.onB K l e).B ρ = e.B (ρ.on l)
  | .bv n => by simp only [X.onB, decX_ok hK, X.B]; rfl
  | .bl b => rfl
  | .cmp op a b => by simp only [X.onB, bitX_ok hK, decX_ok hK, B_mkCmp, X.B, onI_ok hK l a, onI_ok hK l b]
  | .not a => by simp only [X.onB, B_mkNot, X.B, onB_ok hK l a]
  | .and a b => by simp only [X.onB, B_mkAnd, X.B, onB_ok hK l a, onB_ok hK l b]
  | .or a b => by simp only [X.onB, B_mkOr, X.B, onB_ok hK l a, onB_ok hK l b]
  | .beq a b => by simp only [X.onB, B_mkBeq, X.B, onB_ok hK l a, onB_ok hK l b]
  | .ite c a b => by simp only [X.onB, B_mkIteB, X.B, onB_ok hK l c, onB_ok hK l a, onB_ok hK l b]
  | .fb f a => by simp only [X.onB, decX_ok hK, X.B, onL_ok hK l a]; rfl
  | .iv _ => rfl
  | .lit _ => rfl
  | .bin .. => rfl
  | .wrap .. => rfl
  | .ofB _ => rfl
  | .fi .. => rfl
  | .pair .. => rfl
  | .unit => rfl
theorem onL_ok {K : Known} {ρ : Env} (hK : K.ok ρ) (l : List X) : ∀ e : X, (X.onL K l e).L ρ = e.L (ρ.on l)
  | .unit => rfl
  | .pair a b => by simp only [X.onL, X.L, onL_ok hK l a, onL_ok hK l b]
  | .iv n => by simp only [X.onL, fixL_ok, X.L]; rfl
  | .lit z => rfl
  | .bin op k a b => by simp only [X.onL, fixL_ok, I_mkBin, X.L, onI_ok hK l a, onI_ok hK l b]
  | .wrap k a => by simp only [X.onL, fixL_ok, I_mkWrap, X.L, onI_ok hK l a]
  | .ite c a b => by simp only [X.onL, fixL_ok, I_mkIte, X.L, onB_ok hK l c, onI_ok hK l a, onI_ok hK l b]
  | .ofB a => by simp only [X.onL, fixL_ok, ofS_ok, X.L, onB_ok hK l a]
  | .fi f a => by simp only [X.onL, X.L, onL_ok hK l a]; rfl
  | .bv _ => rfl
  | .bl _ => rfl
  | .cmp .. => rfl
  | .not _ => rfl
  | .and .. => rfl
  | .or .. => rfl
  | .beq .. => rfl
  | .fb .. => rfl
end

/-- Values that name no memory. -/
def SC.bareC : SC → Bool
  | .ci _ _ => true
  | .cb _ => true
  | .cv _ => true
  | _ => false
def SV.bareV : SV → Bool
  | .c x => x.bareC
  | .agg l => allB SC.bareC l
def ST.bareT : ST → Bool
  | .v x => x.bareV
  | .tup l => allB SV.bareV l
  | .ifv _ x => x.bareT
def SC.on (K : Known) (l : List X) : SC → SC
  | .ci k x => .ci k (X.onI K l x)
  | .cb x => .cb (X.onB K l x)
  | x => x
def mapS {α β : Type} (f : α → β) : List α → List β
  | [] => []
  | a :: l => f a :: mapS f l
def SV.on (K : Known) (l : List X) : SV → SV
  | .c x => .c (x.on K l)
  | .agg xs => .agg (mapS (SC.on K l) xs)
def ST.on (K : Known) (l : List X) : ST → ST
  | .v x => .v (x.on K l)
  | .tup xs => .tup (mapS (SV.on K l) xs)
  | .ifv c x => .ifv (X.onB K l c) (x.on K l)

section
variable {K : Known} {ρ : Env} {β β' : Nat → Nat} {l : List X}
theorem mapS_eq {α β : Type} (f : α → β) : ∀ l : List α, mapS f l = l.map f
  | [] => rfl
  | a :: l => by simp [mapS, mapS_eq f l]
theorem SC.on_ok (hK : K.ok ρ) {x : SC} (h : x.bareC = true) : (x.on K l).den ρ β = x.den (ρ.on l) β' := by
  cases x <;> simp only [SC.bareC, Bool.false_eq_true] at h
  · simp only [SC.on, SC.den, onI_ok hK]
  · simp only [SC.on, SC.den, onB_ok hK]
  · rfl
theorem SV.on_ok (hK : K.ok ρ) {x : SV} (h : x.bareV = true) : (x.on K l).den ρ β = x.den (ρ.on l) β' := by
  cases x with
  | c x => exact SC.on_ok hK h
  | agg xs =>
    simp only [SV.bareV, allB_eq] at h
    simp only [SV.on, SV.den, mapS_eq, List.map_map]
    congr 2
    exact List.map_congr_left fun x hx => SC.on_ok hK (h x hx)
theorem ST.on_ok (hK : K.ok ρ) {x : ST} (h : x.bareT = true) : (x.on K l).den ρ β = x.den (ρ.on l) β' := by
  induction x with
  | v x => exact SV.on_ok hK h
  | tup xs =>
    simp only [ST.bareT, allB_eq] at h
    simp only [ST.on, ST.den, mapS_eq, List.map_map]
    congr 2
    exact List.map_congr_left fun x hx => SV.on_ok hK (h x hx)
  | ifv c x ih => simp only [ST.on, ST.den, onB_ok hK, ih h]
theorem ST.fits_of_bare {x : ST} (h : x.bareT = true) : x.fits 0 = true := by
  have hc : ∀ x : SC, x.bareC = true → x.fits 0 = true := by intro x hx; cases x <;> first | rfl | (simp [SC.bareC] at hx)
  have hv : ∀ x : SV, x.bareV = true → x.fits 0 = true := by
    intro x hx
    cases x with
    | c x => exact hc x hx
    | agg xs => simp only [SV.bareV, SV.fits, allB_eq] at *; exact fun x hm => hc x (hx x hm)
  induction x with
  | v x => exact hv x h
  | tup xs => simp only [ST.bareT, ST.fits, allB_eq] at *; exact fun x hm => hv x (h x hm)
  | ifv c x ih => exact ih h
end

/-! ### Arguments held against a function's own -/
def shapeB : List SV → List SV → Bool
  | [], [] => true
  | .c _ :: l, .c _ :: m => shapeB l m
  | .agg a :: l, .agg b :: m => if Nat.beq (len a) (len b) then shapeB l m else false
  | _, _ => false
def flatS : List SV → List SC
  | [] => []
  | v :: l => v.cells ++ flatS l
def inK (A : Known) (k : IntKind) (x : X) : Bool :=
  match X.rng A.rg x with
  | some (l, h) => intLe (kLo k) l && intLe h (kHi k)
  | none => false
def grabC (A : Known) : List SC → List LK → Option (List X)
  | [], [] => some []
  | .ci k x :: l, .i k' :: ks => if Nat.beq (kN k) (kN k') && inK A k x then (match grabC A l ks with | some r => some (x :: r) | none => none) else none
  | .cb x :: l, .b :: ks => match grabC A l ks with | some r => some (x :: r) | none => none
  | _, _ => none

/-- A function's summary. -/
structure Sm where
  f : FuncId
  ss : List SV
  ks : List LK
  v : ST
def isI (ks : List LK) (n : Nat) : Bool := match nth ks n with
  | some (.i _) => true
  | _ => false
def isB (ks : List LK) (n : Nat) : Bool := match nth ks n with
  | some .b => true
  | _ => false
/-- Only some variables occur. -/
def X.low (ks : List LK) : X → Bool
  | .iv n => isI ks n
  | .bv n => isB ks n
  | .lit _ => true
  | .bl _ => true
  | .unit => true
  | .bin _ _ a b => if X.low ks a then X.low ks b else false
  | .cmp _ a b => if X.low ks a then X.low ks b else false
  | .and a b => if X.low ks a then X.low ks b else false
  | .or a b => if X.low ks a then X.low ks b else false
  | .beq a b => if X.low ks a then X.low ks b else false
  | .pair a b => if X.low ks a then X.low ks b else false
  | .wrap _ a => X.low ks a
  | .not a => X.low ks a
  | .ofB a => X.low ks a
  | .fi _ a => X.low ks a
  | .fb _ a => X.low ks a
  | .ite c a b => if X.low ks c then (if X.low ks a then X.low ks b else false) else false
def SC.low (ks : List LK) : SC → Bool
  | .ci _ x => X.low ks x
  | .cb x => X.low ks x
  | .cv _ => true
  | _ => false
def SV.low (ks : List LK) : SV → Bool
  | .c x => x.low ks
  | .agg l => allB (SC.low ks) l
def ST.low (ks : List LK) : ST → Bool
  | .v x => x.low ks
  | .tup l => allB (SV.low ks) l
  | .ifv c x => X.low ks c && x.low ks
/-- Are they the variables themselves, in their order? -/
def idL : Nat → List LK → List X → Bool
  | _, [], [] => true
  | n, .i _ :: ks, .iv m :: l => Nat.beq n m && idL (n + 1) ks l
  | n, .b :: ks, .bv m :: l => Nat.beq n m && idL (n + 1) ks l
  | _, _, _ => false
def ST.onS (v : ST) (ks : List LK) (A : Known) (l : List X) : ST :=
  if idL 0 ks l then (if v.low ks then v else v.on A l) else v.on A l
def Sm.use (s : Sm) (A : Known) (vs : List SV) (_ : St) : R ST :=
  if shapeB vs s.ss then
    match grabC A (flatS vs) s.ks with
    | some l => .ok (s.v.onS s.ks A l)
    | none => .fail "summary"
  else .fail "summary shape"
def sumsIn (sums : List Sm) (f : FuncId) : Option (Known → List SV → St → R ST) :=
  match sums with
  | [] => none
  | s :: l => if Nat.beq s.f f then some s.use else sumsIn l f

section
variable {ρ : Env}
theorem low_ok {ks : List LK} {ρ' : Env} (hi : ∀ n, isI ks n = true → ρ'.i n = ρ.i n) (hb : ∀ n, isB ks n = true → ρ'.b n = ρ.b n) (hf : ρ'.f = ρ.f) (hg : ρ'.g = ρ.g) : ∀ e : X, e.low ks = true → e.I ρ' = e.I ρ ∧ e.B ρ' = e.B ρ ∧ e.L ρ' = e.L ρ := by
  intro e
  induction e with
  | iv n => intro h; have := hi n h; simp [X.I, X.B, X.L, this]
  | bv n => intro h; have := hb n h; simp [X.I, X.B, X.L, this]
  | lit z => intro _; simp [X.I, X.B, X.L]
  | bl b => intro _; simp [X.I, X.B, X.L]
  | unit => intro _; simp [X.I, X.B, X.L]
  | bin op k a b iha ihb =>
    intro h
    simp only [X.low] at h
    split at h
    · rename_i ha; obtain ⟨a1, a2, a3⟩ := iha ha; obtain ⟨b1, b2, b3⟩ := ihb h; simp [X.I, X.B, X.L, a1, b1]
    · cases h
  | cmp op a b iha ihb =>
    intro h
    simp only [X.low] at h
    split at h
    · rename_i ha; obtain ⟨a1, a2, a3⟩ := iha ha; obtain ⟨b1, b2, b3⟩ := ihb h; simp [X.I, X.B, X.L, a1, b1]
    · cases h
  | and a b iha ihb =>
    intro h
    simp only [X.low] at h
    split at h
    · rename_i ha; obtain ⟨a1, a2, a3⟩ := iha ha; obtain ⟨b1, b2, b3⟩ := ihb h; simp [X.I, X.B, X.L, a2, b2]
    · cases h
  | or a b iha ihb =>
    intro h
    simp only [X.low] at h
    split at h
    · rename_i ha; obtain ⟨a1, a2, a3⟩ := iha ha; obtain ⟨b1, b2, b3⟩ := ihb h; simp [X.I, X.B, X.L, a2, b2]
    · cases h
  | beq a b iha ihb =>
    intro h
    simp only [X.low] at h
    split at h
    · rename_i ha; obtain ⟨a1, a2, a3⟩ := iha ha; obtain ⟨b1, b2, b3⟩ := ihb h; simp [X.I, X.B, X.L, a2, b2]
    · cases h
  | pair a b iha ihb =>
    intro h
    simp only [X.low] at h
    split at h
    · rename_i ha; obtain ⟨a1, a2, a3⟩ := iha ha; obtain ⟨b1, b2, b3⟩ := ihb h; simp [X.I, X.B, X.L, a3, b3]
    · cases h
  | wrap k a iha => intro h; obtain ⟨a1, a2, a3⟩ := iha h; simp [X.I, X.B, X.L, a1]
  | not a iha => intro h; obtain ⟨a1, a2, a3⟩ := iha h; simp [X.I, X.B, X.L, a2]
  | ofB a iha => intro h; obtain ⟨a1, a2, a3⟩ := iha h; simp [X.I, X.B, X.L, a2]
  | fi f a iha => intro h; obtain ⟨a1, a2, a3⟩ := iha h; simp [X.I, X.B, X.L, a3, hf]
  | fb f a iha => intro h; obtain ⟨a1, a2, a3⟩ := iha h; simp [X.I, X.B, X.L, a3, hg]
  | ite c a b ihc iha ihb =>
    intro h
    simp only [X.low] at h
    split at h
    · rename_i hc
      split at h
      · rename_i ha; obtain ⟨c1, c2, c3⟩ := ihc hc; obtain ⟨a1, a2, a3⟩ := iha ha; obtain ⟨b1, b2, b3⟩ := ihb h; simp [X.I, X.B, X.L, c2, a1, b1, a2, b2]
      · cases h
    · cases h
theorem ST.low_ok {ks : List LK} {ρ' : Env} {β β' : Nat → Nat} (hi : ∀ n, isI ks n = true → ρ'.i n = ρ.i n) (hb : ∀ n, isB ks n = true → ρ'.b n = ρ.b n) (hf : ρ'.f = ρ.f) (hg : ρ'.g = ρ.g) : ∀ v : ST, v.low ks = true → v.den ρ' β' = v.den ρ β := by
  have hc : ∀ x : SC, x.low ks = true → x.den ρ' β' = x.den ρ β := by
    intro x h
    cases x with
    | ci k x => simp only [SC.den, (Sx.low_ok hi hb hf hg x h).1]
    | cb x => simp only [SC.den, (Sx.low_ok hi hb hf hg x h).2.1]
    | cv c => rfl
    | _ => simp [SC.low] at h
  have hv : ∀ x : SV, x.low ks = true → x.den ρ' β' = x.den ρ β := by
    intro x h
    cases x with
    | c x => exact hc x h
    | agg l =>
      simp only [SV.low, allB_eq] at h
      simp only [SV.den]; congr 2
      exact List.map_congr_left fun x hx => hc x (h x hx)
  intro v
  induction v with
  | v x => exact hv x
  | tup l =>
    intro h
    simp only [ST.low, allB_eq] at h
    simp only [ST.den]; congr 2
    exact List.map_congr_left fun x hx => hv x (h x hx)
  | ifv c x ih =>
    intro h
    simp only [ST.low, Bool.and_eq_true] at h
    simp only [ST.den, (Sx.low_ok hi hb hf hg c h.1).2.1, ih h.2]
theorem idL_ok : ∀ {ks : List LK} {l : List X} {n : Nat}, idL n ks l = true → ∀ m, (isI ks m = true → at0 l m = .iv (n + m)) ∧ (isB ks m = true → at0 l m = .bv (n + m))
  | [], [], n, _, m => by constructor <;> (intro h; cases m <;> simp [isI, isB, nth] at h)
  | .i k :: ks, .iv j :: l, n, h, m => by
    simp only [idL, Bool.and_eq_true] at h
    have hj := Nat.eq_of_beq_eq_true h.1
    subst hj
    cases m with
    | zero => exact ⟨fun _ => rfl, fun h => by simp [isB, nth] at h⟩
    | succ m =>
      have := idL_ok h.2 m
      rw [show n + 1 + m = n + (m + 1) by omega] at this
      exact this
  | .b :: ks, .bv j :: l, n, h, m => by
    simp only [idL, Bool.and_eq_true] at h
    have hj := Nat.eq_of_beq_eq_true h.1
    subst hj
    cases m with
    | zero => exact ⟨fun h => by simp [isI, nth] at h, fun _ => rfl⟩
    | succ m =>
      have := idL_ok h.2 m
      rw [show n + 1 + m = n + (m + 1) by omega] at this
      exact this
theorem ST.onS_ok {K : Known} {β β' : Nat → Nat} {l : List X} {ks : List LK} (hK : K.ok ρ) {x : ST} (h : x.bareT = true) : (x.onS ks K l).den ρ β = x.den (ρ.on l) β' := by
  unfold ST.onS
  split
  · rename_i hid
    split
    · rename_i hlow
      refine ST.low_ok (ρ := ρ.on l) (ρ' := ρ) (fun n hn => ?_) (fun n hn => ?_) rfl rfl x hlow
      · have := (idL_ok hid n).1 hn
        simp only [Env.on, this, Nat.zero_add, X.I]
      · have := (idL_ok hid n).2 hn
        simp only [Env.on, this, Nat.zero_add, X.B]
    · exact ST.on_ok hK h
  · exact ST.on_ok hK h
end
section
variable {P : Program} {ρ : Env}
theorem grabC_ok {A : Known} (hA : A.ok ρ) {β : Nat → Nat} : ∀ {cs : List SC} {ks : List LK} {l pre : List X}, grabC A cs ks = some l → FitAll (ρ.on (pre ++ l)) ks pre.length (cs.map (SC.den ρ β))
  | [], [], l, pre, h => by simp only [grabC] at h; cases h; rfl
  | c :: cs, [], l, pre, h => by cases c <;> simp [grabC] at h
  | [], k :: ks, l, pre, h => by cases k <;> simp [grabC] at h
  | c :: cs, k :: ks, l, pre, h => by
    have hat : ∀ (x : X) (r : List X), at0 (pre ++ x :: r) pre.length = x := by
      intro x r
      simp [at0, nth_some]
    cases c <;> cases k <;> simp only [grabC] at h <;> try (cases h; done)
    · rename_i k x k'
      split at h
      · next hc =>
        split at h
        · next r hr =>
          cases h
          simp only [Bool.and_eq_true] at hc
          have ih := grabC_ok hA (β := β) (pre := pre ++ [x]) hr
          simp only [List.append_assoc, List.singleton_append, List.length_append, List.length_singleton] at ih
          refine ⟨_, _, rfl, ?_, ih⟩
          have hin := hc.2
          unfold inK at hin
          split at hin
          · next lo hi e =>
            simp only [Bool.and_eq_true, intLe_iff] at hin
            have hb := rng_ok hA.1 x _ _ e
            have e1 : (ρ.on (pre ++ x :: r)).i pre.length = x.I ρ := by simp only [Env.on, hat]
            simp only [LK.fits, SC.den, e1, kN_inj hc.1, true_and]
            rw [kN_inj hc.1] at hin
            omega
          · cases hin
        · cases h
      · cases h
    · rename_i x
      split at h
      · next r hr =>
        cases h
        have ih := grabC_ok hA (β := β) (pre := pre ++ [x]) hr
        simp only [List.append_assoc, List.singleton_append, List.length_append, List.length_singleton] at ih
        refine ⟨_, _, rfl, ?_, ih⟩
        have e1 : (ρ.on (pre ++ x :: r)).b pre.length = x.B ρ := by simp only [Env.on, hat]
        simp only [LK.fits, SC.den, e1]
      · cases h

theorem argT_shape {t : TypeId} {c : Nat} {s : SV} {ks : List LK} (h : argT P t c = some (s, ks)) : (∃ k, s = .c (LK.cell c k) ∧ ks = [k]) ∨ s = .agg (cellsFrom ks c) := by
  unfold argT at h
  split at h
  · split at h
    · split at h
      · split at h
        · cases h; exact .inr rfl
        · cases h
      · cases h
    · cases h
  · split at h
    · split at h
      · split at h
        · cases h; exact .inr rfl
        · cases h
      · cases h
    · cases h
  · split at h
    · next k hk => cases h; exact .inl ⟨k, rfl, rfl⟩
    · cases h
theorem cellsFrom_len : ∀ (ks : List LK) (c : Nat), (cellsFrom ks c).length = ks.length
  | [], _ => rfl
  | k :: ks, c => by simp [cellsFrom, cellsFrom_len ks]
theorem argTs_shape {ρ' : Env} {β β' : Nat → Nat} : ∀ {ts : List TypeId} {c : Nat} {ss : List SV} {ks : List LK}, argTs P ts c = some (ss, ks) → ∀ {vs : List SV}, shapeB vs ss = true →
    FitAll ρ' ks c ((flatS vs).map (SC.den ρ β)) → ss.map (SV.den ρ' β') = vs.map (SV.den ρ β)
  | [], c, ss, ks, h, vs, hs, hf => by
    simp only [argTs] at h; cases h
    cases vs with
    | nil => rfl
    | cons v vs => cases v <;> simp [shapeB] at hs
  | t :: ts, c, ss, ks, h, vs, hs, hf => by
    simp only [argTs] at h
    split at h
    · next s ks1 h1 =>
      split at h
      · next ss2 ks2 h2 =>
        cases h
        have step : ∀ {v : SV} {vs' : List SV}, vs = v :: vs' → shapeB vs' ss2 = true → v.cells.length = ks1.length → (FitAll ρ' ks1 c (v.cells.map (SC.den ρ β)) → s.den ρ' β' = v.den ρ β) → (s :: ss2).map (SV.den ρ' β') = vs.map (SV.den ρ β) := by
          intro v vs' e hs' hl hd
          subst e
          simp only [flatS, List.map_append] at hf
          obtain ⟨v1, v2, e, f1, f2⟩ := hf.split
          have l1 := f1.len
          have e' := List.append_inj e (by simp [l1, hl])
          rw [← e'.1] at f1
          rw [← e'.2] at f2
          simp only [List.map_cons, List.cons.injEq]
          rw [len_eq] at h2
          exact ⟨hd f1, argTs_shape h2 hs' f2⟩
        rcases argT_shape h1 with ⟨k, rfl, rfl⟩ | rfl
        · cases vs with
          | nil => simp [shapeB] at hs
          | cons v vs =>
            cases v with
            | agg a => simp [shapeB] at hs
            | c x =>
              simp only [shapeB] at hs
              refine step rfl hs rfl fun hf => ?_
              obtain ⟨v, l, e, h1, _⟩ := hf
              simp only [SV.cells, List.map_cons, List.map_nil, List.cons.injEq] at e
              obtain ⟨rfl, -⟩ := e
              simp only [SV.den]
              cases k with
              | i k => simp only [LK.fits] at h1; rw [h1.1]; rfl
              | b => simp only [LK.fits] at h1; rw [h1]; rfl
        · cases vs with
          | nil => simp [shapeB] at hs
          | cons v vs =>
            cases v with
            | c x => simp [shapeB] at hs
            | agg a =>
              simp only [shapeB] at hs
              split at hs
              · next hl =>
                have hl := Nat.eq_of_beq_eq_true hl
                rw [len_eq, len_eq, cellsFrom_len] at hl
                refine step rfl hs hl fun hf => ?_
                simp only [SV.den, SV.cells] at hf ⊢
                rw [cells_den hf]
              · cases hs
      · cases h
    · cases h

/-- What is asked of summaries. -/
def SumsOk (P : Program) (sums : List Sm) : Prop := ∀ ρ : Env, SumOk P ρ (sumsIn sums)
theorem sums_nil : SumsOk P [] := fun ρ f g h => by simp [sumsIn] at h

theorem tree_func {q : Nat} {sum : Sums} {fuel : Nat} {f : FuncId} {args : List SV} {A : Known} {v : ST} (h : tree P q sum fuel f args bare 0 A = .leaf v) : FuncOk P f := by
  simp only [tree] at h
  split at h
  · next hc => exact callWith_func hc
  · cases h
  · cases h

/-- One more summary. -/
theorem sums_cons (hm : P.follows .mixedOrders = true) {sums : List Sm} (hS : SumsOk P sums) {f : FuncId} {ts : List TypeId} {ss : List SV} {ks : List LK} {q fuel : Nat} {v : ST}
    (hts : argTs P ts 0 = some (ss, ks)) (ht : tree P q (sumsIn sums) fuel f ss bare 0 ⟨ks.map LK.rg, []⟩ = .leaf v) (hv : v.bareT = true) : SumsOk P (⟨f, ss, ks, v⟩ :: sums) := by
  intro ρ f' g hg
  simp only [sumsIn] at hg
  split at hg
  · next hf =>
    have hf := Nat.eq_of_beq_eq_true hf
    subst hf
    cases hg
    refine ⟨tree_func ht, fun A vs S u hA hu β wr w hR => ?_⟩
    simp only [Sm.use] at hu
    split at hu
    · next hs =>
      split at hu
      · next l hl =>
        cases hu
        have hf := grabC_ok hA (β := β) (pre := []) hl
        simp only [List.nil_append, List.length_nil] at hf
        have hk := known_env (ρ := ρ.on l) hA.2.2 hf
        have ha := argTs_shape (β' := fun _ => 0) hts hs hf
        have := tree_ok hm (hS (ρ.on l)) (fuel := fuel) (f := f) (args := ss) w (fun e he => (hR.row e he).1) 0 _ hk (by rw [ht]; exact ST.fits_of_bare hv)
        rw [ht, ha] at this
        exact Calls.mono this fun e w' h => ⟨by rw [h.1]; simp only [Tree.den]; rw [ST.onS_ok hA hv], h.2⟩
      · cases hu
    · cases hu
  · exact hS ρ f' g hg

/-- A function of numbers and truths that answers true, whatever they are; with summaries, case by case. -/
theorem flat_plan (hm : P.follows .mixedOrders = true) {sums : List Sm} (hS : SumsOk P sums) {fn : FuncId} {ts : List TypeId} {ss : List SV} {ks : List LK} (hts : argTs P ts 0 = some (ss, ks)) {q fuel big n : Nat}
    (hp : ∀ ρ, (⟨ks.map LK.rg, []⟩ : Known).ok ρ → ∃ K d, K.ok ρ ∧ (tree P q (sumsIn sums) fuel fn ss bare d K).prove big n K = true)
    {w : World} {r : Reach} {base : Nat} {args : Array Value} (hl : args.size = ts.length) (hv : ∀ (j : Nat) (t : TypeId) (v : Value), ts[j]? = some t → args[j]? = some v → Value.okWide P w r base t v) :
    Calls P fn args w fun e w' => (∃ v, e = .returned v ∧ v = .bool true) ∧ RowKit.Below w.heap.size w w' := by
  obtain ⟨cells, h1, h2⟩ := argTs_is hts (vs := args.toList) (by simpa using hl) fun j t v ht hv' => hv j t v ht (by simpa using hv')
  have hf := fitAll_env (fun _ _ => 0) (fun _ _ => false) (pre := []) h1
  simp only [List.nil_append, List.length_nil] at hf
  have hk := known_env (ρ := envOf (fun _ _ => 0) (fun _ _ => false) cells) ⟨fun n => rfl, fun e he => by cases he⟩ hf
  have ha : (ss.map (SV.den (envOf (fun _ _ => 0) (fun _ _ => false) cells) fun _ => 0)).toArray = args := by rw [h2 _ _ hf]
  obtain ⟨K, d, hK, ht⟩ := hp _ hk
  have := tree_ok hm (hS (envOf (fun _ _ => 0) (fun _ _ => false) cells)) (q := q) (fuel := fuel) (f := fn) (args := ss) w (fun e he => by cases he) d K hK (Tree.free_of_prove ht)
  rw [ha] at this
  exact Calls.mono this fun e w' h => ⟨⟨_, h.1, Tree.prove_ok hK ht⟩, h.2⟩
theorem split_on {R : Prop} {A : Known} {ρ : Env} (c : X) (hA : A.ok ρ) (ht : (A.assume c true).ok ρ → R) (hf : (A.assume c false).ok ρ → R) : R := by
  cases h : c.B ρ with
  | true => exact ht (assume_ok c true hA h)
  | false => exact hf (assume_ok c false hA h)
theorem split_know {R : Prop} {A : Known} {ρ : Env} {big n : Nat} (c : X) (hA : A.ok ρ) (h : X.proveE big n A c = true) (ht : (A.assume c true).ok ρ → R) : R := ht (assume_ok c true hA (proveE_ok hA h))
theorem split_void {R : Prop} {A : Known} {ρ : Env} {big n : Nat} (hA : A.ok ρ) (h : X.prove big n A (.bl false) = true) : R := by
  have := prove_ok hA h
  simp [X.B] at this
end
end Go.Sx
