/- Truths of expressions shown by cases: of truths, and of small numbers. -/
import Derived.Test.YtdgjenlejalgeaaSx1w
namespace Go.Sx

def oneV (K : Known) (n : Nat) : X :=
  match nth K.rg n with
  | some (some (l, h)) => if intB l h then .lit l else .iv n
  | _ => .iv n
/-- One bit of a variable. -/
def isAtom (op : BinOp) (a b : X) : Bool :=
  match op, a, b with
  | .neq, .bin .and .u64 (.iv _) (.lit _), .lit _ => true
  | _, _, _ => false
def cmpS (K : Known) (op : BinOp) (a b : X) : X :=
  match mkCmp op a b with
  | .cmp op a b => match X.dec K (.cmp op a b) with
    | some v => .bl v
    | none => if X.eqb a b then (match reflOp op with | some v => .bl v | none => .cmp op a b) else
      if isAtom op a b then .cmp op a b else
      match blastC K op a b with
      | some e => e
      | none => .cmp op a b
  | e => e
def ofS : X → X
  | .bl true => .lit 1
  | .bl false => .lit 0
  | e => .ofB e

/-- A truth with one of its atoms told. -/
def X.putB (l : X) (v : Bool) : X → X
  | .bv n => if X.eqb (.bv n) l then .bl v else .bv n
  | .cmp op a b => if X.eqb (.cmp op a b) l then .bl v else .cmp op a b
  | .not a => mkNot (X.putB l v a)
  | .and a b => mkAnd (X.putB l v a) (X.putB l v b)
  | .or a b => mkOr (X.putB l v a) (X.putB l v b)
  | .beq a b => mkBeq (X.putB l v a) (X.putB l v b)
  | .ite c a b => mkIteB (X.putB l v c) (X.putB l v a) (X.putB l v b)
  | e => e
/-- An atom, or the denial of one: which, and which truth it has where this is so. -/
def litB : X → Option (X × Bool)
  | .not (.bv n) => some (.bv n, false)
  | .not (.cmp op a b) => some (.cmp op a b, false)
  | .bv n => some (.bv n, true)
  | .cmp op a b => some (.cmp op a b, true)
  | _ => none
def mkAndL (a b : X) : X :=
  match litB b with
  | some (l, v) => mkAnd (X.putB l v a) b
  | none => match litB a with
    | some (l, v) => mkAnd a (X.putB l v b)
    | none => mkAnd a b

mutual
def X.subI (K : Known) : X → X
  | .iv n => oneV K n
  | .bin op k a b => mkBin op k (X.subI K a) (X.subI K b)
  | .wrap k a => wrapR K k (X.subI K a)
  | .ite c a b => mkIte (X.subB K c) (X.subI K a) (X.subI K b)
  | .ofB a => ofS (X.subB K a)
  | e => e
def X.subB (K : Known) : X → X
  | .bv n => match lookup (.bv n) K.tr with | some b => .bl b | none => .bv n
  | .cmp op a b => cmpS K op (X.subI K a) (X.subI K b)
  | .not a => mkNot (X.subB K a)
  | .and a b => mkAndL (X.subB K a) (X.subB K b)
  | .or a b => mkOr (X.subB K a) (X.subB K b)
  | .beq a b => mkBeq (X.subB K a) (X.subB K b)
  | .ite c a b => mkIteB (X.subB K c) (X.subB K a) (X.subB K b)
  | .fb f a => match lookup (.fb f a) K.tr with | some b => .bl b | none => .fb f a
  | e => e
end

/-- An atom to ask about. -/
def orO : Option X → Option X → Option X
  | some a, _ => some a
  | none, b => b
mutual
def X.atI : X → Option X
  | .bin _ _ a b => orO (X.atI a) (X.atI b)
  | .wrap _ a => X.atI a
  | .ite c _ _ => X.atB false c
  | .ofB a => X.atB false a
  | _ => none
def X.atB (top : Bool) : X → Option X
  | .bv n => some (.bv n)
  | .cmp op a b => orO (X.atI a) (orO (X.atI b) (if top then none else some (.cmp op a b)))
  | .not a => X.atB top a
  | .and a b => orO (X.atB false a) (X.atB false b)
  | .or a b => orO (X.atB false a) (X.atB false b)
  | .beq a b => orO (X.atB false a) (X.atB false b)
  | .ite c _ _ => X.atB false c
  | .fb f a => if top then none else some (.fb f a)
  | _ => none
end

/-- A number to be told apart: of those here the one of the least bounds. -/
abbrev Numb := Option (Nat × Int × Nat)
def lesser : Numb → Numb → Numb
  | none, b => b
  | a, none => a
  | some (n, l, c), some (m, l', c') => if Nat.ble c c' then some (n, l, c) else some (m, l', c')
def X.pk (K : Known) : X → Numb
  | .iv n => match nth K.rg n with
    | some (some (l, h)) => if intB l h then none else some (n, l, (h - l).toNat)
    | _ => none
  | .bin _ _ a b => lesser (X.pk K a) (X.pk K b)
  | .cmp _ a b => lesser (X.pk K a) (X.pk K b)
  | .wrap _ a => X.pk K a
  | .not a => X.pk K a
  | .and a b => lesser (X.pk K a) (X.pk K b)
  | .or a b => lesser (X.pk K a) (X.pk K b)
  | .beq a b => lesser (X.pk K a) (X.pk K b)
  | .ite c a b => lesser (X.pk K c) (lesser (X.pk K a) (X.pk K b))
  | .ofB a => X.pk K a
  | _ => none
def pkTr (K : Known) : List (X × Bool) → Numb
  | [] => none
  | (c, _) :: l => lesser (X.pk K c) (pkTr K l)

/-- No such numbers are. -/
def emptyR : List (Option (Int × Int)) → Bool
  | [] => false
  | some (l, h) :: r => if intLe l h then emptyR r else true
  | none :: r => emptyR r
def clash (K : Known) : List (X × Bool) → Bool
  | [] => false
  | (c, v) :: l => match X.subB K c with
    | .bl w => if boolB v w then clash K l else true
    | _ => clash K l
def Known.put (K : Known) (n : Nat) (z : Int) : Known := ⟨tightAt K.rg n z z, K.tr⟩
def eachZ (f : Int → Bool) : Nat → Int → Bool
  | 0, l => f l
  | c + 1, l => if f l then eachZ f c (l + 1) else false

/-- Something known that is not told apart: an atom of it. -/
def pickTr (K : Known) : List (X × Bool) → Option X
  | [] => none
  | (c, _) :: l => match X.subB K c with
    | .bl _ => pickTr K l
    | y => match X.atB true y with
      | some a => some a
      | none => pickTr K l

/-- Of these variables? -/
def X.has (vs : List Nat) : X → Bool
  | .iv n => vs.any (Nat.beq n)
  | .bin _ _ a b => X.has vs a || X.has vs b
  | .cmp _ a b => X.has vs a || X.has vs b
  | .wrap _ a => X.has vs a
  | .not a => X.has vs a
  | .and a b => X.has vs a || X.has vs b
  | .or a b => X.has vs a || X.has vs b
  | .beq a b => X.has vs a || X.has vs b
  | .ite c a b => X.has vs c || X.has vs a || X.has vs b
  | .ofB a => X.has vs a
  | _ => false
def X.ivs : X → List Nat → List Nat
  | .iv n, l => n :: l
  | .bin _ _ a b, l => X.ivs a (X.ivs b l)
  | .cmp _ a b, l => X.ivs a (X.ivs b l)
  | .wrap _ a, l => X.ivs a l
  | .not a, l => X.ivs a l
  | .and a b, l => X.ivs a (X.ivs b l)
  | .or a b, l => X.ivs a (X.ivs b l)
  | .beq a b, l => X.ivs a (X.ivs b l)
  | .ite c a b, l => X.ivs c (X.ivs a (X.ivs b l))
  | .ofB a, l => X.ivs a l
  | _, l => l
mutual
def X.avI (vs : List Nat) : X → Option X
  | .bin _ _ a b => orO (X.avI vs a) (X.avI vs b)
  | .wrap _ a => X.avI vs a
  | .ite c a b => orO (X.avB vs c) (orO (X.avI vs a) (X.avI vs b))
  | .ofB a => X.avB vs a
  | _ => none
/-- An atom of these variables. -/
def X.avB (vs : List Nat) : X → Option X
  | .cmp op a b => orO (X.avI vs a) (orO (X.avI vs b) (if X.has vs a || X.has vs b then some (.cmp op a b) else none))
  | .not a => X.avB vs a
  | .and a b => orO (X.avB vs a) (X.avB vs b)
  | .or a b => orO (X.avB vs a) (X.avB vs b)
  | .beq a b => orO (X.avB vs a) (X.avB vs b)
  | .ite c a b => orO (X.avB vs c) (orO (X.avB vs a) (X.avB vs b))
  | _ => none
end
def pickV (K : Known) (vs : List Nat) : List (X × Bool) → Option X
  | [] => none
  | (c, _) :: l => if X.has vs c then
      match X.subB K c with
      | .bl _ => pickV K vs l
      | .cmp _ a b => match orO (X.avI vs a) (X.avI vs b) with
        | some a => some a
        | none => pickV K vs l
      | .not (.cmp _ a b) => match orO (X.avI vs a) (X.avI vs b) with
        | some a => some a
        | none => pickV K vs l
      | y => match X.avB vs y with
        | some a => some a
        | none => pickV K vs l
    else pickV K vs l

/-- A truth that asks one thing. -/
def X.small : X → Bool
  | .bv _ => true
  | .fb _ _ => true
  | .cmp _ (.iv _) (.iv _) => true
  | .cmp _ (.bin .quo _ (.iv _) (.lit _)) (.lit _) => true
  | .cmp _ (.iv _) (.lit _) => true
  | .cmp _ (.lit _) (.iv _) => true
  | .cmp .neq (.bin .and .u64 (.iv _) (.lit _)) (.lit _) => true
  | _ => false
def smalls : List (X × Bool) → List (X × Bool)
  | [] => []
  | (c, v) :: l => if X.small c then (c, v) :: smalls l else smalls l
def bigs : List (X × Bool) → List (X × Bool)
  | [] => []
  | (c, v) :: l => if X.small c then bigs l else (c, v) :: bigs l
def Known.slim (K : Known) : Known := ⟨K.rg, smalls K.tr⟩
def X.bareN : X → X × Bool
  | .not a => match X.bareN a with | (x, b) => (x, !b)
  | a => (a, false)
/-- Something known that has come to one question. -/
def unitTr (K : Known) : List (X × Bool) → Option (X × Bool)
  | [] => none
  | (c, v) :: l => match X.bareN (X.subB K c) with
    | (y, neg) => if X.small y then some (y, v ^^ neg) else unitTr K l

def notF : X → Bool
  | .bl _ => false
  | _ => true
/-- Bounds of two, out of how they stand to one another. -/
def pairR (rg : List (Option (Int × Int))) (a b : Nat) (op : BinOp) : List (Option (Int × Int)) :=
  match nth rg a, nth rg b with
  | some (some (l, h)), some (some (l', h')) =>
    match op with
    | .lss => tightAt (tightAt rg a l (h' - 1)) b (l + 1) h'
    | .leq => tightAt (tightAt rg a l h') b l h'
    | .gtr => tightAt (tightAt rg a (l' + 1) h) b l' (h - 1)
    | .geq => tightAt (tightAt rg a l' h) b l' h
    | .eql => tightAt (tightAt rg a l' h') b l h
    | _ => rg
  | _, _ => rg
def relax (rg : List (Option (Int × Int))) : List (X × Bool) → List (Option (Int × Int))
  | [] => rg
  | (.cmp op (.iv a) (.iv b), v) :: l => relax (pairR rg a b (if v then op else negOp op)) l
  | _ :: l => relax rg l
def relaxN : Nat → List (Option (Int × Int)) → List (X × Bool) → List (Option (Int × Int))
  | 0, rg, _ => rg
  | n + 1, rg, l => relaxN n (relax rg l) l
/-- By tables, unless it is nothing at all that is to be shown. -/
def relIf (K : Known) (e : X) : Bool := if notF e then false else emptyR (relaxN 5 K.rg (smalls K.tr))
def tabIf (K : Known) (e : X) : Bool := if notF e then X.tabGo K e else false
def X.prove (big : Nat) : Nat → Known → X → Bool
  | 0, _, _ => false
  | n + 1, K, e =>
    if emptyR K.rg then true else
    if clash ⟨K.rg, []⟩ (smalls K.tr) then true else
    match X.subB K e with
    | .bl true => true
    | .and a b => if X.prove big n K a then X.prove big n K b else false
    | .not (.or a b) => if X.prove big n K (mkNot a) then X.prove big n K (mkNot b) else false
    | e => if tabIf K e then true else
      match e with
      | .or a b => X.prove big n (K.assume a false) b
      | .not (.and a b) => X.prove big n (K.assume a true) (mkNot b)
      | .beq a b => if X.prove big n (K.assume a true) b then X.prove big n (K.assume a false) (mkNot b) else false
      | .not (.beq a b) => if X.prove big n (K.assume a true) (mkNot b) then X.prove big n (K.assume a false) b else false
      | .ite c a b => if X.prove big n (K.assume c true) a then X.prove big n (K.assume c false) b else false
      | .not (.ite c a b) => if X.prove big n (K.assume c true) (mkNot a) then X.prove big n (K.assume c false) (mkNot b) else false
      | e => match X.atB true e with
        | some c => if X.prove big n (K.assume c true) e then X.prove big n (K.assume c false) e else false
        | none => if clash K.slim (bigs K.tr) then true else if relIf K e then true else
          match unitTr K.slim (bigs K.tr) with
          | some (y, v) => X.prove big n (K.assume y v) e
          | none =>
          if notF e then X.prove big n (K.assume e false) (.bl false) else
          match orO (pickV K.slim (X.ivs e []) (bigs K.tr)) (pickTr K.slim (bigs K.tr)) with
          | some c => if X.prove big n (K.assume c true) e then X.prove big n (K.assume c false) e else false
          | none => if X.tabGo K e then true else match X.pk K e with
            | some (m, l, c) => if Nat.ble c big then eachZ (fun z => X.prove big n (K.put m z) e) c l else false
            | none => match pkTr K K.tr with
              | some (m, l, c) => if Nat.ble c big then eachZ (fun z => X.prove big n (K.put m z) e) c l else false
              | none => false

/-! ### Why -/
section
variable {K : Known} {ρ : Env}

theorem oneV_ok (hK : K.ok ρ) (n : Nat) : (oneV K n).I ρ = ρ.i n := by
  unfold oneV
  split
  · next l h e =>
    split
    · next hb =>
      rw [nth_some] at e
      have := hK.1 n l h e
      have hb := intB_eq hb
      simp only [X.I]
      omega
    · rfl
  · rfl



theorem cmpS_ok (hK : K.ok ρ) (op : BinOp) (a b : X) : (cmpS K op a b).B ρ = cmpI op (a.I ρ) (b.I ρ) := by
  rw [← B_mkCmp]
  unfold cmpS
  split
  · next op a b e =>
    rw [e]
    split
    · next v hv => simp only [X.B]; exact (dec_ok hK _ _ hv).symm
    · split
      · next hq =>
        have hq := X.eqb_eq hq
        subst hq
        split
        · next v hv => simp only [X.B]; exact (reflOp_ok hv _).symm
        · rfl
      · split
        · rfl
        · split
          · next e he => exact blastC_ok hK he
          · rfl
  · rfl

theorem ofS_ok (a : X) : (ofS a).I ρ = if a.B ρ then 1 else 0 := by
  unfold ofS
  split <;> simp [X.I, X.B]

theorem putB_ok {ρ : Env} {l : X} {v : Bool} (h : l.B ρ = v) : ∀ e : X, (X.putB l v e).B ρ = e.B ρ
  | .bv n => by
    simp only [X.putB]
    split
    · next hq => rw [X.eqb_eq hq, h]; rfl
    · rfl
  | .cmp op a b => by
    simp only [X.putB]
    split
    · next hq => rw [X.eqb_eq hq, h]; rfl
    · rfl
  | .not a => by simp only [X.putB, B_mkNot, X.B, putB_ok h a]
  | .and a b => by simp only [X.putB, B_mkAnd, X.B, putB_ok h a, putB_ok h b]
  | .or a b => by simp only [X.putB, B_mkOr, X.B, putB_ok h a, putB_ok h b]
  | .beq a b => by simp only [X.putB, B_mkBeq, X.B, putB_ok h a, putB_ok h b]
  | .ite c a b => by simp only [X.putB, B_mkIteB, X.B, putB_ok h c, putB_ok h a, putB_ok h b]
  | .iv _ => rfl
  | .lit _ => rfl
  | .bl _ => rfl
  | .unit => rfl
  | .bin .. => rfl
  | .wrap .. => rfl
  | .ofB _ => rfl
  | .fi .. => rfl
  | .fb .. => rfl
  | .pair .. => rfl
theorem litB_ok {ρ : Env} {e l : X} {v : Bool} (h : litB e = some (l, v)) (he : e.B ρ = true) : l.B ρ = v := by
  unfold litB at h
  split at h <;> cases h
  · simpa [X.B] using he
  · simpa [X.B] using he
  · exact he
  · exact he
theorem B_mkAndL {ρ : Env} (a b : X) : (mkAndL a b).B ρ = (a.B ρ && b.B ρ) := by
  unfold mkAndL
  split
  · next l v hl =>
    rw [B_mkAnd]
    cases hb : b.B ρ with
    | false => simp
    | true => rw [putB_ok (litB_ok hl hb)]
  · split
    · next l v hl =>
      rw [B_mkAnd]
      cases ha : a.B ρ with
      | false => simp
      | true => rw [putB_ok (litB_ok hl ha)]
    · rw [B_mkAnd]
mutual
theorem subI_ok (hK : K.ok ρ) : ∀ e : X, (X.subI K e).I ρ = e.I ρ
  | .iv n => by simp only [X.subI, oneV_ok hK, X.I]
  | .bin op k a b => by simp only [X.subI, I_mkBin, X.I, subI_ok hK a, subI_ok hK b]
  | .wrap k a => by simp only [X.subI, wrapR_ok hK, X.I, subI_ok hK a]
  | .ite c a b => by simp only [X.subI, I_mkIte, X.I, subB_ok hK c, subI_ok hK a, subI_ok hK b]
  | .ofB a => by simp only [X.subI, ofS_ok, X.I, subB_ok hK a]
  | .lit _ => rfl
  | .bv _ => rfl
  | .bl _ => rfl
  | .cmp .. => rfl
  | .not _ => rfl
  | .and .. => rfl
  | .or .. => rfl
  | .beq .. => rfl
  | .fi .. => rfl
  | .fb .. => rfl
  | .pair .. => rfl
  | .unit => rfl
theorem subB_ok (hK : K.ok ρ) : ∀ e : X, (X.subB K e).B ρ = e.B ρ
  | .bv n => by
    simp only [X.subB]
    split
    · next b h => have := lookup_ok hK.2.1 h; simp only [X.B] at this ⊢; exact this.symm
    · rfl
  | .cmp op a b => by simp only [X.subB, cmpS_ok hK, X.B, subI_ok hK a, subI_ok hK b]
  | .not a => by simp only [X.subB, B_mkNot, X.B, subB_ok hK a]
  | .and a b => by simp only [X.subB, B_mkAndL, X.B, subB_ok hK a, subB_ok hK b]
  | .or a b => by simp only [X.subB, B_mkOr, X.B, subB_ok hK a, subB_ok hK b]
  | .beq a b => by simp only [X.subB, B_mkBeq, X.B, subB_ok hK a, subB_ok hK b]
  | .ite c a b => by simp only [X.subB, B_mkIteB, X.B, subB_ok hK c, subB_ok hK a, subB_ok hK b]
  | .fb f a => by
    simp only [X.subB]
    split
    · next b h => have := lookup_ok hK.2.1 h; simp only [X.B] at this ⊢; exact this.symm
    · rfl
  | .iv _ => rfl
  | .lit _ => rfl
  | .bl _ => rfl
  | .bin .. => rfl
  | .wrap .. => rfl
  | .ofB _ => rfl
  | .fi .. => rfl
  | .pair .. => rfl
  | .unit => rfl
end

theorem emptyR_ok : ∀ {rg : List (Option (Int × Int))} {o : Nat}, (∀ n l h, rg[n]? = some (some (l, h)) → l ≤ ρ.i (o + n) ∧ ρ.i (o + n) ≤ h) → emptyR rg = false
  | [], _, _ => rfl
  | none :: r, o, h => by
    simp only [emptyR]
    exact emptyR_ok (o := o + 1) fun n l hh e => by
      have := h (n + 1) l hh (by simpa using e)
      rwa [show o + 1 + n = o + (n + 1) by omega]
  | some (l, hh) :: r, o, h => by
    have h0 := h 0 l hh rfl
    have hle : intLe l hh = true := intLe_iff.2 (Int.le_trans h0.1 h0.2)
    simp only [emptyR, hle, if_true]
    exact emptyR_ok (o := o + 1) fun n l hh e => by
      have := h (n + 1) l hh (by simpa using e)
      rwa [show o + 1 + n = o + (n + 1) by omega]

theorem boolB_eq {a b : Bool} : boolB a b = (a == b) := by cases a <;> cases b <;> rfl

theorem clash_ok (hK : K.ok ρ) : ∀ {l : List (X × Bool)}, (∀ x b, (x, b) ∈ l → x.B ρ = b) → clash K l = false
  | [], _ => rfl
  | (c, v) :: l, h => by
    simp only [clash]
    have h0 := h c v (by simp)
    have ih := clash_ok hK (l := l) fun x b hm => h x b (by simp [hm])
    split
    · next w e =>
      have := subB_ok hK c
      rw [e] at this
      simp only [X.B] at this
      have hw : boolB v w = true := by rw [boolB_eq, this, h0]; simp
      simp [hw, ih]
    · exact ih

theorem smalls_sub : ∀ {l : List (X × Bool)} {p : X × Bool}, p ∈ smalls l → p ∈ l
  | (c, v) :: l, p, h => by
    simp only [smalls] at h
    split at h
    · rcases List.mem_cons.1 h with rfl | h
      · simp
      · exact List.mem_cons_of_mem _ (smalls_sub h)
    · exact List.mem_cons_of_mem _ (smalls_sub h)
theorem bigs_sub : ∀ {l : List (X × Bool)} {p : X × Bool}, p ∈ bigs l → p ∈ l
  | (c, v) :: l, p, h => by
    simp only [bigs] at h
    split at h
    · exact List.mem_cons_of_mem _ (bigs_sub h)
    · rcases List.mem_cons.1 h with rfl | h
      · simp
      · exact List.mem_cons_of_mem _ (bigs_sub h)
theorem slim_ok (hK : K.ok ρ) : K.slim.ok ρ := ⟨hK.1, fun x b h => hK.2.1 x b (smalls_sub h), hK.2.2⟩

theorem bareN_ok : ∀ e : X, e.B ρ = ((X.bareN e).2 ^^ (X.bareN e).1.B ρ)
  | .not a => by
    have := bareN_ok a
    simp only [X.bareN, X.B, this]
    cases (X.bareN a).2 <;> simp
  | .iv _ => by simp [X.bareN]
  | .bv _ => by simp [X.bareN]
  | .lit _ => by simp [X.bareN]
  | .bl _ => by simp [X.bareN]
  | .bin .. => by simp [X.bareN]
  | .cmp .. => by simp [X.bareN]
  | .wrap .. => by simp [X.bareN]
  | .and .. => by simp [X.bareN]
  | .or .. => by simp [X.bareN]
  | .beq .. => by simp [X.bareN]
  | .ite .. => by simp [X.bareN]
  | .ofB _ => by simp [X.bareN]
  | .fi .. => by simp [X.bareN]
  | .fb .. => by simp [X.bareN]
  | .pair .. => by simp [X.bareN]
  | .unit => by simp [X.bareN]
theorem unitTr_ok (hK : K.ok ρ) {y : X} {v : Bool} : ∀ {l : List (X × Bool)}, (∀ x b, (x, b) ∈ l → x.B ρ = b) → unitTr K l = some (y, v) → y.B ρ = v
  | [], _, h => by simp [unitTr] at h
  | (c, u) :: l, hl, h => by
    have h0 := hl c u (by simp)
    have h1 := bareN_ok (ρ := ρ) (X.subB K c)
    rw [subB_ok hK, h0] at h1
    simp only [unitTr] at h
    split at h
    · cases h
      generalize (X.bareN (X.subB K c)).2 = p at *
      generalize (X.bareN (X.subB K c)).1.B ρ = q at *
      rw [h1]
      cases p <;> cases q <;> rfl
    · exact unitTr_ok hK (fun x b hm => hl x b (by simp [hm])) h

theorem put_ok' (hK : K.ok ρ) (n : Nat) : (K.put n (ρ.i n)).ok ρ := by
  refine ⟨?_, hK.2.1, hK.2.2⟩
  have := tightAt_ok (ρ := ρ) K.rg n (ρ.i n) (ρ.i n) 0 (fun m l h e => by simpa using hK.1 m l h e)
  simp only [Nat.zero_add] at this
  exact fun m l h e => by
    have := this ⟨Int.le_refl _, Int.le_refl _⟩ m l h e
    simpa using this

theorem eachZ_ok {f : Int → Bool} : ∀ {c : Nat} {l z : Int}, eachZ f c l = true → l ≤ z → z ≤ l + c → f z = true
  | 0, l, z, h, h1, h2 => by
    have : z = l := by omega
    subst this; exact h
  | c + 1, l, z, h, h1, h2 => by
    simp only [eachZ] at h
    split at h
    · next hf =>
      by_cases e : z = l
      · subst e; exact hf
      · exact eachZ_ok h (by omega) (by omega)
    · cases h

theorem pk_ok (hK : K.ok ρ) : ∀ {e : X} {m : Nat} {l : Int} {c : Nat}, X.pk K e = some (m, l, c) → l ≤ ρ.i m ∧ ρ.i m ≤ l + c := by
  have les : ∀ {a b : Numb} {m : Nat} {l : Int} {c : Nat}, lesser a b = some (m, l, c) → a = some (m, l, c) ∨ b = some (m, l, c) := by
    intro a b m l c h
    unfold lesser at h
    split at h
    · exact .inr h
    · exact .inl h
    · split at h
      · exact .inl h
      · exact .inr h
  intro e
  induction e with
  | iv n =>
    intro m l c h
    simp only [X.pk] at h
    split at h
    · next lo hi e =>
      split at h
      · cases h
      · cases h
        rw [nth_some] at e
        have := hK.1 n l hi e
        omega
    · cases h
  | bin op k a b iha ihb => intro m l c h; simp only [X.pk] at h; exact (les h).elim (fun h => iha h) (fun h => ihb h)
  | cmp op a b iha ihb => intro m l c h; simp only [X.pk] at h; exact (les h).elim (fun h => iha h) (fun h => ihb h)
  | and a b iha ihb => intro m l c h; simp only [X.pk] at h; exact (les h).elim (fun h => iha h) (fun h => ihb h)
  | or a b iha ihb => intro m l c h; simp only [X.pk] at h; exact (les h).elim (fun h => iha h) (fun h => ihb h)
  | beq a b iha ihb => intro m l c h; simp only [X.pk] at h; exact (les h).elim (fun h => iha h) (fun h => ihb h)
  | wrap k a iha => intro m l c h; simp only [X.pk] at h; exact iha h
  | not a iha => intro m l c h; simp only [X.pk] at h; exact iha h
  | ofB a iha => intro m l c h; simp only [X.pk] at h; exact iha h
  | ite c a b ihc iha ihb =>
    intro m l c h; simp only [X.pk] at h
    rcases les h with h | h
    · exact ihc h
    · rcases les h with h | h
      · exact iha h
      · exact ihb h
  | _ => intro m l c h; simp [X.pk] at h

theorem pkTr_ok (hK : K.ok ρ) : ∀ {t : List (X × Bool)} {m : Nat} {l : Int} {c : Nat}, pkTr K t = some (m, l, c) → l ≤ ρ.i m ∧ ρ.i m ≤ l + c
  | [], _, _, _, h => by simp [pkTr] at h
  | (x, v) :: t, m, l, c, h => by
    simp only [pkTr] at h
    unfold lesser at h
    split at h
    · exact pkTr_ok hK h
    · exact pk_ok hK h
    · next h1 h2 =>
      split at h
      · cases h; exact pk_ok hK h1
      · cases h; exact pkTr_ok hK h2
end

theorem pairR_ok {ρ : Env} {rg : List (Option (Int × Int))} {a b : Nat} {op : BinOp} (hr : ∀ m l h, rg[m]? = some (some (l, h)) → l ≤ ρ.i m ∧ ρ.i m ≤ h) (hc : cmpI op (ρ.i a) (ρ.i b) = true) :
    ∀ m l h, (pairR rg a b op)[m]? = some (some (l, h)) → l ≤ ρ.i m ∧ ρ.i m ≤ h := by
  unfold pairR
  split
  · rename_i l1 h1 l2 h2 e1 e2
    rw [nth_some] at e1 e2
    have b1 := hr a l1 h1 e1
    have b2 := hr b l2 h2 e2
    have key : ∀ {rg : List (Option (Int × Int))} {n : Nat} {l' h' : Int}, (∀ m l h, rg[m]? = some (some (l, h)) → l ≤ ρ.i m ∧ ρ.i m ≤ h) → (l' ≤ ρ.i n ∧ ρ.i n ≤ h') → ∀ m l h, (tightAt rg n l' h')[m]? = some (some (l, h)) → l ≤ ρ.i m ∧ ρ.i m ≤ h := by
      intro rg n l' h' hr hb m l h hm
      have := tightAt_ok (ρ := ρ) rg n l' h' 0 (by simpa using hr) (by simpa using hb) m l h hm
      simpa using this
    cases op
    all_goals (simp [cmpI] at hc <;> first | exact hr | (refine key (key hr ?_) ?_ <;> omega))
  · exact hr
def isRel (op : BinOp) : Bool := match op with | .lss | .geq | .leq | .gtr | .eql | .neq => true | _ => false
theorem relax_ok {ρ : Env} : ∀ {t : List (X × Bool)} {rg : List (Option (Int × Int))}, (∀ x b, (x, b) ∈ t → x.B ρ = b) → (∀ m l h, rg[m]? = some (some (l, h)) → l ≤ ρ.i m ∧ ρ.i m ≤ h) →
    ∀ m l h, (relax rg t)[m]? = some (some (l, h)) → l ≤ ρ.i m ∧ ρ.i m ≤ h
  | [], rg, _, hr => hr
  | (x, v) :: t, rg, ht, hr => by
    have h0 := ht x v (by simp)
    have ht' : ∀ x b, (x, b) ∈ t → x.B ρ = b := fun x b h => ht x b (by simp [h])
    have dflt : ∀ m l h, (relax rg t)[m]? = some (some (l, h)) → l ≤ ρ.i m ∧ ρ.i m ≤ h := relax_ok ht' hr
    unfold relax
    split
    · next e => cases e
    · next op a b w t' e =>
      simp only [List.cons.injEq, Prod.mk.injEq] at e
      obtain ⟨⟨rfl, rfl⟩, rfl⟩ := e
      simp only [X.B, X.I] at h0
      cases v with
      | true => exact relax_ok ht' (pairR_ok hr h0)
      | false =>
        have : ∀ op : BinOp, isRel op = true → cmpI op (ρ.i a) (ρ.i b) = false → cmpI (negOp op) (ρ.i a) (ρ.i b) = true := by
          intro op ho h
          cases op <;> simp [isRel] at ho <;> simp [cmpI, negOp] at h ⊢ <;> omega
        by_cases ho : isRel op = true
        · exact relax_ok ht' (pairR_ok hr (this op ho h0))
        · have e : pairR rg a b (if false = true then op else negOp op) = rg := by
            unfold pairR
            split
            · cases op <;> first | rfl | (exact absurd rfl ho)
            · rfl
          rw [e]; exact dflt
    · next y t' _ e =>
      simp only [List.cons.injEq] at e
      obtain ⟨-, rfl⟩ := e
      exact dflt
theorem relaxN_ok {ρ : Env} {t : List (X × Bool)} (ht : ∀ x b, (x, b) ∈ t → x.B ρ = b) : ∀ {n : Nat} {rg : List (Option (Int × Int))}, (∀ m l h, rg[m]? = some (some (l, h)) → l ≤ ρ.i m ∧ ρ.i m ≤ h) →
    ∀ m l h, (relaxN n rg t)[m]? = some (some (l, h)) → l ≤ ρ.i m ∧ ρ.i m ≤ h
  | 0, _, hr => hr
  | n + 1, _, hr => relaxN_ok ht (n := n) (relax_ok ht hr)

set_option maxHeartbeats 1000000 in
theorem prove_ok {big : Nat} {ρ : Env} : ∀ {n : Nat} {K : Known} {e : X}, K.ok ρ → X.prove big n K e = true → e.B ρ = true
  | 0, _, _, _, h => by simp [X.prove] at h
  | n + 1, K, e, hK, h => by
    rw [← subB_ok hK e]
    simp only [X.prove] at h
    have hem : emptyR K.rg = false := emptyR_ok (ρ := ρ) (o := 0) fun n l hh e => by simpa using hK.1 n l hh e
    have hcl : clash K.slim (bigs K.tr) = false := clash_ok (slim_ok hK) fun x b h => hK.2.1 x b (bigs_sub h)
    have hcl2 : clash ⟨K.rg, []⟩ (smalls K.tr) = false := clash_ok (show Known.ok ⟨K.rg, []⟩ ρ from ⟨hK.1, fun _ _ h => absurd h List.not_mem_nil, hK.2.2⟩) fun x b h => hK.2.1 x b (smalls_sub h)
    have hrl : emptyR (relaxN 5 K.rg (smalls K.tr)) = false := emptyR_ok (ρ := ρ) (o := 0) fun n l hh e => by simpa using relaxN_ok (ρ := ρ) (n := 5) (fun x b h => hK.2.1 x b (smalls_sub h)) hK.1 n l hh e
    have hri : ∀ e : X, relIf K e = false := fun e => by unfold relIf; rw [hrl]; split <;> rfl
    simp only [hem, Bool.false_eq_true, if_false, hcl, hcl2, hri] at h
    have many : ∀ {m : Nat} {l : Int} {c : Nat} {e : X}, (l ≤ ρ.i m ∧ ρ.i m ≤ l + c) → (if Nat.ble c big then eachZ (fun z => X.prove big n (K.put m z) e) c l else false) = true → e.B ρ = true := by
      intro m l c e hm h
      split at h
      · exact prove_ok (put_ok' hK m) (eachZ_ok h hm.1 hm.2)
      · cases h
    have both : ∀ {p q : Bool}, (if p = true then q else false) = true → p = true ∧ q = true := by
      intro p q h
      cases p <;> simp at h; exact ⟨rfl, h⟩
    have way : ∀ (c x y : X), X.prove big n (K.assume c true) x = true → X.prove big n (K.assume c false) y = true → (c.B ρ = true → x.B ρ = true) ∧ (c.B ρ = false → y.B ρ = true) :=
      fun c x y h1 h2 => ⟨fun hv => prove_ok (assume_ok c true hK hv) h1, fun hv => prove_ok (assume_ok c false hK hv) h2⟩
    have ask : ∀ (c e : X), (if X.prove big n (K.assume c true) e = true then X.prove big n (K.assume c false) e else false) = true → e.B ρ = true := by
      intro c e h
      have h := way c e e (both h).1 (both h).2
      cases hv : c.B ρ with
      | true => exact h.1 hv
      | false => exact h.2 hv
    split at h
    · next e1 => rw [e1]; rfl
    · next a b e1 =>
      rw [e1]
      have h := both h
      simp only [X.B, prove_ok hK h.1, prove_ok hK h.2, Bool.and_self]
    · next a b e1 =>
      rw [e1]
      have h := both h
      have h1 := prove_ok hK h.1
      have h2 := prove_ok hK h.2
      simp only [B_mkNot] at h1 h2
      simp only [X.B]
      revert h1 h2
      cases a.B ρ <;> cases b.B ρ <;> simp
    · generalize X.subB K e = e0 at h
      split at h
      · next ht => exact tabGo_ok hK (by unfold tabIf at ht; revert ht; cases notF e0 <;> simp)
      · split at h
        · next a b _ =>
          simp only [X.B]
          cases hv : a.B ρ with
          | true => rfl
          | false => simpa using prove_ok (assume_ok a false hK hv) h
        · next a b _ =>
          simp only [X.B]
          cases hv : a.B ρ with
          | true => simpa using prove_ok (assume_ok a true hK hv) h
          | false => rfl
        · next a b _ =>
          have h := way _ _ _ (both h).1 (both h).2
          simp only [B_mkNot] at h
          simp only [X.B]
          revert h
          cases a.B ρ <;> cases b.B ρ <;> simp
        · next a b _ =>
          have h := way _ _ _ (both h).1 (both h).2
          simp only [B_mkNot] at h
          simp only [X.B]
          revert h
          cases a.B ρ <;> cases b.B ρ <;> simp
        · next c a b _ =>
          have h := way _ _ _ (both h).1 (both h).2
          simp only [X.B]
          revert h
          cases c.B ρ <;> simp
        · next c a b _ =>
          have h := way _ _ _ (both h).1 (both h).2
          simp only [B_mkNot] at h
          simp only [X.B]
          revert h
          cases c.B ρ <;> simp
        · split at h
          · exact ask _ _ h
          · split at h
            · next y v hu =>
              have := unitTr_ok (slim_ok hK) (fun x b h => hK.2.1 x b (bigs_sub h)) hu
              exact prove_ok (assume_ok y v hK this) h
            · split at h
              · cases hv : X.B ρ e0 with
                | true => rfl
                | false => have := prove_ok (assume_ok e0 false hK hv) h; simp [X.B] at this
              · split at h
                · exact ask _ _ h
                · split at h
                  · next ht => exact tabGo_ok hK ht
                  · split at h
                    · next m l c hp => exact many (pk_ok hK hp) h
                    · split at h
                      · next m l c hp => exact many (pkTr_ok hK hp) h
                      · cases h
end Go.Sx
