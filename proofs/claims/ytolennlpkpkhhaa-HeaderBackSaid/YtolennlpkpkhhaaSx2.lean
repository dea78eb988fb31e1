/- A small machine that reads straight Go code as trees, and its truth. -/
import Derived.Test.YtolennlpkpkhhaaSx1e
namespace Go.Sx

/-! ### Texts -/
/-- An expression that stands for one number in a list of them. -/
def fixA : X → X
  | .bin op k a b => .bin op k a b
  | .iv n => .iv n
  | .lit z => .lit z
  | .wrap k a => .wrap k a
  | .fi f a => .fi f a
  | .ite c a b => .ite c a b
  | .ofB a => .ofB a
  | e => .bin .add .i64 e (.lit 0)
/-- A piece of a text: bytes, zeros, a part of a text from outside. -/
inductive Seg where
  | bs (l : List X)
  | zs (n : X)
  | xt (e : Nat) (o n : X)
  deriving Inhabited
def b8 (z : Int) : UInt8 := UInt8.ofNat (IntKind.u8.wrap z).toNat
def Seg.den (ρ : Env) : Seg → List UInt8
  | .bs l => l.map fun x => b8 (x.I ρ)
  | .zs n => List.replicate (n.I ρ).toNat 0
  | .xt e o n => (List.range (n.I ρ).toNat).map fun (i : Nat) => b8 (ρ.f (rowF e 0) [o.I ρ + i])
def segsD (ρ : Env) : List Seg → List UInt8
  | [] => []
  | s :: l => s.den ρ ++ segsD ρ l

/-- A cell's value. -/
inductive SC where
  | ci (k : IntKind) (x : X)
  | cb (x : X)
  | cp (blk off : Nat)
  | csl (blk off len cap : Nat)
  | cv (c : Value)
  | co (n : Nat)
  | cf (f : FuncId) (caps : List (Nat × Nat))
  | xp (e : Nat) (ix : X) (fld : Nat)
  | xs (e : Nat) (off len cap : X)
  | osl (b n : Nat)
  | str (l : List Seg)
  | zz (n : X)
  | zsl (b : Nat) (n : X)
  deriving Inhabited

inductive SV where
  | c (x : SC)
  | agg (l : List SC)
  deriving Inhabited

inductive ST where
  | v (x : SV)
  | tup (l : List SV)
  | ifv (c : X) (x : ST)      -- if a truth holds; else nothing
  deriving Inhabited

def SC.den (ρ : Env) (β : Nat → Nat) : SC → Value
  | .ci k x => .int k (x.I ρ)
  | .cb x => .bool (x.B ρ)
  | .cp b o => .pointer (some ⟨β b, o, none⟩)
  | .csl b o l c => .slice (some ⟨β b, o, none⟩) l c
  | .cv c => c
  | .co n => ρ.v n
  | .cf f caps => .func (.func f) #[] (caps.map fun x => Value.pointer (some ⟨β x.1, x.2, none⟩)).toArray
  | .xp e ix o => .pointer (some ((ρ.x e).adr.add ((ix.I ρ).toNat * (ksOf e).length + o)))
  | .osl b n => .slice (some ⟨β b, 0, none⟩) n (β (b + 1))
  | .xs e o l c => .slice (if ρ.g (rowF e 61) [] then none else some ((ρ.x e).adr.add ((o.I ρ).toNat * (ksOf e).length))) (l.I ρ).toNat (c.I ρ).toNat
  | .str l => .string ⟨(segsD ρ l).toArray⟩
  | .zz _ => .int .u8 0
  | .zsl b n => .slice (some ⟨β b, 0, none⟩) (n.I ρ).toNat (n.I ρ).toNat

def SV.den (ρ : Env) (β : Nat → Nat) : SV → Value
  | .c x => x.den ρ β
  | .agg l => .agg (l.map (SC.den ρ β)).toArray

def ST.den (ρ : Env) (β : Nat → Nat) : ST → Value
  | .v x => x.den ρ β
  | .tup l => .tuple (l.map (SV.den ρ β)).toArray
  | .ifv c x => if c.B ρ then x.den ρ β else undef

/-- A constant's cell. -/
def constC : Value → SC
  | .int k n => .ci k (.lit n)
  | .bool b => .cb (.bl b)
  | v => .cv v
def constV : Value → SV
  | .agg cs => .agg (cs.toList.map constC)
  | v => .c (constC v)

def SV.cells : SV → List SC
  | .c x => [x]
  | .agg l => l

/-- Cells; 'sp': a number that stands for the capacity, how many elements the cells are, a zero element's cells: zeros behind. -/
structure Blk where
  cells : List SC
  elem : TypeId
  sp : Option (Nat × Nat × List SC)
  deriving Inhabited

structure St where
  tm : List (Option ST)
  hp : List (Option Blk)
  base : Nat
  wr : List Nat
  deriving Inhabited

inductive R (α : Type) where
  | ok (a : α)
  | split (c : X)
  | fail (m : String)

def R.bind {α β : Type} (r : R α) (f : α → R β) : R β :=
  match r with
  | .ok a => f a
  | .split c => .split c
  | .fail m => .fail m

instance : Monad R where
  pure := R.ok
  bind := R.bind

def ofOpt {α : Type} (m : String) : Option α → R α
  | some a => .ok a
  | none => .fail m

def allB {α : Type} (p : α → Bool) : List α → Bool
  | [] => true
  | a :: l => p a && allB p l

/-- Only blocks below a number are named. -/
def SC.fits (n : Nat) : SC → Bool
  | .cp b _ => Nat.ble (b + 1) n
  | .csl b _ _ _ => Nat.ble (b + 1) n
  | .osl b _ => Nat.ble (b + 2) n
  | .zsl b _ => Nat.ble (b + 1) n
  | .cf _ caps => allB (fun x => Nat.ble (x.1 + 1) n) caps
  | _ => true
def SV.fits (n : Nat) : SV → Bool
  | .c x => x.fits n
  | .agg l => allB (SC.fits n) l
def ST.fits (n : Nat) : ST → Bool
  | .v x => x.fits n
  | .tup l => allB (SV.fits n) l
  | .ifv _ x => x.fits n

def mem : Nat → List Nat → Bool
  | _, [] => false
  | n, m :: l => Nat.beq n m || mem n l

/-- No block of some is named. -/
def SC.avoids (l : List Nat) : SC → Bool
  | .cp b _ => !mem b l
  | .csl b _ _ _ => !mem b l
  | .osl b _ => !mem b l && !mem (b + 1) l
  | .zsl b _ => !mem b l
  | .cf _ caps => allB (fun x => !mem x.1 l) caps
  | _ => true
def SV.avoids (l : List Nat) : SV → Bool
  | .c x => x.avoids l
  | .agg cs => allB (SC.avoids l) cs
def ST.avoids (l : List Nat) : ST → Bool
  | .v x => x.avoids l
  | .tup vs => allB (SV.avoids l) vs
  | .ifv _ x => x.avoids l

/-- May it be stored in a cell? -/
def SC.plain : SC → Bool
  | .cv (.agg _) => false
  | .cv (.tuple _) => false
  | _ => true

def setAt {α : Type} : List α → Nat → α → List α
  | [], _, _ => []
  | _ :: l, 0, x => x :: l
  | y :: l, n + 1, x => y :: setAt l n x


/-- 'n' cells from a place on. -/
def cut {α : Type} (l : List α) (off n : Nat) : Option (List α) :=
  let r := takeN n (dropN off l)
  if Nat.beq (len r) n then some r else none


/-- Cells laid over others, from a place on. -/
def lay : List SC → Nat → List SC → List SC
  | cs, _, [] => cs
  | cs, o, x :: l => lay (setAt cs o x) (o + 1) l

/-- What an operation does to memory. -/
inductive Ef where
  | none
  | new (b : Blk)
  | upd (id : Nat) (b : Blk)
  | app (old : Option Nat) (b : Blk)

section
variable (P : Program) (A : Known)

def decR (c : X) : R Bool :=
  match c.dec A with
  | some b => .ok b
  | none => .split (c.atom A)

/-- Nothing is so: shown by cases. -/
def Known.void (A : Known) : Bool := X.prove 16 60 A (.bl false)
/-- A truth that ought to be false. -/
def decS (c : X) : R Bool :=
  match c.dec A with
  | some b => .ok b
  | none => if X.prove 16 40 A (mkNot c) then .ok false else .split (c.atom A)

/-- A truth, told by tables if need be. -/
def decT (c : X) : R Bool :=
  match c.dec A with
  | some b => .ok b
  | none => if X.tabGo A c then .ok true else if X.tabGo A (mkNot c) then .ok false else .split (c.atom A)

/-- A value, where it is known whether there is one. -/
def ST.res : ST → R ST
  | .ifv c x => do if ← decR A c then ST.res x else .ok (.tup [])
  | x => .ok x

def ev (S : St) : Operand → R ST
  | .tmp t => match nth S.tm t with
    | some (some v) => ST.res A v
    | _ => .fail "tmp"
  | .const v => .ok (.v (constV v))
  | .func f => .ok (.v (.c (.cf f [])))
  | .global _ => .fail "global"

def asV : ST → R SV
  | .v v => .ok v
  | _ => .fail "no plain value"
def asC : SV → R SC
  | .c x => .ok x
  | _ => .fail "no cell"
def evV (S : St) (x : Operand) : R SV := do asV (← ev A S x)
def evC (S : St) (x : Operand) : R SC := do asC (← evV A S x)
def asP : SC → R (Nat × Nat)
  | .cp b o => .ok (b, o)
  | _ => .fail "no pointer"
def asI : SC → R (IntKind × X)
  | .ci k x => .ok (k, x)
  | _ => .fail "no number"
def asB : SC → R X
  | .cb x => .ok x
  | _ => .fail "no truth"

def evVs (S : St) : List Operand → R (List SV)
  | [] => .ok []
  | x :: l => do
    let v ← evV A S x
    let vs ← evVs S l
    .ok (v :: vs)

def isAggT (t : TypeId) : R Bool :=
  match P.underlying t with
  | some (.struct _) => .ok true
  | some (.array _ _) => .ok true
  | some _ => .ok false
  | none => .fail "type"

def sizeT (t : TypeId) : R Nat :=
  match P.info? t with
  | some i => .ok i.size
  | none => .fail "type"

def zeroT (t : TypeId) : R (List SC) :=
  match P.info? t with
  | some i => match i.zero with
    | some z => .ok (z.cells.toList.map constC)
    | none => .fail "zero"
  | none => .fail "type"

def getR {α : Type} (m : String) (l : List α) (n : Nat) : R α := ofOpt m (nth l n)

def blkAt (S : St) (id : Nat) : R Blk :=
  match nth S.hp id with
  | some (some b) => .ok b
  | _ => .fail "block"

/-- A part of some cells. -/
def partS (t : TypeId) (cs : List SC) (off : Nat) : R SV := do
  if ← isAggT P t then
    let n ← sizeT P t
    let l ← ofOpt "cells" (cut cs off n)
    .ok (.agg l)
  else
    let c ← getR "cell" cs off
    .ok (.c c)

/-- The value that lies in a block. -/
def loadS (S : St) (t : TypeId) (id off : Nat) : R SV := do
  let b ← blkAt S id
  partS P t b.cells off

def chk (m : String) (b : Bool) : R Unit := if b then .ok () else .fail m

def storeS (S : St) (t : TypeId) (id off : Nat) (v : SV) : R Ef := do
  let b ← blkAt S id
  let n ← sizeT P t
  chk "store" (Nat.beq (len v.cells) n && Nat.ble (off + n) (len b.cells) && allB SC.plain v.cells)
  .ok (.upd id ⟨lay b.cells off v.cells, b.elem, b.sp⟩)

def fillS (place : Nat → Option (Nat × Nat)) (cells : List SC) : List (Nat × SV) → R (List SC)
  | [] => .ok cells
  | (i, v) :: rest =>
    match place i with
    | none => .fail "build"
    | some (off, size) =>
      if Nat.beq (len v.cells) size && Nat.ble (off + size) (len cells) then fillS place (lay cells off v.cells) rest else .fail "build"

def eqFlds (rec : TypeId → SV → SV → R X) (xs ys : List SC) : List Field → R X
  | [] => .ok (.bl true)
  | f :: fs => do
    chk "equal blank" (f.name != "_")
    let a ← partS P f.type xs f.offset
    let b ← partS P f.type ys f.offset
    let r ← rec f.type a b
    let s ← eqFlds rec xs ys fs
    .ok (mkAnd r s)

def eqElems (rec : TypeId → SV → SV → R X) (e : TypeId) (xs ys : List SC) (sz : Nat) : Nat → Nat → R X
  | 0, _ => .ok (.bl true)
  | n + 1, i => do
    let a ← partS P e xs (i * sz)
    let b ← partS P e ys (i * sz)
    let r ← rec e a b
    let s ← eqElems rec e xs ys sz n (i + 1)
    .ok (mkAnd r s)

/-- Whether two of a type are the same. -/
def eqS : Nat → TypeId → SV → SV → R X
  | 0, _, _, _ => .fail "equal"
  | d + 1, t, x, y =>
    match P.underlying t with
    | some .bool => match x, y with
      | .c (.cb a), .c (.cb b) => .ok (mkBeq a b)
      | _, _ => .fail "equal bool"
    | some (.int _) => match x, y with
      | .c (.ci k a), .c (.ci k' b) => if Nat.beq (kN k) (kN k') then .ok (mkCmp .eql a b) else .fail "equal kinds"
      | _, _ => .fail "equal int"
    | some (.struct fs) =>
      if P.stoodInHeld t then .fail "equal stood in" else
      match x, y with
      | .agg xs, .agg ys => eqFlds P (eqS d) xs ys fs.toList
      | _, _ => .fail "equal struct"
    | some (.array n e) => match x, y with
      | .agg xs, .agg ys => do
        let sz ← sizeT P e
        eqElems P (eqS d) e xs ys sz n 0
      | _, _ => .fail "equal array"
    | _ => .fail "equal type"

/-- A number that is known to be a given one. -/
def eqLit (e : X) : List (X × Bool) → Option Int
  | [] => none
  | (.cmp .eql x (.lit z), true) :: l => if X.eqb x e then some z else eqLit e l
  | _ :: l => eqLit e l
def litR (e : X) : X := match eqLit e A.tr with
  | some z => .lit z
  | none => e
def fitsK (k : IntKind) (x : X) : Bool :=
  match X.rng A.rg x with
  | some (l, h) => intLe (kLo k) l && intLe h (kHi k)
  | none => false
def nnK (k : IntKind) (x : X) : Bool :=
  match X.rng A.rg x with
  | some (.ofNat _, h) => intLe h (kHi k)
  | _ => false
def remZ (k : IntKind) (x : X) (u : Nat) : Bool :=
  match eqLit (.bin .rem k x (.lit (.ofNat u))) A.tr with
  | some (.ofNat 0) => true
  | _ => false
/-- An operation, where it comes to one of its operands. -/
def orR (k : IntKind) (a b : X) : X :=
  if isZ a && fitsK A k b then b else if isZ b && fitsK A k a then a else mkBin .or k a b
where
  isZ : X → Bool
    | .lit (.ofNat 0) => true
    | _ => false
def mulQ (k : IntKind) (a b : X) : X :=
  match a, b with
  | .lit (.ofNat u), .bin .quo k' x (.lit (.ofNat v)) =>
    if Nat.beq u v && Nat.beq (kN k) (kN k') && Nat.ble 1 u && remZ A k x u && nnK A k x then x
    else mkBin .mul k a b
  | _, _ => mkBin .mul k a b
def binR (op : BinOp) (k : IntKind) (a b : X) : X :=
  match op with
  | .or => orR A k a b
  | .mul => mulQ A k a b
  | .and => litR A (mkBin .and k a b)
  | op => mkBin op k a b
def intOp (op : BinOp) (k : IntKind) (a : X) (k' : IntKind) (b : X) : R SC :=
  match op with
  | .shl | .shr => do
    let neg ← decS A (mkCmp .lss b (.lit 0))
    chk "shift" (!neg)
    .ok (.ci k (litR A (mkBin op k a b)))
  | .quo | .rem => do
    chk "kinds" (Nat.beq (kN k) (kN k'))
    let z ← decS A (mkCmp .eql b (.lit 0))
    chk "division" (!z)
    .ok (.ci k (litR A (mkBin op k a b)))
  | .add | .sub | .mul | .and | .or | .xor | .andNot => do
    chk "kinds" (Nat.beq (kN k) (kN k'))
    .ok (.ci k (binR A op k a b))
  | .eql | .neq | .lss | .leq | .gtr | .geq => do
    chk "kinds" (Nat.beq (kN k) (kN k'))
    .ok (.cb (mkCmp op a b))

def binS (op : BinOp) (t : TypeId) (x y : SV) : R SV :=
  match x, y with
  | .c (.ci k a), .c (.ci k' b) => do .ok (.c (← intOp A op k a k' b))
  | .c (.cb a), .c (.cb b) =>
    match P.underlying t, op with
    | some .bool, .eql => .ok (.c (.cb (mkBeq a b)))
    | some .bool, .neq => .ok (.c (.cb (mkNot (mkBeq a b))))
    | _, _ => .fail "bin bools"
  | .agg xs, .agg ys =>
    if P.eqGuardType P.depth t then .fail "bin guard" else
    match op with
    | .eql => do .ok (.c (.cb (← eqS P 20 t (.agg xs) (.agg ys))))
    | .neq => do .ok (.c (.cb (mkNot (← eqS P 20 t (.agg xs) (.agg ys)))))
    | _ => .fail "bin aggregates"
  | _, _ => .fail "bin"

def unS (op : UnOp) (x : SC) : R SC :=
  match op, x with
  | .neg, .ci k a => .ok (.ci k (mkBin .sub k (.lit 0) a))
  | .xor, .ci k a => .ok (.ci k (mkBin .xor k (.lit (if k.signed then -1 else k.max)) a))
  | .not, .cb a => .ok (.cb (mkNot a))
  | _, _ => .fail "un"

/-- A number as one of 0 .. n - 1. -/
def findI (ix : X) : Nat → Nat → R Nat
  | 0, _ => if A.void then .ok 0 else .fail "index"
  | n + 1, j => do
    if ← decT A (mkCmp .eql ix (.lit j)) then .ok j else findI ix n (j + 1)

/-- A number of j .. j + n. -/
def findL (ix : X) : Nat → Nat → R Nat
  | 0, j => .ok j
  | n + 1, j => do
    if ← decT A (mkCmp .eql ix (.lit j)) then .ok j else findL ix n (j + 1)
def idxS (ix : X) (n : Nat) : R Nat :=
  match ix with
  | .lit (.ofNat j) => if Nat.ble (j + 1) n then .ok j else .fail "index"
  | .lit _ => .fail "index"
  | ix => match X.rng A.rg ix with
    | some (.ofNat l, .ofNat h) => if Nat.ble (h + 1) n && Nat.ble l h then findL A ix (h - l) l else findI A ix n 0
    | _ => findI A ix n 0

/-- A bound of a cut, 0 .. n. -/
def boundS (n : Nat) : SC → R Nat
  | .ci _ x => idxS A x (n + 1)
  | _ => .fail "bound"

def optC (S : St) : Option Operand → R (Option SC)
  | none => .ok none
  | some x => do .ok (some (← evC A S x))

def bndOr (n d : Nat) : Option SC → R Nat
  | none => .ok d
  | some c => boundS A n c

def zeros (z : List SC) : Nat → List SC
  | 0 => []
  | n + 1 => z ++ zeros z n

def minX (k : IntKind) (x : X) : List SC → R X
  | [] => .ok x
  | .ci k' y :: l => if Nat.beq (kN k) (kN k') then minX k (mkIte (mkCmp .lss y x) y x) l else .fail "min"
  | _ => .fail "min"
def maxX (k : IntKind) (x : X) : List SC → R X
  | [] => .ok x
  | .ci k' y :: l => if Nat.beq (kN k) (kN k') then maxX k (mkIte (mkCmp .gtr y x) y x) l else .fail "max"
  | _ => .fail "max"

def cellsOf : List SV → R (List SC)
  | [] => .ok []
  | v :: l => do .ok ((← asC v) :: (← cellsOf l))

def builtS (b : Builtin) (ts : Array TypeId) (args : List SV) : R SV :=
  match b with
  | .len => match ts[0]? with
    | some t => match P.underlying t, args with
      | some (.array n _), [_] => .ok (.c (.ci .i64 (.lit n)))
      | some (.slice _), [.c (.csl _ _ n _)] => .ok (.c (.ci .i64 (.lit n)))
      | some .string, [.c (.cv (.string s))] => .ok (.c (.ci .i64 (.lit s.size)))
      | _, _ => .fail "len"
    | none => .fail "len"
  | .min => do
    match ← cellsOf args with
    | .ci k x :: l => .ok (.c (.ci k (← minX k x l)))
    | _ => .fail "min"
  | .max => do
    match ← cellsOf args with
    | .ci k x :: l => .ok (.c (.ci k (← maxX k x l)))
    | _ => .fail "max"
  | _ => .fail "builtin"

def asPs : List SV → R (List (Nat × Nat))
  | [] => .ok []
  | v :: l => do
    let c ← asC v
    let p ← asP c
    let ps ← asPs l
    .ok (p :: ps)

/-- Where a field is, and how long. -/
def placeS (fs : List Field) (i : Nat) : Option (Nat × Nat) :=
  match nth fs i with
  | some f => match P.info? f.type with
    | some j => some (f.offset, j.size)
    | none => none
  | none => none

/-- An operation that calls nothing: its value, and what it does to memory. -/
def opS (S : St) (o : Op) : R (ST × Ef) :=
  match o with
  | .move x => do .ok (← ev A S x, .none)
  | .assign x => do .ok (← ev A S x, .none)
  | .pick c a b => do
    let c ← evC A S c
    let x ← asB c
    match x.dec A with
    | some true => .ok (← ev A S a, .none)
    | some false => .ok (← ev A S b, .none)
    | none =>
      let u ← asB (← asC (← asV (← ev (A.assume x true) S a)))
      let v ← asB (← asC (← asV (← ev (A.assume x false) S b)))
      .ok (.v (.c (.cb (mkIteB x u v))), .none)
  | .alloc t => do
    let z ← zeroT P t
    .ok (.v (.c (.cp (len S.hp) 0)), .new ⟨z, t, none⟩)
  | .box t x => do
    let v ← evV A S x
    chk "box" (allB SC.plain v.cells)
    .ok (.v (.c (.cp (len S.hp) 0)), .new ⟨v.cells, t, none⟩)
  | .build t parts => do
    let z ← zeroT P t
    let vs ← evVs A S (parts.toList.map (·.2))
    chk "parts" (allB (fun v => allB SC.plain v.cells) vs)
    match P.underlying t with
    | some (.struct fs) =>
      chk "fields" (allB (fun f => match P.info? f.type with | some _ => true | none => false) fs.toList)
      let cs ← fillS (placeS P fs.toList) z (parts.toList.map (·.1) |>.zip vs)
      .ok (.v (.agg cs), .none)
    | some (.array _ e) =>
      let sz ← sizeT P e
      let cs ← fillS (fun i => some (i * sz, sz)) z (parts.toList.map (·.1) |>.zip vs)
      .ok (.v (.agg cs), .none)
    | _ => .fail "build type"
  | .buildSlice t n parts => do
    let vs ← evVs A S (parts.toList.map (·.2))
    chk "parts" (allB (fun v => allB SC.plain v.cells) vs)
    match P.underlying t with
    | some (.slice e) =>
      let sz ← sizeT P e
      let z ← zeroT P e
      chk "buildSlice" (Nat.beq (len z) sz && Nat.ble (n * sz) 1000000 && Nat.ble 1 sz && Nat.ble 1 n)
      let cs ← fillS (fun i => some (i * sz, sz)) (zeros z n) (parts.toList.map (·.1) |>.zip vs)
      .ok (.v (.c (.csl (len S.hp) 0 n n)), .new ⟨cs, e, none⟩)
    | _ => .fail "buildSlice type"
  | .load t a => do
    let (id, off) ← asP (← evC A S a)
    .ok (.v (← loadS P S t id off), .none)
  | .store t a x => do
    let (id, off) ← asP (← evC A S a)
    let v ← evV A S x
    .ok (.tup [], ← storeS P S t id off v)
  | .nilCheck x => do
    let c ← evC A S x
    match c with
    | .cp id off => .ok (.v (.c (.cp id off)), .none)
    | .cf f caps => .ok (.v (.c (.cf f caps)), .none)
    | _ => .fail "nilCheck"
  | .binOp op t x y _ => do
    let a ← evV A S x
    let b ← evV A S y
    .ok (.v (← binS P A op t a b), .none)
  | .unOp op _ x => do .ok (.v (.c (← unS op (← evC A S x))), .none)
  | .convert src dst x => do
    let (_, n) ← asI (← evC A S x)
    match P.underlying src, P.underlying dst with
    | some (.int _), some (.int k) => .ok (.v (.c (.ci k (wrapR A k n))), .none)
    | _, _ => .fail "convert"
  | .fieldAddr t x f => do
    let (id, off) ← asP (← evC A S x)
    match P.underlying t with
    | some (.struct fs) =>
      let fd ← getR "field" fs.toList f
      let n ← sizeT P fd.type
      chk "field empty" (Nat.ble 1 n)
      .ok (.v (.c (.cp id (off + fd.offset))), .none)
    | _ => .fail "fieldAddr"
  | .field t x f => do
    match ← evV A S x, P.underlying t with
    | .agg cs, some (.struct fs) =>
      let fd ← getR "field" fs.toList f
      .ok (.v (← partS P fd.type cs fd.offset), .none)
    | _, _ => .fail "field"
  | .indexAddr t x ix => do
    let (_, n) ← asI (← evC A S ix)
    match P.underlying t, ← evC A S x with
    | some (.array m e), .cp id off =>
      let j ← idxS A n m
      let sz ← sizeT P e
      .ok (.v (.c (.cp id (off + j * sz))), .none)
    | some (.slice e), .csl id off m _ =>
      let j ← idxS A n m
      let sz ← sizeT P e
      .ok (.v (.c (.cp id (off + j * sz))), .none)
    | _, _ => .fail "indexAddr"
  | .index t x ix => do
    let (_, n) ← asI (← evC A S ix)
    match P.underlying t, ← evV A S x with
    | some (.array m e), .agg cs =>
      let j ← idxS A n m
      let sz ← sizeT P e
      .ok (.v (← partS P e cs (j * sz)), .none)
    | _, _ => .fail "index"
  | .extract t i => do
    match ← ev A S t with
    | .tup l => .ok (.v (← getR "extract" l i), .none)
    | _ => .fail "extract"
  | .makeFunc fn first caps => do
    match fn, first.toList with
    | .func f, [] =>
      let ps ← asPs (← evVs A S caps.toList)
      .ok (.v (.c (.cf f ps)), .none)
    | _, _ => .fail "makeFunc"
  | .makeSlice t l c => do
    let (_, n) ← asI (← evC A S l)
    let (_, m) ← asI (← evC A S c)
    match P.underlying t, n, m with
    | some (.slice e), .lit (.ofNat n), .lit (.ofNat m) =>
      let sz ← sizeT P e
      let z ← zeroT P e
      let i ← ofOpt "info" (P.info? e)
      chk "makeSlice" (Nat.beq (len z) sz && Nat.ble m 4096 && Nat.ble 1 sz && Nat.ble 1 m && Nat.ble n m && Nat.ble i.bytes 1000)
      .ok (.v (.c (.csl (len S.hp) 0 n m)), .new ⟨zeros z m, e, none⟩)
    | _, _, _ => .fail "makeSlice"
  | .slice t x lo hi mx => do
    let lo ← optC A S lo
    let hi ← optC A S hi
    match mx, P.underlying t, ← evC A S x with
    | none, some (.array n e), .cp id off =>
      let h ← bndOr A n n hi
      let l ← bndOr A h 0 lo
      let sz ← sizeT P e
      .ok (.v (.c (.csl id (if Nat.beq n l then off else off + l * sz) (h - l) (n - l))), .none)
    | none, some (.slice e), .csl id off n cap =>
      chk "slice" (Nat.ble n cap)
      let h ← bndOr A cap n hi
      let l ← bndOr A h 0 lo
      let sz ← sizeT P e
      .ok (.v (.c (.csl id (if Nat.beq cap l then off else off + l * sz) (h - l) (cap - l))), .none)
    | _, _, _ => .fail "slice"
  | .call { callee := .builtin b, args, argTypes } => do
    let vs ← evVs A S args.toList
    .ok (.v (← builtS P b argTypes vs), .none)
  | _ => .fail "op"

/-! ### Rows from outside -/
/-- A comparison told by linear reckoning. -/
def linQ : X → Bool
  | .cmp op a b => match linGC A op a b with
    | some b => b
    | none => false
  | _ => false
/-- A truth that holds. -/
def sureB (c : X) : Bool :=
  match c.dec A with
  | some b => b
  | none => if linQ A c then true else X.prove 16 60 A c
/-- A row's length: a variable, where it is known to be one. -/
def lenX (e : Nat) : List (X × Bool) → X
  | [] => .fi (rowF e 63) .unit
  | (.cmp .eql (.iv v) (.fi f .unit), true) :: l => if Nat.beq f (rowF e 63) then .iv v else lenX e l
  | _ :: l => lenX e l
/-- An element of a row that there is. -/
def inRow (e : Nat) (ix : X) : Bool :=
  sureB A (.fb (rowF e 62) .unit) && sureB A (mkCmp .geq ix (.lit 0)) && sureB A (mkCmp .lss ix (lenX e A.tr))
def rowC (e j : Nat) (ix : X) : LK → SC
  | .i k => .ci k (.wrap k (.fi (rowF e j) (fixA ix)))
  | .b => .cb (.fb (rowF e j) (fixA ix))
def rowCs (e : Nat) (ix : X) : Nat → List LK → List SC
  | _, [] => []
  | j, k :: l => rowC e j ix k :: rowCs e ix (j + 1) l
/-- Two numbers of a row together. -/
def addRow (off n : X) : R X :=
  match off, n with
  | .lit (.ofNat 0), n => .ok n
  | off, .lit (.ofNat 0) => .ok off
  | off, n => if sureB A (mkCmp .geq off (.lit 0)) && sureB A (mkCmp .leq off (.lit 1000000000)) && sureB A (mkCmp .geq n (.lit 0)) && sureB A (mkCmp .leq n (.lit 1000000000)) then .ok (mkBin .add .i64 off n) else .fail "row place"

/-- A number, as a literal, if it is known to be one. -/
def litN (n : X) : X := match n with
  | .lit z => .lit z
  | n => litR A n
def opR (S : St) (o : Op) : R (ST × Ef) :=
  match o with
  | .load t a => do
    match ← evC A S a with
    | .xp e ix fld =>
      chk "row" (inRow A e ix)
      let v ← partS P t (rowCs e ix 0 (ksOf e)) fld
      .ok (.v v, .none)
    | _ => .fail "row load"
  | .nilCheck x => do
    match ← evC A S x with
    | .xp e ix fld => .ok (.v (.c (.xp e ix fld)), .none)
    | _ => .fail "row nilCheck"
  | .fieldAddr t x f => do
    match ← evC A S x with
    | .xp e ix fld =>
      match P.underlying t with
      | some (.struct fs) =>
        let fd ← getR "field" fs.toList f
        let n ← sizeT P fd.type
        chk "field empty" (Nat.ble 1 n)
        .ok (.v (.c (.xp e ix (fld + fd.offset))), .none)
      | _ => .fail "row fieldAddr"
    | _ => .fail "row fieldAddr"
  | .indexAddr t x ix => do
    let (_, n0) ← asI (← evC A S ix)
    let n := litN A n0
    match P.underlying t, ← evC A S x with
    | some (.slice el), .xs e off l _ =>
      let sz ← sizeT P el
      chk "row size" (Nat.beq sz (strideOf e))
      let b ← decS A (mkCmp .geq n (.lit 0))
      chk "row index" b
      let c ← decS A (mkCmp .lss n l)
      chk "row index" c
      chk "row index" (sureB A (mkCmp .geq off (.lit 0)))
      chk "row index" (inRow A e n)
      let i ← addRow A off n
      .ok (.v (.c (.xp e i 0)), .none)
    | _, _ => .fail "row indexAddr"
  | .slice t x lo hi mx => do
    let lo ← optC A S lo
    let hi ← optC A S hi
    match mx, lo, hi, P.underlying t, ← evC A S x with
    | none, none, some (.ci .i64 h), some (.slice el), .xs e off _ cap =>
      let sz ← sizeT P el
      chk "row size" (Nat.beq sz (strideOf e))
      let b ← decS A (mkCmp .geq h (.lit 0))
      chk "row bound" b
      let c ← decS A (mkCmp .leq h cap)
      chk "row bound" c
      .ok (.v (.c (.xs e off h cap)), .none)
    | _, _, _, _, _ => .fail "row slice"
  | .call { callee := .builtin .len, args, argTypes } => do
    let vs ← evVs A S args.toList
    match argTypes[0]? with
    | some t => match P.underlying t, vs with
      | some (.slice _), [.c (.xs _ _ l _)] => do
        chk "row len" (sureB A (mkCmp .geq l (.lit 0)))
        .ok (.v (.c (.ci .i64 l)), .none)
      | some (.slice _), [.c (.cv (.slice none 0 0))] => .ok (.v (.c (.ci .i64 (.lit 0))), .none)
      | _, _ => .fail "row len"
    | none => .fail "row len"
  | _ => .fail "op"
/-! ### Slices that grow -/
/-- Zero elements, cell by cell. -/
def litCs : List SC → List SC → Bool
  | [], [] => true
  | .ci k (.lit a) :: l, .ci k' (.lit b) :: m => Nat.beq (kN k) (kN k') && intB a b && litCs l m
  | .cb (.bl a) :: l, .cb (.bl b) :: m => boolB a b && litCs l m
  | _, _ => false
def zzB : List SC → List SC → Bool
  | [.zz a], [.zz b] => X.eqb a b
  | _, _ => false
def spB : Option (Nat × Nat × List SC) → Option (Nat × Nat × List SC) → Bool
  | none, none => true
  | some (p, n, z), some (q, m, y) => Nat.beq p q && Nat.beq n m && (litCs z y || zzB z y)
  | _, _ => false
/-- The first elements of a row from outside. -/
def rowsX (e : Nat) : Nat → Nat → List SC
  | 0, _ => []
  | n + 1, i => rowCs e (.lit (.ofNat i)) 0 (ksOf e) ++ rowsX e n (i + 1)
/-- How many elements a slice has that is known whole, and their cells. -/
def rowOf (S : St) (sz : Nat) : SC → R (Nat × List SC)
  | .csl id off n _ => do
    let b ← blkAt S id
    let l ← ofOpt "row cells" (cut b.cells off (n * sz))
    .ok (n, l)
  | .osl id n => do
    let b ← blkAt S id
    let l ← ofOpt "row cells" (cut b.cells 0 (n * sz))
    .ok (n, l)
  | .xs e (.lit (.ofNat 0)) l _ =>
    match litR A l with
    | .lit (.ofNat (n + 1)) => do
      chk "row cells" (Nat.beq sz (strideOf e) && Nat.beq (len (ksOf e)) sz && inRow A e (.lit (.ofNat n)))
      .ok (n + 1, rowsX e (n + 1) 0)
    | _ => .fail "row length"
  | _ => .fail "no row"
def opP (S : St) (o : Op) : R (ST × Ef) :=
  match o with
  | .buildSlice t n parts => do
    match P.underlying t, n, parts.toList with
    | some (.slice e), 0, [] =>
      let sz ← sizeT P e
      .ok (.v (.c (.csl (len S.hp) 0 (0 * sz) 0)), .new ⟨[], e, none⟩)
    | _, _, _ => .fail "buildSlice type"
  | .indexAddr t x ix => do
    let (_, n) ← asI (← evC A S ix)
    match P.underlying t, ← evC A S x with
    | some (.slice e), .osl id m =>
      let j ← idxS A n m
      let sz ← sizeT P e
      .ok (.v (.c (.cp id (0 + j * sz))), .none)
    | _, _ => .fail "indexAddr"
  | .slice t x lo hi mx => do
    let lo ← optC A S lo
    let hi ← optC A S hi
    let mx ← optC A S mx
    match mx, P.underlying t, ← evC A S x with
    | some mx, some (.slice e), .csl id off n cap =>
      chk "slice" (Nat.ble n cap && (match hi with | some _ => true | none => false))
      let m ← boundS A cap mx
      let h ← bndOr A m m hi
      let l ← bndOr A h 0 lo
      let sz ← sizeT P e
      .ok (.v (.c (.csl id (if Nat.beq m l then off else off + l * sz) (h - l) (m - l))), .none)
    | _, _, _ => .fail "slice"
  | .call { callee := .builtin b, args, argTypes } => do
    let vs ← evVs A S args.toList
    match b, argTypes.toList, vs with
    | .len, [t], [.c (.osl _ n)] => match P.underlying t with
      | some (.slice _) => .ok (.v (.c (.ci .i64 (.lit (.ofNat n)))), .none)
      | _ => .fail "len"
    | .append, [t, t'], [.c s, .c x] => do
      chk "append types" (Nat.beq t t')
      match P.underlying t with
      | some (.slice e) =>
        let i ← ofOpt "info" (P.info? e)
        let z ← zeroT P e
        let sz := i.size
        let (m, news) ← rowOf A S sz x
        chk "append size" (Nat.ble 1 m && Nat.beq (len z) sz && Nat.ble 1 sz && Nat.ble i.bytes 1000 && Nat.ble m 100000 && allB SC.plain news && litCs z z)
        match s with
        | .cv (.slice none 0 0) => .ok (.v (.c (.osl (len S.hp) m)), .app none ⟨news, e, some (len S.hp + 1, m, z)⟩)
        | .csl id off n cap =>
          let (_, olds) ← rowOf A S sz (.csl id off n cap)
          chk "append place" (Nat.ble (cap + 1) (n + m) && Nat.ble n 100000)
          .ok (.v (.c (.osl (len S.hp) (n + m))), .app none ⟨olds ++ news, e, some (len S.hp + 1, n + m, z)⟩)
        | .osl id n =>
          let b ← blkAt S id
          chk "append open" (Nat.beq (len b.cells) (n * sz) && Nat.beq b.elem e && spB b.sp (some (id + 1, n, z)) && Nat.ble n 100000)
          .ok (.v (.c (.osl (len S.hp) (n + m))), .app (some id) ⟨b.cells ++ news, e, some (len S.hp + 1, n + m, z)⟩)
        | _ => .fail "append to"
      | _ => .fail "append type"
    | _, _, _ => .fail "builtin"
  | _ => .fail "op"
/-! ### Texts: what is done with them -/
def decP (c : X) : R Bool :=
  match c.dec A with
  | some b => .ok b
  | none => if linQ A c then .ok true else if linQ A (mkNot c) then .ok false else if X.prove 16 60 A c then .ok true else if X.prove 16 60 A (mkNot c) then .ok false else .split (c.atom A)
def byteT (e : Nat) (ix : X) : X := .wrap .u8 (.fi (rowF e 0) (fixA ix))
def bytesX : List UInt8 → List X
  | [] => []
  | b :: l => .lit (.ofNat b.toNat) :: bytesX l
def asStr : SC → R (List Seg)
  | .str l => .ok l
  | .cv (.string s) => .ok (match s.data.toList with | [] => [] | l => [.bs (bytesX l)])
  | _ => .fail "no text"
def segLen : Seg → X
  | .bs l => .lit (.ofNat (len l))
  | .zs n => n
  | .xt _ _ n => n
def lenOk : Seg → Bool
  | .bs _ => true
  | .zs n => sureB A (mkCmp .geq n (.lit 0))
  | .xt _ _ n => sureB A (mkCmp .geq n (.lit 0))
def segsLen : List Seg → R X
  | [] => .ok (.lit 0)
  | s :: l => do
    chk "text length" (lenOk A s)
    match l with
    | [] => .ok (segLen s)
    | l => do
      let n ← segsLen l
      addRow A (segLen s) n
/-- One number less another one that is no greater. -/
def subT (n m : X) : R X :=
  match m with
  | .lit (.ofNat 0) => .ok n
  | m => if sureB A (mkCmp .geq m (.lit 0)) && sureB A (mkCmp .leq m n) && sureB A (mkCmp .leq n (.lit 9223372036854775807)) then .ok (mkBin .sub .i64 n m) else .fail "text place"
def segIdx : List Seg → X → R X
  | [], _ => .fail "text index"
  | s :: r, ix => do
    chk "text index" (lenOk A s)
    if ← decP A (mkCmp .lss ix (segLen s)) then
      match s with
      | .bs l => do
        let j ← idxS A ix (len l)
        let x ← getR "text byte" l j
        .ok (wrapR A .u8 x)
      | .zs _ => .ok (.lit 0)
      | .xt e o _ => do
        chk "text index" (sureB A (mkCmp .geq o (.lit 0)))
        let i ← addRow A o ix
        .ok (byteT e i)
    else do
      let k ← subT A ix (segLen s)
      segIdx r k
def dropSeg : List Seg → X → R (List Seg)
  | [], k => do
    chk "text cut" (sureB A (mkCmp .eql k (.lit 0)))
    .ok []
  | s :: r, k => do
    match k with
    | .lit (.ofNat 0) => .ok (s :: r)
    | k => do
      chk "text cut" (lenOk A s)
      if ← decP A (mkCmp .leq (segLen s) k) then do
        let k' ← subT A k (segLen s)
        dropSeg r k'
      else
        match s with
        | .bs l => do
          let j ← idxS A k (len l)
          .ok (.bs (dropN j l) :: r)
        | .zs n => do
          let m ← subT A n k
          .ok (.zs m :: r)
        | .xt e o n => do
          chk "text cut" (sureB A (mkCmp .geq o (.lit 0)))
          let m ← subT A n k
          let i ← addRow A o k
          .ok (.xt e i m :: r)
def takeSeg : List Seg → X → R (List Seg)
  | [], k => do
    chk "text cut" (sureB A (mkCmp .eql k (.lit 0)))
    .ok []
  | s :: r, k => do
    match k with
    | .lit (.ofNat 0) => .ok []
    | k => do
      chk "text cut" (lenOk A s)
      if ← decP A (mkCmp .leq (segLen s) k) then do
        let k' ← subT A k (segLen s)
        let r' ← takeSeg r k'
        .ok (s :: r')
      else
        match s with
        | .bs l => do
          let j ← idxS A k (len l)
          .ok [.bs (takeN j l)]
        | .zs _ => .ok [.zs k]
        | .xt e o _ => .ok [.xt e o k]
def xsB : List X → List X → Bool
  | [], [] => true
  | a :: l, b :: m => X.eqb a b && xsB l m
  | _, _ => false
def segB : Seg → Seg → Bool
  | .bs l, .bs m => xsB l m
  | .zs n, .zs m => X.eqb n m
  | .xt e o n, .xt e' o' n' => Nat.beq e e' && X.eqb o o' && X.eqb n n'
  | _, _ => false
def segsB : List Seg → List Seg → Bool
  | [], [] => true
  | a :: l, b :: m => segB a b && segsB l m
  | _, _ => false
def isZeroX : X → Bool
  | .lit (.ofNat 0) => true
  | _ => false
/-- Whether two texts are the same. -/
def eqT : Nat → List Seg → List Seg → R X
  | 0, _, _ => .fail "texts"
  | _ + 1, [], [] => .ok (.bl true)
  | _ + 1, [], l => do
    let n ← segsLen A l
    .ok (mkCmp .eql n (.lit 0))
  | _ + 1, l, [] => do
    let n ← segsLen A l
    .ok (mkCmp .eql n (.lit 0))
  | d + 1, s :: a, t :: b =>
    if segB s t then eqT d a b else
    match s, t with
    | .bs [], t => eqT d a (t :: b)
    | s, .bs [] => eqT d (s :: a) b
    | .bs (x :: l), .bs (y :: m) =>
      match mkCmp .eql (wrapR A .u8 x) (wrapR A .u8 y) with
      | .bl false => .ok (.bl false)
      | c => do
        let r ← eqT d (.bs l :: a) (.bs m :: b)
        .ok (mkAnd c r)
    | .bs (x :: l), .zs n => do
      if ← decP A (mkCmp .geq n (.lit 1)) then do
        let n' ← subT A n (.lit 1)
        let r ← eqT d (.bs l :: a) (.zs n' :: b)
        .ok (mkAnd (mkCmp .eql (wrapR A .u8 x) (.lit 0)) r)
      else eqT d (.bs (x :: l) :: a) b
    | .zs n, .bs (x :: l) => do
      if ← decP A (mkCmp .geq n (.lit 1)) then do
        let n' ← subT A n (.lit 1)
        let r ← eqT d (.zs n' :: a) (.bs l :: b)
        .ok (mkAnd (mkCmp .eql (wrapR A .u8 x) (.lit 0)) r)
      else eqT d a (.bs (x :: l) :: b)
    | .bs (x :: l), .xt e o n => do
      chk "text cut" (sureB A (mkCmp .geq o (.lit 0)))
      if ← decP A (mkCmp .geq n (.lit 1)) then do
        let n' ← subT A n (.lit 1)
        let o' ← addRow A o (.lit 1)
        let r ← eqT d (.bs l :: a) (.xt e o' n' :: b)
        .ok (mkAnd (mkCmp .eql (wrapR A .u8 x) (byteT e o)) r)
      else eqT d (.bs (x :: l) :: a) b
    | .xt e o n, .bs (x :: l) => do
      chk "text cut" (sureB A (mkCmp .geq o (.lit 0)))
      if ← decP A (mkCmp .geq n (.lit 1)) then do
        let n' ← subT A n (.lit 1)
        let o' ← addRow A o (.lit 1)
        let r ← eqT d (.xt e o' n' :: a) (.bs l :: b)
        .ok (mkAnd (mkCmp .eql (wrapR A .u8 x) (byteT e o)) r)
      else eqT d a (.bs (x :: l) :: b)
    | .zs n, .zs m => do
      chk "text zeros" (lenOk A (.zs n) && lenOk A (.zs m))
      if ← decP A (mkCmp .leq n m) then do
        let k ← subT A m n
        eqT d a (if isZeroX k then b else .zs k :: b)
      else do
        let k ← subT A n m
        eqT d (.zs k :: a) b
    | .xt e o n, .xt e' o' m => do
      chk "texts" (Nat.beq e e' && sureB A (mkCmp .eql o o'))
      if ← decP A (mkCmp .eql n m) then eqT d a b else .fail "texts"
    | _, _ => .fail "texts"
/-- Bytes of cells. -/
def bytesC : List SC → R (List X)
  | [] => .ok []
  | .ci .u8 x :: l => do .ok (x :: (← bytesC l))
  | _ => .fail "bytes"
def cellsB : List X → List SC
  | [] => []
  | x :: l => .ci .u8 (wrapR A .u8 x) :: cellsB l
/-- All bytes of a text, if they are known one by one. -/
def allBs : List Seg → R (List X)
  | [] => .ok []
  | .bs l :: r => do .ok (l ++ (← allBs r))
  | _ => .fail "text bytes"
def nnB (x : X) : Bool :=
  match X.rng A.rg x with
  | some (.ofNat _, _) => true
  | _ => sureB A (mkCmp .geq x (.lit 0))
def oneSeg : List X → List Seg
  | [] => []
  | bs => [.bs bs]
def litBnd (d : X) : Option SC → R X
  | none => .ok d
  | some (.ci _ x) => .ok x
  | _ => .fail "text bound"
def opT (S : St) (o : Op) : R (ST × Ef) :=
  match o with
  | .binOp op _ x y _ => do
    let a ← asStr (← evC A S x)
    let b ← asStr (← evC A S y)
    match op with
    | .add => do
      let n ← segsLen A (a ++ b)
      chk "text sum" (sureB A (mkCmp .leq n (.lit 2000000000)))
      .ok (.v (.c (.str (a ++ b))), .none)
    | .eql => do .ok (.v (.c (.cb (← eqT A 1000 a b))), .none)
    | .neq => do .ok (.v (.c (.cb (mkNot (← eqT A 1000 a b)))), .none)
    | _ => .fail "text operation"
  | .index t x ix => do
    let (_, n0) ← asI (← evC A S ix)
    let l ← asStr (← evC A S x)
    match P.underlying t with
    | some .string => do
      chk "text index" (sureB A (mkCmp .geq n0 (.lit 0)))
      .ok (.v (.c (.ci .u8 (← segIdx A l n0))), .none)
    | _ => .fail "text index"
  | .slice t x lo hi mx => do
    let lo ← optC A S lo
    let hi ← optC A S hi
    let l ← asStr (← evC A S x)
    match mx, P.underlying t with
    | none, some .string => do
      let n ← segsLen A l
      let h ← litBnd n hi
      let b ← litBnd (.lit 0) lo
      let c1 ← decP A (mkCmp .geq b (.lit 0))
      let c2 ← decP A (mkCmp .leq b h)
      let c3 ← decP A (mkCmp .leq h n)
      chk "text bounds" (c1 && c2 && c3)
      let r ← dropSeg A l b
      let k ← subT A h b
      let r' ← takeSeg A r k
      .ok (.v (.c (.str r')), .none)
    | _, _ => .fail "text slice"
  | .convert src dst x => do
    match P.underlying src, P.underlying dst with
    | some (.slice e), some .string =>
      match P.underlying e with
      | some (.int .u8) => do
        match ← evC A S x with
        | .zsl id n => do
          let b ← blkAt S id
          match b.cells, b.sp with
          | [], some (_, _, [.zz m]) => do
            chk "text zeros" (X.eqb n m)
            .ok (.v (.c (.str [.zs n])), .none)
          | _, _ => .fail "text zeros"
        | .csl id off n _ => do
          let b ← blkAt S id
          let l ← ofOpt "row cells" (cut b.cells off n)
          let bs ← bytesC l
          chk "bytes" (allB (nnB A) bs)
          .ok (.v (.c (.str (oneSeg bs))), .none)
        | .cv (.slice none _ _) => .ok (.v (.c (.str [])), .none)
        | _ => .fail "convert"
      | _ => .fail "convert"
    | _, _ => .fail "convert"
  | .makeSlice t l c => do
    let (_, n) ← asI (← evC A S l)
    let (_, m) ← asI (← evC A S c)
    match P.underlying t with
    | some (.slice e) => do
      let z ← zeroT P e
      let i ← ofOpt "info" (P.info? e)
      chk "makeSlice" (X.eqb n m && litCs z [.ci .u8 (.lit 0)] && Nat.beq i.size 1 && Nat.ble i.bytes 1 && sureB A (mkCmp .geq n (.lit 0)) && sureB A (mkCmp .leq n (.lit 1000000000)))
      .ok (.v (.c (.zsl (len S.hp) n)), .new ⟨[], e, some (0, 0, [.zz n])⟩)
    | _ => .fail "makeSlice"
  | .call { callee := .builtin b, args, argTypes } => do
    let vs ← evVs A S args.toList
    match b, argTypes.toList, vs with
    | .len, [t], [.c c] => do
      let l ← asStr c
      match P.underlying t with
      | some .string => .ok (.v (.c (.ci .i64 (← segsLen A l))), .none)
      | _ => .fail "len"
    | .copy, [t, u], [.c (.csl id off n _), .c c] => do
      let l ← asStr c
      match P.underlying t, P.underlying u with
      | some (.slice e), some .string => do
        let sz ← sizeT P e
        let bs ← allBs l
        let b ← blkAt S id
        chk "copy" (Nat.beq sz 1 && Nat.ble (len bs) n && Nat.ble 1 (len bs) && Nat.ble (off + len bs) (len b.cells))
        .ok (.v (.c (.ci .i64 (.lit (.ofNat (len bs))))), .upd id ⟨lay b.cells off (cellsB A bs), b.elem, b.sp⟩)
      | _, _ => .fail "copy"
    | _, _, _ => .fail "builtin"
  | _ => .fail "op"
def opA (S : St) (o : Op) : R (ST × Ef) :=
  match opS P A S o with
  | .fail m => match opR P A S o with
    | .fail _ => match opP P A S o with
      | .fail m' => match opT P A S o with
        | .fail m'' => .fail (m ++ " or " ++ m' ++ " or " ++ m'')
        | r => r
      | r => r
    | r => r
  | r => r

/-- The function, and its arguments. -/
def callee (S : St) (c : Call) : R (FuncId × List SV) :=
  match c.callee with
  | .value f => do
    match ← evC A S f with
    | .cf g caps =>
      let vs ← evVs A S c.args.toList
      .ok (g, vs ++ caps.map fun p => SV.c (.cp p.1 p.2))
    | _ => .fail "callee"
  | _ => .fail "callee"

/-- The state behind a value. -/
def St.put (S : St) (d : Option Tmp) (v : ST) : R St :=
  match d with
  | none => .ok S
  | some t => if v.fits (len S.hp) then .ok { S with tm := setAt S.tm t (some v) } else .fail "scope"

def isZz : List SC → Bool
  | [.zz _] => true
  | _ => false
def spOk (n : Nat) : Option (Nat × Nat × List SC) → Bool
  | none => true
  | some (ph, _, z) => isZz z || (Nat.ble (ph + 1) n && allB (SC.fits n) z)
def Blk.ok (b : Blk) (n : Nat) : Bool := allB (SC.fits n) b.cells && spOk n b.sp

def St.eff (S : St) : Ef → R St
  | .none => .ok S
  | .new b => if b.ok (len S.hp) then .ok { S with hp := S.hp ++ [some b] } else .fail "scope"
  | .upd id b => if b.ok (len S.hp) then .ok { S with hp := setAt S.hp id (some b), wr := if Nat.ble S.base id then S.wr else id :: S.wr } else .fail "scope"
  | .app none b => if b.ok (len S.hp + 2) then .ok { S with hp := S.hp ++ [some b, none] } else .fail "scope"
  | .app (some id) b => if b.ok (len S.hp + 2) then .ok { S with hp := setAt S.hp id none ++ [some b, none], wr := if Nat.ble S.base id then S.wr else id :: S.wr } else .fail "scope"

inductive Ex where
  | normal
  | exit (id : Nat)
  | ret

/-- Is an operation carried out? 'none': by a truth. -/
inductive Wt where
  | yes | no
  | iff (c : X)

/-- When a guard says so. -/
def guardX (want : Bool) : ST → R X
  | .v (.c (.cb x)) => .ok (if want then x else mkNot x)
  | .tup [] => .ok (.bl false)
  | .ifv c x => do .ok (mkAnd c (← guardX want x))
  | _ => .fail "guard"

def wantedS (S : St) (ops : List Oper) (o : Oper) : R Wt :=
  match o.guard with
  | none => .ok .yes
  | some (j, want) => do
    let oj ← getR "guard" ops j
    match oj.dst with
    | none => .fail "guard"
    | some d =>
      match nth S.tm d with
      | some (some v) => do
        let c ← guardX want v
        match c.dec A with
        | some true => .ok .yes
        | some false => .ok .no
        | none => .ok (.iff c)
      | _ => .fail "guard"

/-- One operation that is carried out. -/
def actS (A : Known) (callf : Known → FuncId → List SV → St → R (ST × St)) (o : Oper) (S : St) : R (ST × St) :=
  match o.op with
  | .call c =>
    match c.callee with
    | .builtin _ => do
      let (v, e) ← opA P A S o.op
      .ok (v, ← S.eff e)
    | _ => do
      let (f, vs) ← callee A S c
      callf A f vs S
  | op => do
    let (v, e) ← opA P A S op
    .ok (v, ← S.eff e)

/-- One operation. -/
def stepS (callf : Known → FuncId → List SV → St → R (ST × St)) (ops : List Oper) (o : Oper) (S : St) : R St := do
  match ← wantedS A S ops o with
  | .yes =>
    let (v, S1) ← actS P A callf o S
    S1.put o.dst v
  | .no => S.put o.dst (.tup [])
  | .iff c =>
    match actS P (A.assume c true) callf o { S with base := len S.hp, wr := [] } with
    | .ok (v, S1) =>
      match S1.wr with
      | [] => if v.fits (len S.hp) then S.put o.dst (.ifv c v) else .split (c.atom A)
      | _ => .split (c.atom A)
    | .split d => .split d
    | .fail m => .fail m

def runS (callf : Known → FuncId → List SV → St → R (ST × St)) (ops : List Oper) : List Oper → St → R St
  | [], S => .ok S
  | o :: l, S => do
    let S1 ← stepS P A callf ops o S
    runS callf ops l S1

/-- The first 'n' blocks alone, if all else is of them alone. -/
def okHp (n : Nat) : List (Option Blk) → Bool
  | [] => true
  | none :: l => okHp n l
  | some b :: l => b.ok n && okHp n l

/-! ### A region that draws its order -/
/-- What an operation waits for, as bits. -/
def bits1 (acc : List Nat) (o : Oper) : R Nat :=
  go acc o.after.toList 0
where
  go (acc : List Nat) : List Edge → Nat → R Nat
    | [], s => .ok s
    | e :: l, s => if Region.binds .any e then do
        let m ← getR "edge" acc e.on
        go acc l (s ||| 2 ^ e.on ||| m)
      else go acc l s

def bitsAll : List Oper → List Nat → R (List Nat)
  | [], acc => .ok acc
  | o :: l, acc => do bitsAll l (acc ++ [← bits1 acc o])

def rangeL : Nat → Nat → List Nat
  | _, 0 => []
  | a, n + 1 => a :: rangeL (a + 1) n

def below (n : Nat) : List Nat → List Nat
  | [] => []
  | m :: l => if Nat.ble (m + 1) n then m :: below n l else below n l

/-- What each operation writes, in the order of the text: slots, blocks. -/
def oracle (callf : Known → FuncId → List SV → St → R (ST × St)) (ops : List Oper) : List Oper → St → R (List (List Nat × List Nat))
  | [], _ => .ok []
  | o :: l, S => do
    let S1 ← stepS P A callf ops o { S with base := len S.hp, wr := [] }
    let r ← oracle callf ops l S1
    .ok ((o.dst.toList, below (len S.hp) S1.wr ++ rangeL (len S.hp) (len S1.hp - len S.hp)) :: r)

def unord (bs : List Nat) (bi : Nat) (i j : Nat) : Bool :=
  !Nat.beq i j && !bi.testBit j && !((nth bs j).getD 0).testBit i

def disj (l m : List Nat) : Bool := allB (fun x => !mem x m) l
def sub (l m : List Nat) : Bool := allB (fun x => mem x m) l

def strike {α : Type} : List (Option α) → List Nat → List (Option α)
  | l, [] => l
  | l, n :: ns => strike (setAt l n none) ns

/-- What is struck: by a number's bits. -/
def wipe {α : Type} : List (Option α) → Nat → List (Option α)
  | [], _ => []
  | x :: l, m => if Nat.beq m 0 then x :: l else (match Nat.mod m 2 with | 0 => x | _ => none) :: wipe l (Nat.div m 2)
def bitsL : List Nat → Nat → Nat
  | [], m => m
  | n :: l, m => bitsL l (Nat.lor m (Nat.shiftLeft 1 n))
def hdM : List Nat → Nat
  | [] => 0
  | b :: _ => b
def tlM : List Nat → List Nat
  | [] => []
  | _ :: r => r
def maskG (bi i : Nat) (oi : List Nat × List Nat) : List (List Nat × List Nat) → List Nat → Nat → Nat → Nat → R (Nat × Nat)
  | [], _, _, tm, hm => .ok (tm, hm)
  | oj :: l, bl, j, tm, hm =>
    if !Nat.beq i j && !bi.testBit j && !((hdM bl).testBit i) then
      if disj oi.1 oj.1 && disj oi.2 oj.2 then maskG bi i oi l (tlM bl) (j + 1) (bitsL oj.1 tm) (bitsL oj.2 hm)
      else .fail "drawn two write one thing"
    else maskG bi i oi l (tlM bl) (j + 1) tm hm
/-- What unordered operations write is struck; nor may both write one thing. -/
def maskS (bs : List Nat) (bi i : Nat) (oi : List Nat × List Nat) (O : List (List Nat × List Nat)) (S : St) : R St :=
  match maskG bi i oi O bs 0 0 0 with
  | .ok (tm, hm) => .ok { S with tm := wipe S.tm tm, hp := wipe S.hp hm }
  | .split c => .split c
  | .fail m => .fail m

/-- The blocks that unordered operations write. -/
def badS (bs : List Nat) (bi i : Nat) : List (List Nat × List Nat) → Nat → List Nat
  | [], _ => []
  | oj :: l, j => if unord bs bi i j then oj.2 ++ badS bs bi i l (j + 1) else badS bs bi i l (j + 1)

/-- What one operation has done: its slot, how many blocks there were, the state behind it. -/
structure Rec where
  d : Option Tmp
  n0 : Nat
  S1 : St

def at2 {α : Type} (l : List (Option α)) (n : Nat) : Option α :=
  match nth l n with
  | some x => x
  | none => none

def copyHp (from_ : List (Option Blk)) : List Nat → List (Option Blk) → List (Option Blk)
  | [], hp => hp
  | id :: l, hp => copyHp from_ l (setAt hp id (at2 from_ id))
def addWr (base : Nat) : List Nat → List Nat → List Nat
  | [], wr => wr
  | id :: l, wr => addWr base l (if Nat.ble base id then wr else id :: wr)

def Rec.upd (r : Rec) (T : St) : St :=
  { tm := match r.d with
      | none => T.tm
      | some t => setAt T.tm t (at2 r.S1.tm t)
    hp := copyHp r.S1.hp r.S1.wr T.hp ++ dropN r.n0 r.S1.hp
    base := T.base
    wr := addWr T.base r.S1.wr T.wr }

def optT (p : ST → Bool) : Option ST → Bool
  | some v => p v
  | none => true
def optB (p : Blk → Bool) : Option Blk → Bool
  | some b => p b
  | none => true
def spAvoids (bad : List Nat) : Option (Nat × Nat × List SC) → Bool
  | none => true
  | some (ph, _, z) => isZz z || (!mem ph bad && allB (SC.avoids bad) z)
def Blk.avoids (bad : List Nat) (b : Blk) : Bool := allB (SC.avoids bad) b.cells && spAvoids bad b.sp

/-- All that an operation has written. -/
def Rec.all (r : Rec) (p : ST → Bool) (q : Blk → Bool) : Bool :=
  (match r.d with
    | none => true
    | some t => optT p (at2 r.S1.tm t)) &&
  allB (fun id => optB q (at2 r.S1.hp id)) r.S1.wr && allB (optB q) (dropN r.n0 r.S1.hp)

def drawn2 (callf : Known → FuncId → List SV → St → R (ST × St)) (ops : List Oper) (bs : List Nat) (O : List (List Nat × List Nat)) : List Oper → Nat → St → R St
  | [], _, T => .ok T
  | o :: l, i, T => do
    let bi ← getR "bits" bs i
    let oi ← getR "oracle" O i
    let M ← maskS bs bi i oi O { T with base := len T.hp, wr := [] }
    let S1 ← stepS P A callf ops o M
    let r : Rec := ⟨o.dst, len T.hp, S1⟩
    chk "drawn beside the oracle" (sub o.dst.toList oi.1 && sub S1.wr oi.2 && sub (rangeL (len T.hp) (len S1.hp - len T.hp)) oi.2)
    chk "drawn names" (allB (fun id => match at2 M.hp id with | some _ => true | none => false) S1.wr && r.all (ST.avoids (badS bs bi i O 0)) (Blk.avoids (badS bs bi i O 0)))
    chk "drawn sizes" (r.all (ST.fits (len S1.hp)) (fun b => b.ok (len S1.hp)) && Nat.ble (len T.hp) (len S1.hp) && (match o.dst with | some t => Nat.ble (t + 1) (len T.tm) | none => true))
    drawn2 callf ops bs O l (i + 1) (r.upd T)

/-- A guess of it, that carries out no call. -/
def guess (callf : Known → FuncId → List SV → St → R (ST × St)) (ops : List Oper) : List Oper → St → List (List Nat × List Nat)
  | [], _ => []
  | o :: l, S =>
    let lost : St := match o.dst with
      | some t => { S with tm := setAt S.tm t none }
      | none => S
    match (match o.op with
      | .call c => match c.callee with
        | .builtin _ => true
        | _ => false
      | _ => true) with
    | false => (o.dst.toList, []) :: guess callf ops l lost
    | true => match stepS P A callf ops o { S with base := len S.hp, wr := [] } with
      | .ok S1 => (o.dst.toList, below (len S.hp) S1.wr ++ rangeL (len S.hp) (len S1.hp - len S.hp)) :: guess callf ops l S1
      | _ => (o.dst.toList, match o.op with
        | .store _ a _ => match (do asP (← evC A S a) : R (Nat × Nat)) with
          | .ok (id, _) => [id]
          | _ => []
        | _ => []) :: guess callf ops l lost

def drawnS (callf : Known → FuncId → List SV → St → R (ST × St)) (ops : List Oper) (S : St) : R St := do
  let bs ← bitsAll ops []
  match drawn2 P A callf ops bs (guess P A callf ops ops S) ops 0 S with
  | .ok T => .ok T
  | .split c => .split c
  | .fail _ =>
    let O ← oracle P A callf ops ops S
    drawn2 P A callf ops bs O ops 0 S

/-- A function's results. -/
def resS (S : St) : List ResultVar → R (List SV)
  | [] => .ok []
  | .tmp t :: l => do
    let v ← evV A S (.tmp t)
    let vs ← resS S l
    .ok (v :: vs)
  | .cell t ty :: l => do
    let (id, off) ← asP (← evC A S (.tmp t))
    let v ← loadS P S ty id off
    let vs ← resS S l
    .ok (v :: vs)

def one : List SV → ST
  | [v] => .v v
  | l => .tup l

end

/-! ### Two states made one -/
def valB : Value → Value → Bool
  | .string a, .string b => listB a.data.toList b.data.toList
  | .pointer none, .pointer none => true
  | .slice none n c, .slice none n' c' => Nat.beq n n' && Nat.beq c c'
  | .nilFunc, .nilFunc => true
  | .nilIface, .nilIface => true
  | .map none, .map none => true
  | _, _ => false
where
  listB : List UInt8 → List UInt8 → Bool
    | [], [] => true
    | a :: l, b :: m => Nat.beq a.toNat b.toNat && listB l m
    | _, _ => false

def capsB : List (Nat × Nat) → List (Nat × Nat) → Bool
  | [], [] => true
  | (a, b) :: l, (c, d) :: m => Nat.beq a c && Nat.beq b d && capsB l m
  | _, _ => false

def mergeC (c : X) : SC → SC → Option SC
  | .ci k a, .ci k' b => if Nat.beq (kN k) (kN k') then some (.ci k (mkIte c a b)) else none
  | .cb a, .cb b => some (.cb (mkIteB c a b))
  | .cp a o, .cp b o' => if Nat.beq a b && Nat.beq o o' then some (.cp a o) else none
  | .csl a o n m, .csl b o' n' m' => if Nat.beq a b && Nat.beq o o' && Nat.beq n n' && Nat.beq m m' then some (.csl a o n m) else none
  | .cv v, .cv v' => if valB v v' then some (.cv v) else none
  | .co n, .co n' => if Nat.beq n n' then some (.co n) else none
  | .cf f l, .cf f' l' => if Nat.beq f f' && capsB l l' then some (.cf f l) else none
  | .osl a n, .osl b n' => if Nat.beq a b && Nat.beq n n' then some (.osl a n) else none
  | .xp e x o, .xp e' x' o' => if Nat.beq e e' && Nat.beq o o' then some (.xp e (mkIte c x x') o) else none
  | .str l, .str m => if segsB l m then some (.str l) else none
  | .zsl a n, .zsl b m => if Nat.beq a b && X.eqb n m then some (.zsl a n) else none
  | .xs e o l n, .xs e' o' l' n' => if Nat.beq e e' then some (.xs e (mkIte c o o') (mkIte c l l') (mkIte c n n')) else none
  | _, _ => none

def mergeCs (c : X) : List SC → List SC → Option (List SC)
  | [], [] => some []
  | a :: l, b :: m => match mergeC c a b with
    | some x => match mergeCs c l m with
      | some r => some (x :: r)
      | none => none
    | none => none
  | _, _ => none

def mergeV (c : X) : SV → SV → Option SV
  | .c a, .c b => (mergeC c a b).map .c
  | .agg l, .agg m => (mergeCs c l m).map .agg
  | _, _ => none

def mergeVs (c : X) : List SV → List SV → Option (List SV)
  | [], [] => some []
  | a :: l, b :: m => match mergeV c a b with
    | some x => match mergeVs c l m with
      | some r => some (x :: r)
      | none => none
    | none => none
  | _, _ => none

def mergeT (c : X) : ST → ST → Option ST
  | .v a, .v b => (mergeV c a b).map .v
  | .tup l, .tup m => (mergeVs c l m).map .tup
  | _, _ => none

/-- Two texts, not the same. -/
def strApart : SC → SC → Bool
  | .str l, .str m => !segsB l m
  | .str _, .cv (.string _) => true
  | .cv (.string _), .str _ => true
  | .cv (.string a), .cv (.string b) => !valB (.string a) (.string b)
  | _, _ => false
def strsApart : List SV → List SV → Bool
  | .c a :: l, .c b :: m => if strApart a b then true else strsApart l m
  | _ :: l, _ :: m => strsApart l m
  | _, _ => false
/-- Two pointers, not the same. -/
def apart : Option ST → Option ST → Bool
  | some (.v (.c (.cp a o))), some (.v (.c (.cp b o'))) => !(Nat.beq a b && Nat.beq o o')
  | some (.v (.c (.csl a o n m))), some (.v (.c (.csl b o' n' m'))) => !(Nat.beq a b && Nat.beq o o' && Nat.beq n n' && Nat.beq m m')
  | some (.v (.c (.osl a n))), some (.v (.c (.osl b m))) => !(Nat.beq a b && Nat.beq n m)
  | some (.v (.c a)), some (.v (.c b)) => strApart a b
  | some (.tup l), some (.tup m) => strsApart l m
  | _, _ => false

def mergeTm (c : X) (n : Nat) : List (Option ST) → List (Option ST) → Option (List (Option ST))
  | [], [] => some []
  | a :: l, b :: m => if apart a b then none else match mergeTm c n l m with
    | some r => some ((match a, b with
      | some x, some y => match mergeT c x y with
        | some z => if z.fits n then some z else none
        | none => none
      | _, _ => none) :: r)
    | none => none
  | _, _ => none

/-- The first 'n' blocks of both. -/
def mergeHp (c : X) (n : Nat) : Nat → List (Option Blk) → List (Option Blk) → Option (List (Option Blk))
  | 0, _, _ => some []
  | k + 1, a :: l, b :: m => match mergeHp c n k l m with
    | some r => some ((match a, b with
      | some x, some y => match mergeCs c x.cells y.cells with
        | some z => if Blk.ok ⟨z, x.elem, x.sp⟩ n && Nat.beq x.elem y.elem && spB x.sp y.sp then some ⟨z, x.elem, x.sp⟩ else none
        | none => none
      | _, _ => none) :: r)
    | none => none
  | _ + 1, _, _ => none

def mergeS (c : X) (n : Nat) (S1 S2 : St) : R St :=
  match mergeTm c n S1.tm S2.tm, mergeHp c n n S1.hp S2.hp with
  | some tm, some hp => if allB (fun x => Nat.ble (x + 1) S1.base) (S1.wr ++ S2.wr) && Nat.beq S2.base S1.base && Nat.ble S1.base n then .ok { tm, hp, base := S1.base, wr := S1.wr ++ S2.wr } else .fail "merge"
  | _, _ => .fail "merge"

def trim (n : Nat) (v : ST) (S : St) : St :=
  if v.fits n && okHp n (takeN n S.hp) then { S with hp := takeN n S.hp } else S

/-! ### All ways of a piece of code at once -/
abbrev Outs := List (X × Ex × St)
def exB : Ex → Ex → Bool
  | .normal, .normal => true
  | .exit i, .exit j => Nat.beq i j
  | .ret, .ret => true
  | _, _ => false
/-- The first way that ends so, and the others. -/
def takeK (k : Ex) : Outs → Option (X × St × Outs)
  | [] => none
  | (c, k', S) :: l => if exB k k' then some (c, S, l) else
    match takeK k l with
    | some (c', S', l') => some (c', S', (c, k', S) :: l')
    | none => none
def minN (a b : Nat) : Nat := if Nat.ble a b then a else b
/-- Two states in one, that keeps the first blocks. -/
def mergeL (x : X) (n0 : Nat) (S1 S2 : St) : R St :=
  let n := minN (len S1.hp) (len S2.hp)
  if Nat.ble n0 n then mergeS x n S1 S2 else .fail "merge"
def besides (neg : X) : Outs → Outs
  | [] => []
  | (c, k, S) :: l => (mkAnd neg c, k, S) :: besides neg l
/-- The ways of two pieces: of the first by 'x', else of the second. -/
def joinO (x neg : X) (n0 : Nat) : Outs → Outs → Outs
  | [], R => besides neg R
  | (c1, k, S1) :: l, R =>
    match takeK k R with
    | some (c2, S2, R') =>
      match mergeL x n0 S1 S2 with
      | .ok T => (mkIteB x c1 c2, k, T) :: joinO x neg n0 l R'
      | _ => (mkAnd x c1, k, S1) :: joinO x neg n0 l R
    | none => (mkAnd x c1, k, S1) :: joinO x neg n0 l R

def Known.holds (A : Known) : X → Known
  | .bl _ => A
  | c => A.assume c true
def seqO (f : Known → St → R Outs) (n0 : Nat) (A : Known) : Outs → R Outs
  | [] => .ok []
  | (c, k, S) :: l =>
    match k with
    | .normal =>
      match f (A.holds c) S with
      | .ok L => do
        let R ← seqO f n0 A l
        .ok (joinO c (.bl true) n0 L R)
      | .fail m => if (A.holds c).void then seqO f n0 A l else .fail m
      | .split q => .split q
    | k => do
      let R ← seqO f n0 A l
      .ok (joinO c (.bl true) n0 [(.bl true, k, S)] R)
def blockO (id : Nat) (n0 : Nat) : Outs → Outs
  | [] => []
  | (c, k, S) :: l =>
    let k' := match k with
      | .exit j => if Nat.beq j id then Ex.normal else .exit j
      | k => k
    joinO c (.bl true) n0 [(.bl true, k', S)] (blockO id n0 l)

/-- Asked till it is told: 'd' questions at the most. -/
def asking (run : Known → R Outs) (n0 : Nat) : Nat → Known → R Outs
  | 0, A => run A
  | d + 1, A =>
    match run A with
    | .split c =>
      match asking run n0 d (A.assume c true), asking run n0 d (A.assume c false) with
      | .ok L, .ok R => .ok (joinO c (mkNot c) n0 L R)
      | .fail m, .ok R => if (A.assume c true).void then .ok R else .fail m
      | .ok L, .fail m => if (A.assume c false).void then .ok L else .fail m
      | .fail m, _ => .fail m
      | _, .fail m => .fail m
      | _, _ => .split c
    | r => r

section
variable (P : Program)

/-- What a call brings, of all its ways. -/
def mergeR (n0 : Nat) : List (X × ST × St) → R (ST × St)
  | [] => .fail "no way"
  | (c, v, S) :: l =>
    match l with
    | [] => .ok (v, S)
    | l =>
      match mergeR n0 l with
      | .ok (u, T) =>
        match mergeT c v u, mergeL c n0 S T with
        | some z, .ok T' => .ok (z, T')
        | _, _ => .split c
      | r => r
def waysR (fn : Func) (S0 : St) (A : Known) : Outs → R (List (X × ST × St))
  | [] => .ok []
  | (c, k, S1) :: l =>
    match k with
    | .exit _ => .fail "exit"
    | _ => do
      let vs ← resS P (A.holds c) S1 fn.results.toList
      let r ← waysR fn S0 A l
      .ok ((c, one vs, trim (len S0.hp) (one vs) { S1 with tm := [] }) :: r)

def callWith (run : Known → Code → St → R Outs) (f : FuncId) (args : List SV) (S : St) (A : Known) : R (ST × St) := do
  let fn ← ofOpt "function" (P.funcs[f]?)
  let body ← ofOpt "body" fn.body
  chk "name" (fn.name != "runtime.NumGoroutine")
  chk "arguments" (Nat.ble (len args) fn.ntmps && allB (SV.fits (len S.hp)) args)
  let S0 := { S with tm := args.map (fun v => some (ST.v v)) ++ rep (fn.ntmps - len args) (some (ST.tup [])) }
  let L ← run A body S0
  let l ← waysR P fn S A L
  let (v, T) ← mergeR (len S.hp) l
  .ok (v, { T with tm := S.tm })

def exec (q : Nat) (sum : FuncId → Option (Known → List SV → St → R ST)) : Nat → Known → Code → St → R Outs
  | 0, _, _, _ => .fail "fuel"
  | n + 1, A, c, S =>
    let callf (A : Known) (f : FuncId) (args : List SV) (S : St) : R (ST × St) :=
      match sum f with
      | some g => match g A args S with
        | .ok v => .ok (v, S)
        | _ => callWith P (exec q sum n) f args S A
      | none => callWith P (exec q sum n) f args S A
    match c with
    | .skip => .ok [(.bl true, .normal, S)]
    | .region _ ops draw =>
      asking (fun A => do
        let T ← if draw then drawnS P A callf ops.toList S else runS P A callf ops.toList ops.toList S
        .ok [(.bl true, .normal, T)]) (len S.hp) q A
    | .seq a b => do
      let L ← exec q sum n A a S
      seqO (fun A S => exec q sum n A b S) (len S.hp) A L
    | .cond c t e =>
      asking (fun A => do
        let x ← asB (← evC A S c)
        match x.dec A with
        | some true => exec q sum n A t S
        | some false => exec q sum n A e S
        | none =>
          match exec q sum n (A.assume x true) t S, exec q sum n (A.assume x false) e S with
          | .ok L, .ok R => .ok (joinO x (mkNot x) (len S.hp) L R)
          | .fail m, .ok R => if (A.assume x true).void then .ok R else .fail m
          | .ok L, .fail m => if (A.assume x false).void then .ok L else .fail m
          | .split q, _ => .split q
          | _, .split q => .split q
          | .fail m, .fail _ => .fail m) (len S.hp) q A
    | .block id body => do
      let L ← exec q sum n A body S
      .ok (blockO id (len S.hp) L)
    | .loop body => do
      let L ← exec q sum n A body S
      seqO (fun A S => exec q sum n A (.loop body) S) (len S.hp) A L
    | .exit id => .ok [(.bl true, .exit id, S)]
    | .ret => .ok [(.bl true, .ret, S)]
    | _ => .fail "code"

/-- What comes of a call, way by way. -/
inductive Tree where
  | leaf (v : ST)
  | node (c : X) (t e : Tree)
  | bad (m : String)
  | deep (c : X)

def tree (q : Nat) (sum : FuncId → Option (Known → List SV → St → R ST)) (fuel : Nat) (f : FuncId) (args : List SV) (S : St) : Nat → Known → Tree
  | 0, A => match callWith P (exec P q sum fuel) f args S A with
    | .ok (v, _) => .leaf v
    | .split c => .deep c
    | .fail m => .bad m
  | d + 1, A => match callWith P (exec P q sum fuel) f args S A with
    | .ok (v, _) => .leaf v
    | .split c => .node c (tree q sum fuel f args S d (A.assume c true)) (tree q sum fuel f args S d (A.assume c false))
    | .fail m => .bad m
end
end Go.Sx
