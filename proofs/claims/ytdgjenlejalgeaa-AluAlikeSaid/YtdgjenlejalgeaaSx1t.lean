/- Numbers as bits, each bit a table of all cases. -/
import Derived.Test.YtdgjenlejalgeaaSx1d
namespace Go.Sx

def len {α : Type} : List α → Nat
  | [] => 0
  | _ :: l => len l + 1

def takeN {α : Type} : Nat → List α → List α
  | 0, _ => []
  | _, [] => []
  | n + 1, a :: l => a :: takeN n l
def dropN {α : Type} : Nat → List α → List α
  | 0, l => l
  | _, [] => []
  | n + 1, _ :: l => dropN n l
def rep {α : Type} (n : Nat) (a : α) : List α :=
  match n with
  | 0 => []
  | n + 1 => a :: rep n a

/-! ### Tables: one bit a case -/
/-- A truth in all cases ('none': not known). -/
abbrev TB := Option Nat
/-- A number: its bits, and those behind them. -/
abbrev TI := List TB × TB

def tnot (full : Nat) : TB → TB
  | some a => some (Nat.xor full a)
  | none => none
def tand : TB → TB → TB
  | some a, some b => some (Nat.land a b)
  | some a, none => if Nat.beq a 0 then some 0 else none
  | none, some b => if Nat.beq b 0 then some 0 else none
  | none, none => none
def tor (full : Nat) : TB → TB → TB
  | some a, some b => some (Nat.lor a b)
  | some a, none => if Nat.beq a full then some full else none
  | none, some b => if Nat.beq b full then some full else none
  | none, none => none
def txor : TB → TB → TB
  | some a, some b => some (Nat.xor a b)
  | _, _ => none
def tsame : TB → TB → Bool
  | some a, some b => Nat.beq a b
  | _, _ => false
def tmux (full : Nat) (c a b : TB) : TB :=
  match c with
  | some c => if Nat.beq c 0 then b else if Nat.beq c full then a else
    match a, b with
    | some a, some b => if Nat.beq a b then some a else some (Nat.lor (Nat.land c a) (Nat.land (Nat.xor full c) b))
    | _, _ => none
  | none => if tsame a b then a else none
def tmaj (full : Nat) (x y c : TB) : TB := tor full (tand x y) (tand c (tor full x y))

def hdT (s : TB) : List TB → TB
  | [] => s
  | y :: _ => y
def tlT : List TB → List TB
  | [] => []
  | _ :: l => l
def pushT (b : TB) (r : TI) : TI := match r with | (l, s) => (b :: l, s)

def addS (full : Nat) (sx sy : TB) : List TB → TB → TI
  | [], c => ([txor sx (txor sy c)], tor full (tand sx sy) (tand (tor full sx sy) (tnot full c)))
  | y :: ys, c => pushT (txor sx (txor y c)) (addS full sx sy ys (tmaj full sx y c))
def addL (full : Nat) (sx sy : TB) : List TB → List TB → TB → TI
  | [], ys, c => addS full sx sy ys c
  | x :: xs, ys, c => pushT (txor x (txor (hdT sy ys) c)) (addL full sx sy xs (tlT ys) (tmaj full x (hdT sy ys) c))

/-- Bits behind that say nothing new, struck. -/
def trimL (s : TB) : List TB → List TB
  | [] => []
  | b :: l => match trimL s l with
    | [] => if tsame b s then [] else [b]
    | r => b :: r
def trimI : TI → TI
  | (l, s) => (trimL s l, s)

def notI (full : Nat) : TI → TI
  | (l, s) => (l.map (tnot full), tnot full s)
def addI (full : Nat) : TI → TI → TI
  | (xs, sx), (ys, sy) => trimI (addL full sx sy xs ys (some 0))
def subI' (full : Nat) : TI → TI → TI
  | (xs, sx), (ys, sy) => trimI (addL full sx (tnot full sy) xs (ys.map (tnot full)) (some full))
def andI (b : TB) : TI → TI
  | (l, s) => (l.map (tand b), tand b s)
def zeroI : TI := ([], some 0)
def mulL (full : Nat) (sx : TB) (y : TI) : List TB → TI
  | [] => subI' full zeroI (andI sx y)
  | x :: xs => addI full (andI x y) (pushT (some 0) (mulL full sx y xs))

def muxS (full : Nat) (c sx : TB) : List TB → List TB
  | [] => []
  | y :: ys => tmux full c sx y :: muxS full c sx ys
def muxL (full : Nat) (c sx sy : TB) : List TB → List TB → List TB
  | [], ys => muxS full c sx ys
  | x :: xs, ys => tmux full c x (hdT sy ys) :: muxL full c sx sy xs (tlT ys)
def muxI (full : Nat) (c : TB) : TI → TI → TI
  | (xs, sx), (ys, sy) => trimI (muxL full c sx sy xs ys, tmux full c sx sy)

def takeE (s : TB) : Nat → List TB → List TB
  | 0, _ => []
  | n + 1, [] => s :: takeE s n []
  | n + 1, b :: l => b :: takeE s n l
def nthE (s : TB) : Nat → List TB → TB
  | _, [] => s
  | 0, b :: _ => b
  | n + 1, _ :: l => nthE s n l
def isZ : TB → Bool
  | some a => Nat.beq a 0
  | none => false
def wrapI (k : IntKind) : TI → TI
  | (l, s) =>
    if k.signed then
      if Nat.ble (len l + 1) k.bits then (l, s) else trimI (takeE s (k.bits - 1) l, nthE s (k.bits - 1) l)
    else if isZ s && Nat.ble (len l) k.bits then (l, s) else trimI (takeE s k.bits l, some 0)

/-- The low bits, as a number from 0 on. -/
def lowI (k : IntKind) : TI → List TB
  | (l, s) => if isZ s && Nat.ble (len l) k.bits then l else takeE s k.bits l
def zipT (f : TB → TB → TB) : List TB → List TB → List TB
  | [], ys => ys.map (f (some 0))
  | x :: xs, [] => f x (some 0) :: zipT f xs []
  | x :: xs, y :: ys => f x y :: zipT f xs ys

def natBits (full : Nat) : Nat → Nat → List TB
  | 0, _ => []
  | f + 1, z => (if Nat.beq (Nat.mod z 2) 1 then some full else some 0) :: natBits full f (Nat.div z 2)
def litI (full : Nat) : Int → TI
  | .ofNat z => (natBits full (Nat.log2 z + 1) z, some 0)
  | .negSucc z => ((natBits full (Nat.log2 z + 1) z).map (tnot full), some full)

def shlT (w : Nat) (l : List TB) : List TB := rep w (some 0) ++ l
def shlV (full : Nat) : List TB → Nat → TI → TI
  | [], _, x => x
  | y :: ys, w, x => shlV full ys (2 * w) (muxI full y (shlT w x.1, x.2) x)
def shrV (full : Nat) : List TB → Nat → TI → TI
  | [], _, x => x
  | y :: ys, w, x => shrV full ys (2 * w) (muxI full y (dropN w x.1, x.2) x)

/-- By a number from 1 on: how often, and what is left. -/
def divL (full : Nat) (d : TI) : List TB → List TB × TI
  | [] => ([], zeroI)
  | x :: xs => match divL full d xs with
    | (q, r) =>
      let r' := pushT x r
      let t := subI' full r' d
      let b := tnot full t.2
      (b :: q, muxI full b t r')

def eqS' (full : Nat) (sx sy : TB) : List TB → TB
  | [] => tnot full (txor sx sy)
  | y :: ys => tand (tnot full (txor sx y)) (eqS' full sx sy ys)
def eqL (full : Nat) (sx sy : TB) : List TB → List TB → TB
  | [], ys => eqS' full sx sy ys
  | x :: xs, ys => tand (tnot full (txor x (hdT sy ys))) (eqL full sx sy xs (tlT ys))
def eqI (full : Nat) : TI → TI → TB
  | (xs, sx), (ys, sy) => eqL full sx sy xs ys
def ltI (full : Nat) (a b : TI) : TB := (subI' full a b).2

/-! ### Expressions as tables -/
structure TE where
  full : Nat
  ids : List (Nat × Nat)
  rg : List (Option (Int × Int))
  ops : List X

def findX (x : X) : List X → Nat → Option Nat
  | [], _ => none
  | y :: l, i => if X.eqb y x then some i else findX x l (i + 1)

def assoc (id : Nat) : List (Nat × Nat) → TB
  | [] => none
  | (i, t) :: l => if Nat.beq i id then some t else assoc id l
def ivBits (te : TE) (n : Nat) : Nat → Nat → List TB
  | 0, _ => []
  | c + 1, i => assoc (2 * (66 * n + i)) te.ids :: ivBits te n c (i + 1)
def ivT (te : TE) (n : Nat) : Option TI :=
  match nth te.rg n with
  | some (some (.ofNat _, .ofNat h)) => if Nat.ble (Nat.log2 h) 63 then some (ivBits te n (Nat.log2 h + 1) 0, some 0) else none
  | some (some (l, h)) => if intLe (-9223372036854775808) l && intLe h 9223372036854775807 then some (ivBits te n 63 0, assoc (2 * (66 * n + 63)) te.ids) else none
  | none => none
  | some none => none

def opqAt (te : TE) (i : Nat) : TB := assoc (2 * i + 1) te.ids
def opqF (te : TE) (x : X) : TB :=
  match findX x te.ops 0 with
  | some i => opqAt te i
  | none => none

/-- A number that is taken as a whole, held against a given one. -/
def thrT (te : TE) (op : BinOp) (a : X) (z : Int) : TB :=
  match op with
  | .lss => opqF te (.cmp .lss a (.lit z))
  | .geq => tnot te.full (opqF te (.cmp .lss a (.lit z)))
  | .leq => opqF te (.cmp .lss a (.lit (z + 1)))
  | .gtr => tnot te.full (opqF te (.cmp .lss a (.lit (z + 1))))
  | .eql => tand (tnot te.full (opqF te (.cmp .lss a (.lit z)))) (opqF te (.cmp .lss a (.lit (z + 1))))
  | .neq => tnot te.full (tand (tnot te.full (opqF te (.cmp .lss a (.lit z)))) (opqF te (.cmp .lss a (.lit (z + 1)))))
  | _ => none
def eqO (te : TE) (a b : X) : TB :=
  match findX (.cmp .eql a b) te.ops 0 with
  | some i => opqAt te i
  | none => opqF te (.cmp .eql b a)
def pairT (te : TE) (op : BinOp) (a b : X) : TB :=
  match op with
  | .lss => opqF te (.cmp .lss a b)
  | .geq => tnot te.full (opqF te (.cmp .lss a b))
  | .gtr => opqF te (.cmp .lss b a)
  | .leq => tnot te.full (opqF te (.cmp .lss b a))
  | .eql => eqO te a b
  | .neq => tnot te.full (eqO te a b)
  | _ => none
/-- A comparison that is taken as a whole. -/
def opqT (te : TE) (op : BinOp) (a b : X) : Option TB :=
  match te.ops with
  | [] => none
  | _ :: _ => if X.bitty a || X.bitty b then none else
    match litZ b with
    | some z => some (thrT te op a z)
    | none => match litZ a with
      | some z => some (thrT te (flipOp op) b z)
      | none => some (pairT te op a b)

def cmpT (full : Nat) (op : BinOp) (a b : TI) : TB :=
  match op with
  | .eql => eqI full a b
  | .neq => tnot full (eqI full a b)
  | .lss => ltI full a b
  | .gtr => ltI full b a
  | .leq => tnot full (ltI full b a)
  | .geq => tnot full (ltI full a b)
  | _ => none

def binT (full : Nat) (op : BinOp) (k : IntKind) (a b : TI) (y : X) : Option TI :=
  match op with
  | .add => some (wrapI k (addI full a b))
  | .sub => some (wrapI k (subI' full a b))
  | .mul => match a with
    | (xs, sx) => some (wrapI k (trimI (mulL full sx b xs)))
  | .and => some (wrapI k (trimI (zipT tand (lowI k a) (lowI k b), some 0)))
  | .or => some (wrapI k (trimI (zipT (tor full) (lowI k a) (lowI k b), some 0)))
  | .xor => some (wrapI k (trimI (zipT txor (lowI k a) (lowI k b), some 0)))
  | .andNot => some (wrapI k (trimI (zipT (fun x y => tand x (tnot full y)) (lowI k a) (lowI k b), some 0)))
  | .shl => match litOf y with
    | some n => if Nat.ble n k.bits then some (wrapI k (trimI (shlT n a.1, a.2))) else none
    | none => if isZ b.2 && Nat.ble (2 ^ len b.1) (k.bits + 1) then some (wrapI k (shlV full b.1 1 a)) else none
  | .shr => match litOf y with
    | some n => if Nat.ble n k.bits then some (dropN n a.1, a.2) else none
    | none => if isZ b.2 && Nat.ble (2 ^ len b.1) (k.bits + 1) then some (shrV full b.1 1 a) else none
  | .quo => match litOf y with
    | some n => if isZ a.2 && Nat.ble 1 n then
        match powOf y with
        | some p => some (wrapI k (dropN p a.1, a.2))
        | none => some (wrapI k (trimI ((divL full b a.1).1, some 0)))
      else none
    | none => none
  | .rem => match litOf y with
    | some n => if isZ a.2 && Nat.ble 1 n then
        match powOf y with
        | some p => some (trimI (takeE a.2 p a.1, some 0))
        | none => some (trimI (divL full b a.1).2)
      else none
    | none => none
  | _ => none

mutual
def X.tabI (te : TE) : X → Option TI
  | .iv n => ivT te n
  | .lit z => some (trimI (litI te.full z))
  | .bin op k a b => match X.tabI te a, X.tabI te b with
    | some x, some y => binT te.full op k x y b
    | _, _ => none
  | .wrap k a => match X.tabI te a with
    | some x => some (wrapI k x)
    | none => none
  | .ite c a b => match X.tabI te a, X.tabI te b with
    | some x, some y => some (muxI te.full (X.tabB te c) x y)
    | _, _ => none
  | .ofB a => some ([X.tabB te a], some 0)
  | _ => none
def X.tabB (te : TE) : X → TB
  | .bv n => assoc (2 * (66 * n + 65)) te.ids
  | .bl b => some (if b then te.full else 0)
  | .cmp op a b => match opqT te op a b with
    | some t => t
    | none => match X.tabI te a, X.tabI te b with
      | some x, some y => cmpT te.full op x y
      | _, _ => none
  | .fb f a => opqF te (.fb f a)
  | .not a => tnot te.full (X.tabB te a)
  | .and a b => tand (X.tabB te a) (X.tabB te b)
  | .or a b => tor te.full (X.tabB te a) (X.tabB te b)
  | .beq a b => tnot te.full (txor (X.tabB te a) (X.tabB te b))
  | .ite c a b => tmux te.full (X.tabB te c) (X.tabB te a) (X.tabB te b)
  | _ => none
end

/-! ### Of what an expression is: a guess -/
/-- Of each bit: 0 if it is never set; else one more than twice what it hangs on. -/
def orL : List Nat → List Nat → List Nat
  | [], l => l
  | a :: l, [] => a :: l
  | a :: l, b :: m => Nat.lor a b :: orL l m
def allL : List Nat → Nat
  | [] => 0
  | a :: l => Nat.lor a (allL l)
def cumL : Nat → List Nat → List Nat
  | acc, [] => [acc]
  | acc, a :: l => Nat.lor acc a :: cumL (Nat.lor acc a) l
def isZN : Nat → Bool
  | 0 => true
  | _ + 1 => false
def carE (x y c : Nat) : Nat :=
  if isZN x then (if isZN y then 0 else if isZN c then 0 else Nat.lor y c) else
  if isZN y then (if isZN c then 0 else Nat.lor x c) else Nat.lor x (Nat.lor y c)
def hdN : List Nat → Nat
  | [] => 0
  | y :: _ => y
def tlN : List Nat → List Nat
  | [] => []
  | _ :: l => l
def addE0 : List Nat → Nat → List Nat
  | [], c => [c]
  | y :: ys, c => Nat.lor y c :: addE0 ys (carE 0 y c)
def addE : List Nat → List Nat → Nat → List Nat
  | [], ys, c => addE0 ys c
  | x :: xs, ys, c => Nat.lor x (Nat.lor (hdN ys) c) :: addE xs (tlN ys) (carE x (hdN ys) c)
def andE (a b : Nat) : Nat := if isZN a then 0 else if isZN b then 0 else Nat.lor a b
def andL : List Nat → List Nat → List Nat
  | a :: l, b :: m => andE a b :: andL l m
  | _, _ => []
def mapL (m : Nat) : List Nat → List Nat
  | [] => []
  | a :: l => (if isZN a then 0 else Nat.lor m a) :: mapL m l
def constL (m : Nat) : List Nat → List Nat
  | [] => []
  | _ :: l => m :: constL m l
def pickL (m : Nat) (want : Bool) : Nat → List Nat → List Nat
  | _, [] => []
  | i, a :: l => (if boolB (Nat.testBit m i) want then a else 0) :: pickL m want (i + 1) l
def ivSup (n : Nat) : Nat → Nat → List Nat
  | 0, _ => []
  | c + 1, i => Nat.add (2 ^ (66 * n + i + 1)) 1 :: ivSup n c (i + 1)
def litSup : Nat → Nat → List Nat
  | 0, _ => []
  | f + 1, z => Nat.mod z 2 :: litSup f (Nat.div z 2)
def orM : Option Nat → Option Nat → Option Nat
  | some a, some b => some (Nat.lor a b)
  | _, _ => none
mutual
def X.supI (ab : Bool) (rg : List (Option (Int × Int))) : X → Option (List Nat)
  | .iv n => match nth rg n with
    | some (some (.ofNat _, .ofNat h)) => if Nat.ble (Nat.log2 h) 63 then some (ivSup n (Nat.log2 h + 1) 0) else none
    | some (some (l, h)) => if intLe (-9223372036854775808) l && intLe h 9223372036854775807 then some (ivSup n 64 0) else none
    | _ => none
  | .lit (.ofNat z) => some (litSup (Nat.log2 z + 1) z)
  | .lit (.negSucc z) => some (rep (Nat.log2 z + 1) 1)
  | .bin op k a b => match X.supI ab rg a, X.supI ab rg b with
    | some x, some y =>
      match op with
      | .and => some (andL x y)
      | .andNot => match b with
        | .lit (.ofNat m) => some (pickL m false 0 x)
        | _ => some (orL x y)
      | .or | .xor => some (takeN k.bits (orL x y))
      | .add => some (takeN k.bits (addE x y 0))
      | .sub => some (takeN k.bits (cumL 0 (orL x y)))
      | .mul => match powOf b with
        | some n => some (takeN k.bits (rep n 0 ++ x))
        | none => match powOf a with
          | some n => some (takeN k.bits (rep n 0 ++ y))
          | none => some (takeN k.bits (constL (Nat.lor (allL x) (allL y)) (x ++ y)))
      | .shl => match litOf b with
        | some n => some (takeN k.bits (rep n 0 ++ x))
        | none => some (takeN k.bits (constL (Nat.lor (allL x) (allL y)) (x ++ [0, 0, 0, 0, 0, 0, 0, 0])))
      | .shr => match litOf b with
        | some n => some (dropN n x)
        | none => some (constL (Nat.lor (allL x) (allL y)) x)
      | .quo => match powOf b with
        | some n => some (dropN n x)
        | none => some (constL (allL x) x)
      | .rem => match powOf b with
        | some n => some (takeN n x)
        | none => some (constL (allL x) y)
      | _ => none
    | _, _ => none
  | .wrap k a => match X.supI ab rg a with
    | some x => some (takeN k.bits x)
    | none => none
  | .ite c a b => match X.supB ab rg c, X.supI ab rg a, X.supI ab rg b with
    | some m, some x, some y => some (mapL m (orL x y))
    | _, _, _ => none
  | .ofB a => match X.supB ab rg a with
    | some m => some [m]
    | none => none
  | _ => none
def X.supB (ab : Bool) (rg : List (Option (Int × Int))) : X → Option Nat
  | .bv n => some (Nat.add (2 ^ (66 * n + 66)) 1)
  | .bl _ => some 1
  | .cmp _ a b => if ab && !(X.bitty a || X.bitty b) then some 1 else match X.supI ab rg a, X.supI ab rg b with
    | some x, some y => some (Nat.lor (allL x) (allL y))
    | _, _ => none
  | .fb _ _ => if ab then some 1 else none
  | .not a => X.supB ab rg a
  | .and a b => orM (X.supB ab rg a) (X.supB ab rg b)
  | .or a b => orM (X.supB ab rg a) (X.supB ab rg b)
  | .beq a b => orM (X.supB ab rg a) (X.supB ab rg b)
  | .ite c a b => orM (X.supB ab rg c) (orM (X.supB ab rg a) (X.supB ab rg b))
  | _ => none
end

/-- What is taken as a whole. -/
def addX (x : X) (l : List X) : List X := match findX x l 0 with | some _ => l | none => x :: l
def addThr (op : BinOp) (a : X) (z : Int) (l : List X) : List X :=
  match op with
  | .lss | .geq => addX (.cmp .lss a (.lit z)) l
  | .leq | .gtr => addX (.cmp .lss a (.lit (z + 1))) l
  | _ => addX (.cmp .lss a (.lit z)) (addX (.cmp .lss a (.lit (z + 1))) l)
def addPair (op : BinOp) (a b : X) (l : List X) : List X :=
  match op with
  | .lss | .geq => addX (.cmp .lss a b) l
  | .leq | .gtr => addX (.cmp .lss b a) l
  | _ => match findX (.cmp .eql b a) l 0 with | some _ => l | none => addX (.cmp .eql a b) l
/-! What two of these have to do with one another. -/
def rel2 (full : Nat) (x y : X) (tx ty : TB) : TB :=
  match x, y with
  | .cmp .lss a (.lit z), .cmp .lss b (.lit z') => if intLe z z' && X.eqb a b then tor full (tnot full tx) ty else some full
  | .cmp .lss a b, .cmp .lss c d => if X.eqb a d && X.eqb b c then tnot full (tand tx ty) else some full
  | .cmp .eql a b, .cmp .lss c d => if X.eqb a c && X.eqb b d || X.eqb a d && X.eqb b c then tnot full (tand tx ty) else some full
  | _, _ => some full
def relsT (te : TE) (x : X) (tx : TB) : Nat → List X → Nat
  | _, [] => te.full
  | i, y :: l => match rel2 te.full x y tx (opqAt te i) with
    | some t => if Nat.beq t te.full then relsT te x tx (i + 1) l else Nat.land t (relsT te x tx (i + 1) l)
    | none => relsT te x tx (i + 1) l
/-- One of three. -/
def oneOf (te : TE) (x : X) (tx : TB) : TB :=
  match x with
  | .cmp .eql a b => tor te.full tx (tor te.full (opqF te (.cmp .lss a b)) (opqF te (.cmp .lss b a)))
  | _ => none
def landO (t : TB) (h : Nat) : Nat := match t with
  | some t => Nat.land t h
  | none => h
def theoT (te : TE) : Nat → List X → Nat
  | _, [] => te.full
  | i, x :: l => Nat.land (landO (oneOf te x (opqAt te i)) (relsT te x (opqAt te i) 0 te.ops)) (theoT te (i + 1) l)

/-! A comparison of one of two is one of two comparisons. -/
def leavesI : X → Nat
  | .ite _ a b => leavesI a + leavesI b
  | _ => 1
mutual
def X.push : X → X
  | .cmp op a b => if Nat.ble (leavesI a * leavesI b) 24 then X.pushK (fun x => X.pushK (fun y => mkCmp op x y) b) a else .cmp op a b
  | .not a => mkNot (X.push a)
  | .and a b => mkAnd (X.push a) (X.push b)
  | .or a b => mkOr (X.push a) (X.push b)
  | .beq a b => mkBeq (X.push a) (X.push b)
  | .ite c a b => mkIteB (X.push c) (X.push a) (X.push b)
  | e => e
def X.pushK (k : X → X) : X → X
  | .ite c a b => mkIteB (X.push c) (X.pushK k a) (X.pushK k b)
  | e => k e
end
mutual
def X.opsI : X → List X → List X
  | .bin _ _ a b, l => X.opsI a (X.opsI b l)
  | .wrap _ a, l => X.opsI a l
  | .ite c a b, l => X.opsB c (X.opsI a (X.opsI b l))
  | .ofB a, l => X.opsB a l
  | _, l => l
def X.opsB : X → List X → List X
  | .cmp op a b, l => if X.bitty a || X.bitty b then X.opsI a (X.opsI b l) else match litZ b with
    | some z => addThr op a z l
    | none => match litZ a with
      | some z => addThr (flipOp op) b z l
      | none => addPair op a b l
  | .not a, l => X.opsB a l
  | .and a b, l => X.opsB a (X.opsB b l)
  | .or a b, l => X.opsB a (X.opsB b l)
  | .beq a b, l => X.opsB a (X.opsB b l)
  | .ite c a b, l => X.opsB c (X.opsB a (X.opsB b l))
  | .fb f a, l => addX (.fb f a) l
  | _, l => l
end

/-! ### Shown by tables -/
def idsOf : Nat → Nat → List Nat
  | 0, _ => []
  | f + 1, m => if Nat.beq m 0 then [] else Nat.log2 m :: idsOf f (Nat.sub m (2 ^ Nat.log2 m))
def dbl (sz : Nat) : List (Nat × Nat) → List (Nat × Nat)
  | [] => []
  | (i, t) :: l => (i, Nat.lor t (Nat.shiftLeft t sz)) :: dbl sz l
def pats : List Nat → Nat × List (Nat × Nat)
  | [] => (1, [])
  | id :: l => match pats l with
    | (sz, as) => (2 * sz, (id, Nat.shiftLeft (2 ^ sz - 1) sz) :: dbl sz as)
def opIds : Nat → List X → List Nat
  | _, [] => []
  | i, _ :: l => (2 * i + 1) :: opIds (i + 1) l
def twice : List Nat → List Nat
  | [] => []
  | i :: l => (2 * i) :: twice l
def mkTE (rg : List (Option (Int × Int))) (ids : List Nat) (ops : List X) : TE :=
  match pats (opIds 0 ops ++ twice ids) with
  | (sz, as) => ⟨2 ^ sz - 1, as, rg, ops⟩
def rgT (te : TE) (n : Nat) : TB :=
  match nth te.rg n with
  | some (some (l, h)) => match ivT te n with
    | some x => tand (if intB l 0 then some te.full else tnot te.full (ltI te.full x (trimI (litI te.full l)))) (match h with
      | .ofNat h => if Nat.beq (2 ^ (Nat.log2 h + 1)) (h + 1) then some te.full else tnot te.full (ltI te.full (trimI (litI te.full (.ofNat h))) x)
      | _ => some te.full)
    | none => none
  | _ => none
def landT (t : TB) (h : Nat) : Nat := match t with
  | some t => Nat.land t h
  | none => h
def rgsT (te : TE) (last : Nat) : List Nat → Nat
  | [] => te.full
  | id :: l => if Nat.beq (id / 66) last then rgsT te last l else landT (rgT te (id / 66)) (rgsT te (id / 66) l)
def subM (a m : Nat) : Bool := Nat.beq (Nat.land a m) a
def pushIf (ab : Bool) (c : X) : X := if ab then X.push c else c
def hypsT (ab : Bool) (te : TE) (m : Nat) : List (X × Bool) → Nat
  | [] => te.full
  | (c, v) :: l => match X.supB ab te.rg (pushIf ab c) with
    | some s => if subM (Nat.shiftRight s 1) m then landT (if v then X.tabB te (pushIf ab c) else tnot te.full (X.tabB te (pushIf ab c))) (hypsT ab te m l) else hypsT ab te m l
    | none => hypsT ab te m l
def notNil {α : Type} : List α → Bool
  | [] => false
  | _ :: _ => true
def limT (ab : Bool) : Nat := if ab then 14 else 18
/-- The question that a place of a table stands for. -/
def atomOf (id : Nat) : X := if Nat.beq (id % 66) 65 then .bv (id / 66) else .cmp .neq (.bin .and .u64 (.iv (id / 66)) (.lit (Int.ofNat (2 ^ (id % 66))))) (.lit (Int.ofNat 0))
/-- A place of which it is known what it is. -/
def fixedId (K : Known) (id : Nat) : Option Bool :=
  match lookup (atomOf id) K.tr with
  | some v =>
    let te := mkTE K.rg [id] []
    match X.tabB te (atomOf id), assoc (2 * id) te.ids with
    | some t, some u => if Nat.beq t u then some v else none
    | _, _ => none
  | none => none
/-- The place of a question, if it is one of a bit. -/
def idOf : X → Option Nat
  | .bv n => some (66 * n + 65)
  | .cmp .neq (.bin .and .u64 (.iv n) (.lit (.ofNat m))) (.lit (.ofNat 0)) => some (66 * n + Nat.log2 m)
  | _ => none
def knownIds (K : Known) : List (X × Bool) → List (Nat × Bool)
  | [] => []
  | (c, _) :: l => match idOf c with
    | some id => match fixedId K id with
      | some v => (id, v) :: knownIds K l
      | none => knownIds K l
    | none => knownIds K l
def isIn (id : Nat) : List (Nat × Bool) → Bool
  | [] => false
  | (i, _) :: l => if Nat.beq i id then true else isIn id l
def without (fs : List (Nat × Bool)) : List Nat → List Nat
  | [] => []
  | id :: l => if isIn id fs then without fs l else id :: without fs l
def splitK (K : Known) (ids : List Nat) : List Nat × List (Nat × Bool) :=
  let fs := knownIds K K.tr
  (without fs ids, fs)
def constsT (full : Nat) : List (Nat × Bool) → List (Nat × Nat)
  | [] => []
  | (id, v) :: l => (2 * id, if v then full else 0) :: constsT full l
def mkTK (K : Known) (ids : List Nat) (ops : List X) : TE :=
  match splitK K ids with
  | (us, fs) => match pats (opIds 0 ops ++ twice us) with
    | (sz, as) => ⟨2 ^ sz - 1, constsT (2 ^ sz - 1) fs ++ as, K.rg, ops⟩
def cntK (K : Known) (m : Nat) : Nat := len (splitK K (idsOf 40 m)).1
/-- All is true, where what is known is so. -/
def tabSays (K : Known) (ops : List X) (m : Nat) (f : TE → TB) : Bool :=
  let ids := idsOf 40 m
  let te := mkTK K ids ops
  match f te with
  | some t => if Nat.beq t te.full then true else
    Nat.beq (Nat.land (Nat.land (Nat.land (rgsT te 100000 ids) (theoT te 0 ops)) (hypsT (notNil ops) te m K.tr)) (Nat.xor te.full t)) 0
  | none => false
def cnt (m : Nat) : Nat := len (idsOf 40 m)
def meets (l : List X) : List X → Bool
  | [] => false
  | x :: m => match findX x l 0 with | some _ => true | none => meets l m
def joinX : List X → List X → List X
  | [], l => l
  | x :: m, l => addX x (joinX m l)
def widen (ab : Bool) (rg : List (Option (Int × Int))) (lim : Nat) : List (X × Bool) → List X → Nat → List X × Nat
  | [], ops, m => (ops, m)
  | (c, _) :: l, ops, m => match X.supB ab rg (pushIf ab c) with
    | some s =>
      let s := Nat.shiftRight s 1
      let o := if ab then X.opsB (X.push c) [] else []
      if Nat.beq (Nat.land s m) 0 && !(meets ops o) then widen ab rg lim l ops m else
      if Nat.ble (cnt (Nat.lor s m) + len (joinX o ops)) lim then widen ab rg lim l (joinX o ops) (Nat.lor s m) else widen ab rg lim l ops m
    | none => widen ab rg lim l ops m
def tabTry (K : Known) (ab : Bool) (ops : List X) (m : Nat) (f : TE → TB) : Bool :=
  if Nat.ble (cntK K m + len ops) (limT ab) then
    if tabSays K ops m f then true else
    match widen ab K.rg 14 K.tr ops m with
    | (ops', m') => if Nat.beq m m' && Nat.beq (len ops) (len ops') then false else tabSays K ops' m' f
  else false
def bitEq (a b : X) (i : Nat) (te : TE) : TB :=
  match X.tabI te a, X.tabI te b with
  | some (x, sx), some (y, sy) => tnot te.full (txor (nthE sx i x) (nthE sy i y))
  | _, _ => none
def restEq (a b : X) (i : Nat) (te : TE) : TB :=
  match X.tabI te a, X.tabI te b with
  | some (x, sx), some (y, sy) => eqI te.full (dropN i x, sx) (dropN i y, sy)
  | _, _ => none
def eqGo (K : Known) (a b : X) (all : Nat) : Nat → List Nat → Bool
  | i, [] => if tabSays K [] 0 (restEq a b i) then true else tabTry K false [] all (restEq a b i)
  | i, m :: l => if tabTry K false [] (Nat.shiftRight m 1) (bitEq a b i) then eqGo K a b all (i + 1) l else false
/-- Comparisons of what is not made of bits are taken as a whole. -/
def X.tabAb (K : Known) (e : X) : Bool :=
  let e := X.push e
  match X.opsB e [] with
  | [] => (match e with | .bl b => b | _ => false)
  | ops => match X.supB true K.rg e with
    | some m => tabTry K true ops (Nat.shiftRight m 1) (fun te => X.tabB te e)
    | none => false
def X.tabGo (K : Known) (e : X) : Bool :=
  if X.tabAb K e then true else
  match e with
  | .cmp .eql a b => match X.supI false K.rg a, X.supI false K.rg b with
    | some x, some y => eqGo K a b (Nat.shiftRight (Nat.lor (allL x) (allL y)) 1) 0 (orL x y)
    | _, _ => false
  | e => match X.supB false K.rg e with
    | some m => tabTry K false [] (Nat.shiftRight m 1) (fun te => X.tabB te e)
    | none => false
end Go.Sx
