/- Numbers as bits. -/
import Derived.Test.YtdgjenlejalgeaaSx1b
namespace Go.Sx

/-! ### Plain facts on numbers -/
theorem add_or {v u : Nat} (h : v &&& u = 0) : v + u = v ||| u := by
  have hv : v < 2 ^ (v + u) := Nat.lt_of_le_of_lt (by omega) Nat.lt_two_pow_self
  have hu : u < 2 ^ (v + u) := Nat.lt_of_le_of_lt (by omega) Nat.lt_two_pow_self
  have h0 : BitVec.ofNat (v + u) v &&& BitVec.ofNat (v + u) u = 0#(v + u) := by
    apply BitVec.eq_of_toNat_eq
    simp [BitVec.toNat_and, Nat.mod_eq_of_lt hv, Nat.mod_eq_of_lt hu, h]
  have h1 := BitVec.toNat_add_of_and_eq_zero h0
  rw [BitVec.add_eq_or_of_and_eq_zero _ _ h0] at h1
  simpa [BitVec.toNat_or, Nat.mod_eq_of_lt hv, Nat.mod_eq_of_lt hu] using h1.symm
theorem mod_succ (v n : Nat) : v % 2 ^ (n + 1) = v % 2 ^ n + 2 ^ n * (if v.testBit n = true then 1 else 0) := by
  rw [Nat.mod_pow_succ, Nat.testBit_eq_decide_div_mod_eq]
  have : v / 2 ^ n % 2 < 2 := Nat.mod_lt _ (by omega)
  congr 2
  by_cases h : v / 2 ^ n % 2 = 1
  · simp [h]
  · simp [h]; omega

def hiN : IntKind → Nat
  | .i8 => 127 | .i16 => 32767 | .i32 => 2147483647 | .i64 => 9223372036854775807
  | .u8 => 255 | .u16 => 65535 | .u32 => 4294967295 | .u64 => 18446744073709551615
theorem hiN_eq (k : IntKind) : (hiN k : Int) = kHi k := by cases k <;> rfl
theorem hiN_lt (k : IntKind) : hiN k < 2 ^ k.bits := by cases k <;> simp [hiN, IntKind.bits]

def atomB (K : Known) (n i : Nat) : X :=
  if Nat.ble i 15 then
    match lookup (.cmp .neq (.bin .and .u64 (.iv n) (.lit (Int.ofNat (2 ^ i)))) (.lit (Int.ofNat 0))) K.tr with
    | some b => .bl b
    | none => .cmp .neq (.bin .and .u64 (.iv n) (.lit (Int.ofNat (2 ^ i)))) (.lit (Int.ofNat 0))
  else .bl false

/-- A number as bits: which may be, and each one. -/
abbrev Bits := Option (Nat × (Nat → X))
def bAnd (k : IntKind) : Bits → Bits → Bits
  | some (x, f), some (y, g) => if Nat.ble x (hiN k) && Nat.ble y (hiN k) then some (x &&& y, fun i => mkAnd (f i) (g i)) else none
  | _, _ => none
def bOr (k : IntKind) : Bits → Bits → Bits
  | some (x, f), some (y, g) => if Nat.ble (x ||| y) (hiN k) then some (x ||| y, fun i => mkOr (f i) (g i)) else none
  | _, _ => none
def bXor (k : IntKind) : Bits → Bits → Bits
  | some (x, f), some (y, g) => if Nat.ble (x ||| y) (hiN k) then some (x ||| y, fun i => mkNot (mkBeq (f i) (g i))) else none
  | _, _ => none
def bAndNot (k : IntKind) : Bits → Bits → Bits
  | some (x, f), some (y, g) => if Nat.ble x (hiN k) && Nat.ble y (hiN k) then some (x, fun i => mkAnd (f i) (mkNot (g i))) else none
  | _, _ => none
def bAdd (k : IntKind) : Bits → Bits → Bits
  | some (x, f), some (y, g) => if Nat.beq (x &&& y) 0 && Nat.ble (x ||| y) (hiN k) then some (x ||| y, fun i => mkOr (f i) (g i)) else none
  | _, _ => none
def bShl (k : IntKind) (n : Nat) : Bits → Bits
  | some (x, f) => if Nat.ble (x <<< n) (hiN k) then some (x <<< n, fun i => if Nat.ble n i then f (i - n) else .bl false)
    else if k.signed then none else some ((x <<< n) &&& (2 ^ k.bits - 1), fun i => if Nat.ble n i && Nat.ble (i + 1) k.bits then f (i - n) else .bl false)
  | none => none
def bShr (n : Nat) : Bits → Bits
  | some (x, f) => some (x >>> n, fun i => f (i + n))
  | none => none
def bQuo (k : IntKind) (n : Nat) : Bits → Bits
  | some (x, f) => if Nat.ble x (hiN k) then some (x >>> n, fun i => f (i + n)) else none
  | none => none
def bRem (n : Nat) : Bits → Bits
  | some (x, f) => some (x &&& (2 ^ n - 1), fun i => if Nat.ble (i + 1) n then f i else .bl false)
  | none => none
def bWrap (k : IntKind) : Bits → Bits
  | some (x, f) => if Nat.ble x (hiN k) then some (x, f) else if k.signed then none else some (x &&& (2 ^ k.bits - 1), fun i => if Nat.ble (i + 1) k.bits then f i else .bl false)
  | none => none
def bIte (c : X) : Bits → Bits → Bits
  | some (x, f), some (y, g) => some (x ||| y, fun i => mkIteB c (f i) (g i))
  | _, _ => none
/-- A power of two. -/
def powOf : X → Option Nat
  | .lit (.ofNat m) => if Nat.beq (2 ^ Nat.log2 m) m then some (Nat.log2 m) else none
  | _ => none
def litOf : X → Option Nat
  | .lit (.ofNat m) => some m
  | _ => none

def X.blast (K : Known) : X → Bits
  | .iv n => match nth K.rg n with
    | some (some (.ofNat _, .ofNat h)) => if Nat.ble h 65535 then some (2 ^ (Nat.log2 h + 1) - 1, atomB K n) else none
    | _ => none
  | .lit (.ofNat z) => some (z, fun i => .bl (z.testBit i))
  | .bin op k a b =>
    match op with
    | .and => bAnd k (X.blast K a) (X.blast K b)
    | .or => bOr k (X.blast K a) (X.blast K b)
    | .xor => bXor k (X.blast K a) (X.blast K b)
    | .andNot => bAndNot k (X.blast K a) (X.blast K b)
    | .add => bAdd k (X.blast K a) (X.blast K b)
    | .shl => match litOf b with
      | some n => if Nat.ble n k.bits then bShl k n (X.blast K a) else none
      | none => none
    | .shr => match litOf b with
      | some n => if Nat.ble n k.bits then bShr n (X.blast K a) else none
      | none => none
    | .quo => match powOf b with
      | some n => bQuo k n (X.blast K a)
      | none => none
    | .rem => match powOf b with
      | some n => bRem n (X.blast K a)
      | none => none
    | .mul => match powOf b with
      | some n => bShl k n (X.blast K a)
      | none => match powOf a with
        | some n => bShl k n (X.blast K b)
        | none => none
    | _ => none
  | .wrap k a => bWrap k (X.blast K a)
  | .ite c a b => bIte c (X.blast K a) (X.blast K b)
  | .ofB a => some (1, fun i => if Nat.beq i 0 then a else .bl false)
  | _ => none

/-- A number that is made of bits. -/
def X.bitty : X → Bool
  | .bin op _ a b =>
    match op with
    | .and | .or | .xor | .andNot | .shl | .shr => true
    | .quo | .rem => match powOf b with
      | some _ => true
      | none => false
    | .add => X.bitty a || X.bitty b
    | .mul => X.bitty a || X.bitty b
    | _ => false
  | .wrap _ _ => true
  | .ite _ a b => X.bitty a || X.bitty b
  | _ => false

def eqBits (f g : Nat → X) : Nat → X
  | 0 => .bl true
  | n + 1 => mkAnd (eqBits f g n) (mkBeq (f n) (g n))
def ltBits (f g : Nat → X) : Nat → X
  | 0 => .bl false
  | n + 1 => mkIteB (mkBeq (f n) (g n)) (ltBits f g n) (g n)

/-- A comparison by bits. -/
def blastC (K : Known) (op : BinOp) (a b : X) : Option X :=
  if X.bitty a || X.bitty b then
    match X.blast K a, X.blast K b with
    | some (x, f), some (y, g) =>
      if Nat.ble (x ||| y) 65535 then
        let n := Nat.log2 (x ||| y) + 1
        match op with
        | .eql => some (eqBits f g n)
        | .neq => some (mkNot (eqBits f g n))
        | .lss => some (ltBits f g n)
        | .gtr => some (ltBits g f n)
        | .leq => some (mkNot (ltBits g f n))
        | .geq => some (mkNot (ltBits f g n))
        | _ => none
      else none
    | _, _ => none
  else none

/-! ### Why -/
section
variable {K : Known} {ρ : Env}

def Is (ρ : Env) (e : X) : Bits → Prop
  | some (m, f) => ∃ v : Nat, e.I ρ = v ∧ (∀ i, v.testBit i = true → m.testBit i = true) ∧ ∀ i, (f i).B ρ = v.testBit i
  | none => True

theorem le_of_bits {v m : Nat} (h : ∀ i, v.testBit i = true → m.testBit i = true) : v ≤ m := by
  have e : v &&& m = v := by
    apply Nat.eq_of_testBit_eq
    intro i
    rw [Nat.testBit_and]
    cases hv : v.testBit i with
    | true => simp [h i hv]
    | false => rfl
  rw [← e]; exact Nat.and_le_right

theorem ble_int {m : Nat} {k : IntKind} {v : Nat} (h : Nat.ble m (hiN k) = true) (hv : v ≤ m) : (v : Int) ≤ kHi k := by
  rw [Nat.ble_eq] at h
  rw [← hiN_eq]
  omega

theorem atomB_ok (hK : K.ok ρ) {n v : Nat} (hv : ρ.i n = v) (hl : v ≤ 65535) (i : Nat) : (atomB K n i).B ρ = v.testBit i := by
  have main : (X.cmp .neq (.bin .and .u64 (.iv n) (.lit (Int.ofNat (2 ^ i)))) (.lit (Int.ofNat 0))).B ρ = v.testBit i ∨ ¬ i ≤ 15 := by
    by_cases hi : i ≤ 15
    · left
      have h2 : (2 : Nat) ^ i ≤ 2 ^ 15 := Nat.pow_le_pow_right (by omega) hi
      have hp : 0 < 2 ^ i := Nat.two_pow_pos i
      simp only [X.B, X.I, cmpI, hv, arith]
      rw [BitVec.toNat_and, ofInt_nat .u64 _ (by omega) (by simp [kHi]; omega), ofInt_nat .u64 (Int.ofNat (2 ^ i)) (Int.natCast_nonneg _) (by simp only [kHi, Int.ofNat_eq_natCast]; omega)]
      simp only [Int.toNat_natCast, Int.ofNat_eq_natCast, and_pow]
      generalize 2 ^ i = p at *
      cases v.testBit i with
      | false => simp [wrap_small .u64 (n := 0) (by omega) (by simp [kHi])]
      | true => simp [wrap_small .u64 (n := (p : Int)) (by omega) (by simp [kHi]; omega)]; omega
    · exact .inr hi
  unfold atomB
  split
  · next hi =>
    rw [Nat.ble_eq] at hi
    have main := main.resolve_right (by omega)
    split
    · next b hb => rw [← main]; exact (lookup_ok hK.2.1 hb).symm
    · exact main
  · next hi =>
    rw [Nat.ble_eq] at hi
    simp only [X.B]
    rw [Nat.testBit_lt_two_pow]
    exact Nat.lt_of_lt_of_le (by omega : v < 2 ^ 16) (Nat.pow_le_pow_right (by omega) (by omega))

theorem bAnd_ok {k : IntKind} {a b : X} {p q : Bits} (ha : Is ρ a p) (hb : Is ρ b q) : Is ρ (.bin .and k a b) (bAnd k p q) := by
  unfold bAnd
  split
  · next x f y g =>
    obtain ⟨v, v1, v2, v3⟩ := ha
    obtain ⟨u, u1, u2, u3⟩ := hb
    split
    · next hc =>
      simp only [Bool.and_eq_true] at hc
      have hv := ble_int hc.1 (le_of_bits v2)
      have hu := ble_int hc.2 (le_of_bits u2)
      have hle : v &&& u ≤ v := Nat.and_le_left
      refine ⟨v &&& u, ?_, fun i => ?_, fun i => ?_⟩
      · simp only [X.I, v1, u1, arith, BitVec.toNat_and, ofInt_nat k _ (by omega) hv, ofInt_nat k _ (by omega) hu, Int.toNat_natCast]
        exact wrap_small k (by omega) (by omega)
      · simp only [Nat.testBit_and, Bool.and_eq_true]
        exact fun h => ⟨v2 i h.1, u2 i h.2⟩
      · simp only [B_mkAnd, v3, u3, Nat.testBit_and]
    · trivial
  · trivial

theorem bOr_ok {k : IntKind} {a b : X} {p q : Bits} (ha : Is ρ a p) (hb : Is ρ b q) : Is ρ (.bin .or k a b) (bOr k p q) := by
  unfold bOr
  split
  · next x f y g =>
    obtain ⟨v, v1, v2, v3⟩ := ha
    obtain ⟨u, u1, u2, u3⟩ := hb
    split
    · next hc =>
      have hb : ∀ i, (v ||| u).testBit i = true → (x ||| y).testBit i = true := by
        intro i
        simp only [Nat.testBit_or, Bool.or_eq_true]
        exact fun h => h.imp (v2 i) (u2 i)
      have hh := ble_int hc (le_of_bits hb)
      have l1 : v ≤ v ||| u := Nat.left_le_or
      have l2 : u ≤ v ||| u := Nat.right_le_or
      refine ⟨v ||| u, ?_, hb, fun i => ?_⟩
      · simp only [X.I, v1, u1, arith, BitVec.toNat_or, ofInt_nat k _ (Int.natCast_nonneg v) (by omega), ofInt_nat k _ (Int.natCast_nonneg u) (by omega), Int.toNat_natCast]
        exact wrap_small k (by omega) (by omega)
      · simp only [B_mkOr, v3, u3, Nat.testBit_or]
    · trivial
  · trivial

theorem bXor_ok {k : IntKind} {a b : X} {p q : Bits} (ha : Is ρ a p) (hb : Is ρ b q) : Is ρ (.bin .xor k a b) (bXor k p q) := by
  unfold bXor
  split
  · next x f y g =>
    obtain ⟨v, v1, v2, v3⟩ := ha
    obtain ⟨u, u1, u2, u3⟩ := hb
    split
    · next hc =>
      have hb : ∀ i, (v ||| u).testBit i = true → (x ||| y).testBit i = true := by
        intro i
        simp only [Nat.testBit_or, Bool.or_eq_true]
        exact fun h => h.imp (v2 i) (u2 i)
      have hx : ∀ i, (v ^^^ u).testBit i = true → (v ||| u).testBit i = true := by
        intro i
        simp only [Nat.testBit_xor, Nat.testBit_or]
        cases v.testBit i <;> cases u.testBit i <;> simp
      have hh := ble_int hc (le_of_bits hb)
      have l1 : v ≤ v ||| u := Nat.left_le_or
      have l2 : u ≤ v ||| u := Nat.right_le_or
      have l3 : v ^^^ u ≤ v ||| u := le_of_bits hx
      refine ⟨v ^^^ u, ?_, fun i h => hb i (hx i h), fun i => ?_⟩
      · simp only [X.I, v1, u1, arith, BitVec.toNat_xor, ofInt_nat k _ (Int.natCast_nonneg v) (by omega), ofInt_nat k _ (Int.natCast_nonneg u) (by omega), Int.toNat_natCast]
        exact wrap_small k (by omega) (by omega)
      · simp only [B_mkNot, B_mkBeq, v3, u3, Nat.testBit_xor]
        cases v.testBit i <;> cases u.testBit i <;> rfl
    · trivial
  · trivial

theorem bAndNot_ok {k : IntKind} {a b : X} {p q : Bits} (ha : Is ρ a p) (hb : Is ρ b q) : Is ρ (.bin .andNot k a b) (bAndNot k p q) := by
  unfold bAndNot
  split
  · next x f y g =>
    obtain ⟨v, v1, v2, v3⟩ := ha
    obtain ⟨u, u1, u2, u3⟩ := hb
    split
    · next hc =>
      simp only [Bool.and_eq_true] at hc
      have hv := ble_int hc.1 (le_of_bits v2)
      have hu := ble_int hc.2 (le_of_bits u2)
      have e1 := ofInt_nat k _ (Int.natCast_nonneg v) hv
      have e2 := ofInt_nat k _ (Int.natCast_nonneg u) hu
      rw [Int.toNat_natCast] at e1 e2
      have hvb : v < 2 ^ k.bits := by rw [← e1]; exact BitVec.isLt _
      have hbit : ∀ i, (BitVec.ofInt k.bits v &&& ~~~ BitVec.ofInt k.bits u).toNat.testBit i = (v.testBit i && !u.testBit i) := by
        intro i
        rw [BitVec.testBit_toNat, BitVec.getLsbD_and, BitVec.getLsbD_not, ← BitVec.testBit_toNat, ← BitVec.testBit_toNat, e1, e2]
        by_cases hi : i < k.bits
        · simp [hi]
        · rw [Nat.testBit_lt_two_pow (Nat.lt_of_lt_of_le hvb (Nat.pow_le_pow_right (by omega) (by omega)))]; simp
      have hle : (BitVec.ofInt k.bits v &&& ~~~ BitVec.ofInt k.bits u).toNat ≤ v := le_of_bits fun i => by rw [hbit]; simp; exact fun h _ => h
      refine ⟨(BitVec.ofInt k.bits v &&& ~~~ BitVec.ofInt k.bits u).toNat, ?_, fun i => ?_, fun i => ?_⟩
      · simp only [X.I, v1, u1, arith]
        exact wrap_small k (by omega) (by omega)
      · rw [hbit]; simp; exact fun h _ => v2 i h
      · rw [hbit]; simp only [B_mkAnd, B_mkNot, v3, u3]
    · trivial
  · trivial

theorem bAdd_ok {k : IntKind} {a b : X} {p q : Bits} (ha : Is ρ a p) (hb : Is ρ b q) : Is ρ (.bin .add k a b) (bAdd k p q) := by
  unfold bAdd
  split
  · next x f y g =>
    obtain ⟨v, v1, v2, v3⟩ := ha
    obtain ⟨u, u1, u2, u3⟩ := hb
    split
    · next hc =>
      simp only [Bool.and_eq_true] at hc
      have h0 : v &&& u = 0 := by
        have hz := Nat.eq_of_beq_eq_true hc.1
        apply Nat.eq_of_testBit_eq
        intro i
        rw [Nat.testBit_and, Nat.zero_testBit]
        cases hv : v.testBit i with
        | false => rfl
        | true =>
          cases hu : u.testBit i with
          | false => rfl
          | true =>
            have := congrArg (fun n => n.testBit i) hz
            simp [Nat.testBit_and, v2 i hv, u2 i hu] at this
      have hb : ∀ i, (v ||| u).testBit i = true → (x ||| y).testBit i = true := by
        intro i
        simp only [Nat.testBit_or, Bool.or_eq_true]
        exact fun h => h.imp (v2 i) (u2 i)
      have hh := ble_int hc.2 (le_of_bits hb)
      have ha := add_or h0
      refine ⟨v ||| u, ?_, hb, fun i => ?_⟩
      · simp only [X.I, v1, u1, arith]
        rw [wrap_small k (by omega) (by omega)]
        omega
      · simp only [B_mkOr, v3, u3, Nat.testBit_or]
    · trivial
  · trivial

theorem wrap_mod (k : IntKind) (hk : k.signed = false) (v : Nat) : k.wrap (v : Int) = ((v % 2 ^ k.bits : Nat) : Int) := by
  simp only [IntKind.wrap, hk]
  simp

theorem low_bits {v m n : Nat} (h : ∀ i, v.testBit i = true → m.testBit i = true) : ∀ i, (v % 2 ^ n).testBit i = true → (m &&& (2 ^ n - 1)).testBit i = true := by
  intro i
  simp only [Nat.testBit_mod_two_pow, Nat.testBit_and, Nat.testBit_two_pow_sub_one, Bool.and_eq_true]
  exact fun hh => ⟨h i hh.2, hh.1⟩

theorem shl_core {e : X} {k : IntKind} {n : Nat} {p : Bits} {x : Nat} {f : Nat → X} (hp : p = some (x, f)) (he : ∃ v : Nat, e.I ρ = k.wrap ((v * 2 ^ n : Nat) : Int) ∧ (∀ i, v.testBit i = true → x.testBit i = true) ∧ ∀ i, (f i).B ρ = v.testBit i) : Is ρ e (bShl k n p) := by
  subst hp
  obtain ⟨v, v1, v2, v3⟩ := he
  have hs : ∀ i, (v <<< n).testBit i = true → (x <<< n).testBit i = true := by
    intro i
    simp only [Nat.testBit_shiftLeft, Bool.and_eq_true]
    exact fun h => ⟨h.1, v2 _ h.2⟩
  rw [← Nat.shiftLeft_eq] at v1
  simp only [bShl]
  split
  · next hc =>
    have hh := ble_int hc (le_of_bits hs)
    refine ⟨v <<< n, ?_, hs, fun i => ?_⟩
    · rw [v1]; exact wrap_small k (Int.natCast_nonneg _) hh
    · rw [Nat.testBit_shiftLeft]
      simp only
      split
      · next hi => rw [Nat.ble_eq] at hi; simp [v3, hi]
      · next hi => rw [Nat.ble_eq] at hi; simp only [X.B]; simp; intro h; omega
  · split
    · trivial
    · next hk =>
      refine ⟨(v <<< n) % 2 ^ k.bits, ?_, low_bits hs, fun i => ?_⟩
      · rw [v1, wrap_mod k (by simpa using hk)]
      · rw [Nat.testBit_mod_two_pow, Nat.testBit_shiftLeft]
        simp only
        split
        · next hi =>
          simp only [Bool.and_eq_true, Nat.ble_eq] at hi
          simp [v3, hi.1, show i < k.bits by omega]
        · next hi =>
          simp only [Bool.and_eq_true, Nat.ble_eq] at hi
          simp only [X.B]
          symm
          simp only [Bool.and_eq_false_iff, decide_eq_false_iff_not]
          by_cases h : i < k.bits
          · right; left; intro h2; exact hi ⟨h2, by omega⟩
          · left; exact h

theorem bShl_shl {k : IntKind} {n : Nat} {a : X} {p : Bits} (hn : n ≤ k.bits) (ha : Is ρ a p) : Is ρ (.bin .shl k a (.lit (Int.ofNat n))) (bShl k n p) := by
  cases p with
  | none => trivial
  | some p =>
    obtain ⟨x, f⟩ := p
    obtain ⟨v, v1, v2, v3⟩ := ha
    refine shl_core rfl ⟨v, ?_, v2, v3⟩
    have : min ((n : Int).toNat) k.bits = n := by simp; omega
    simp only [X.I, v1, arith, Int.ofNat_eq_natCast, this]
    congr 1
theorem bShl_mul {k : IntKind} {n : Nat} {a : X} {p : Bits} (ha : Is ρ a p) : Is ρ (.bin .mul k a (.lit (Int.ofNat (2 ^ n)))) (bShl k n p) ∧ Is ρ (.bin .mul k (.lit (Int.ofNat (2 ^ n))) a) (bShl k n p) := by
  cases p with
  | none => exact ⟨trivial, trivial⟩
  | some p =>
    obtain ⟨x, f⟩ := p
    obtain ⟨v, v1, v2, v3⟩ := ha
    refine ⟨shl_core rfl ⟨v, ?_, v2, v3⟩, shl_core rfl ⟨v, ?_, v2, v3⟩⟩
    · simp only [X.I, v1, arith, Int.ofNat_eq_natCast]
      congr 1
    · simp only [X.I, v1, arith, Int.ofNat_eq_natCast]
      congr 1
      rw [Int.mul_comm]; rfl

theorem shr_core {e : X} {n x : Nat} {f : Nat → X} {v : Nat} (he : e.I ρ = ((v / 2 ^ n : Nat) : Int)) (v2 : ∀ i, v.testBit i = true → x.testBit i = true) (v3 : ∀ i, (f i).B ρ = v.testBit i) : Is ρ e (some (x >>> n, fun i => f (i + n))) := by
  rw [← Nat.shiftRight_eq_div_pow] at he
  refine ⟨v >>> n, he, fun i => ?_, fun i => ?_⟩
  · simp only [Nat.testBit_shiftRight]; exact v2 _
  · simp only [Nat.testBit_shiftRight, v3]; rw [Nat.add_comm]

theorem bShr_ok {k : IntKind} {n : Nat} {a : X} {p : Bits} (hn : n ≤ k.bits) (ha : Is ρ a p) : Is ρ (.bin .shr k a (.lit (Int.ofNat n))) (bShr n p) := by
  cases p with
  | none => trivial
  | some p =>
    obtain ⟨x, f⟩ := p
    obtain ⟨v, v1, v2, v3⟩ := ha
    refine shr_core (v := v) ?_ v2 v3
    have : min ((n : Int).toNat) k.bits = n := by simp; omega
    simp only [X.I, v1, arith, Int.ofNat_eq_natCast, this]
    rw [Int.fdiv_eq_ediv_of_nonneg _ (Int.le_of_lt (Int.pow_pos (by omega)))]
    simp
theorem bQuo_ok {k : IntKind} {n : Nat} {a : X} {p : Bits} (ha : Is ρ a p) : Is ρ (.bin .quo k a (.lit (Int.ofNat (2 ^ n)))) (bQuo k n p) := by
  cases p with
  | none => trivial
  | some p =>
    obtain ⟨x, f⟩ := p
    obtain ⟨v, v1, v2, v3⟩ := ha
    simp only [bQuo]
    split
    · next hc =>
      have hv := ble_int hc (le_of_bits v2)
      refine shr_core (v := v) ?_ v2 v3
      simp only [X.I, v1, arith, Int.ofNat_eq_natCast]
      rw [Int.tdiv_eq_ediv_of_nonneg (by omega)]
      have h2 : v / 2 ^ n ≤ v := Nat.div_le_self _ _
      rw [← Int.natCast_ediv]
      exact wrap_small k (Int.natCast_nonneg _) (by omega)
    · trivial
theorem bRem_ok {k : IntKind} {n : Nat} {a : X} {p : Bits} (ha : Is ρ a p) : Is ρ (.bin .rem k a (.lit (Int.ofNat (2 ^ n)))) (bRem n p) := by
  cases p with
  | none => trivial
  | some p =>
    obtain ⟨x, f⟩ := p
    obtain ⟨v, v1, v2, v3⟩ := ha
    refine ⟨v % 2 ^ n, ?_, low_bits v2, fun i => ?_⟩
    · simp only [X.I, v1, arith, Int.ofNat_eq_natCast]
      rw [Int.tmod_eq_emod_of_nonneg (by omega)]
      rfl
    · rw [Nat.testBit_mod_two_pow]
      simp only
      split
      · next hi => rw [Nat.ble_eq] at hi; simp [v3, show i < n by omega]
      · next hi => rw [Nat.ble_eq] at hi; simp only [X.B]; simp; intro h; omega
theorem bWrap_ok {k : IntKind} {a : X} {p : Bits} (ha : Is ρ a p) : Is ρ (.wrap k a) (bWrap k p) := by
  cases p with
  | none => trivial
  | some p =>
    obtain ⟨x, f⟩ := p
    obtain ⟨v, v1, v2, v3⟩ := ha
    simp only [bWrap]
    split
    · next hc =>
      have hv := ble_int hc (le_of_bits v2)
      exact ⟨v, by simp only [X.I, v1]; exact wrap_small k (by omega) hv, v2, v3⟩
    · split
      · trivial
      · next hk =>
        refine ⟨v % 2 ^ k.bits, by simp only [X.I, v1]; exact wrap_mod k (by simpa using hk) v, low_bits v2, fun i => ?_⟩
        rw [Nat.testBit_mod_two_pow]
        simp only
        split
        · next hi => rw [Nat.ble_eq] at hi; simp [v3, show i < k.bits by omega]
        · next hi => rw [Nat.ble_eq] at hi; simp only [X.B]; simp; intro h; omega
theorem bIte_ok {c a b : X} {p q : Bits} (ha : Is ρ a p) (hb : Is ρ b q) : Is ρ (.ite c a b) (bIte c p q) := by
  unfold bIte
  split
  · next x f y g =>
    obtain ⟨v, v1, v2, v3⟩ := ha
    obtain ⟨u, u1, u2, u3⟩ := hb
    cases hc : c.B ρ with
    | true => exact ⟨v, by simp [X.I, hc, v1], fun i h => by simp [Nat.testBit_or, v2 i h], fun i => by simp [hc, v3]⟩
    | false => exact ⟨u, by simp [X.I, hc, u1], fun i h => by simp [Nat.testBit_or, u2 i h], fun i => by simp [hc, u3]⟩
  · trivial

theorem powOf_ok {e : X} {n : Nat} (h : powOf e = some n) : e = .lit (Int.ofNat (2 ^ n)) := by
  unfold powOf at h
  split at h
  · split at h
    · next hb => cases h; rw [Nat.eq_of_beq_eq_true hb]
    · cases h
  · cases h
theorem litOf_ok {e : X} {n : Nat} (h : litOf e = some n) : e = .lit (Int.ofNat n) := by
  unfold litOf at h
  split at h
  · cases h; rfl
  · cases h

theorem blast_ok (hK : K.ok ρ) : ∀ e : X, Is ρ e (X.blast K e) := by
  intro e
  induction e with
  | iv n =>
    simp only [X.blast]
    split
    · next l h e =>
      split
      · next hh =>
        rw [nth_some] at e
        rw [Nat.ble_eq] at hh
        have hb := hK.1 n _ _ e
        have h0 : (0 : Int) ≤ Int.ofNat l := Int.natCast_nonneg l
        have hv : ρ.i n = ((ρ.i n).toNat : Int) := by omega
        have hle : (ρ.i n).toNat ≤ h := by have := hb.2; simp only [Int.ofNat_eq_natCast] at this; omega
        refine ⟨(ρ.i n).toNat, hv, fun i hi => ?_, atomB_ok hK hv (by omega)⟩
        rw [Nat.testBit_two_pow_sub_one]
        simp only [decide_eq_true_eq]
        have h1 : (ρ.i n).toNat < 2 ^ (h.log2 + 1) := Nat.lt_of_le_of_lt hle Nat.lt_log2_self
        exact Nat.lt_of_not_le fun hc => by
          rw [Nat.testBit_lt_two_pow (Nat.lt_of_lt_of_le h1 (Nat.pow_le_pow_right (by omega) hc))] at hi
          cases hi
      · trivial
    · trivial
  | lit z =>
    cases z with
    | ofNat z => exact ⟨z, rfl, fun i h => h, fun i => rfl⟩
    | negSucc z => trivial
  | bin op k a b iha ihb =>
    cases op with
    | and => exact bAnd_ok iha ihb
    | or => exact bOr_ok iha ihb
    | xor => exact bXor_ok iha ihb
    | andNot => exact bAndNot_ok iha ihb
    | add => exact bAdd_ok iha ihb
    | shl =>
      simp only [X.blast]
      split
      · next n hn =>
        split
        · next hl => rw [Nat.ble_eq] at hl; rw [litOf_ok hn]; exact bShl_shl hl iha
        · trivial
      · trivial
    | shr =>
      simp only [X.blast]
      split
      · next n hn =>
        split
        · next hl => rw [Nat.ble_eq] at hl; rw [litOf_ok hn]; exact bShr_ok hl iha
        · trivial
      · trivial
    | quo =>
      simp only [X.blast]
      split
      · next n hn => rw [powOf_ok hn]; exact bQuo_ok iha
      · trivial
    | rem =>
      simp only [X.blast]
      split
      · next n hn => rw [powOf_ok hn]; exact bRem_ok iha
      · trivial
    | mul =>
      simp only [X.blast]
      split
      · next n hn => rw [powOf_ok hn]; exact (bShl_mul iha).1
      · split
        · next n hn => rw [powOf_ok hn]; exact (bShl_mul ihb).2
        · trivial
    | _ => trivial
  | wrap k a ih => exact bWrap_ok ih
  | ite c a b _ iha ihb => exact bIte_ok iha ihb
  | ofB a _ =>
    refine ⟨if a.B ρ then 1 else 0, ?_, fun i => ?_, fun i => ?_⟩
    · simp only [X.I]; split <;> rfl
    · split
      · exact id
      · simp
    · by_cases hi : i = 0
      · subst hi; simp; cases a.B ρ <;> rfl
      · have hb : Nat.beq i 0 = false := by cases i with
          | zero => exact absurd rfl hi
          | succ i => rfl
        simp only [hb, Bool.false_eq_true, if_false, X.B]
        split
        · cases h1 : Nat.testBit 1 i with
          | false => rfl
          | true => exact absurd (Nat.testBit_one_eq_true_iff_self_eq_zero.1 h1) hi
        · simp
  | _ => trivial

theorem eqBits_ok {f g : Nat → X} {v u : Nat} (hf : ∀ i, (f i).B ρ = v.testBit i) (hg : ∀ i, (g i).B ρ = u.testBit i) : ∀ n, (eqBits f g n).B ρ = decide (v % 2 ^ n = u % 2 ^ n)
  | 0 => by simp [eqBits, X.B, Nat.mod_one]
  | n + 1 => by
    simp only [eqBits, B_mkAnd, B_mkBeq, hf, hg, eqBits_ok hf hg n, mod_succ]
    have h1 : v % 2 ^ n < 2 ^ n := Nat.mod_lt _ (Nat.two_pow_pos n)
    have h2 : u % 2 ^ n < 2 ^ n := Nat.mod_lt _ (Nat.two_pow_pos n)
    generalize 2 ^ n = p at *
    cases v.testBit n <;> cases u.testBit n <;> simp <;> omega
theorem ltBits_ok {f g : Nat → X} {v u : Nat} (hf : ∀ i, (f i).B ρ = v.testBit i) (hg : ∀ i, (g i).B ρ = u.testBit i) : ∀ n, (ltBits f g n).B ρ = decide (v % 2 ^ n < u % 2 ^ n)
  | 0 => by simp [ltBits, X.B, Nat.mod_one]
  | n + 1 => by
    simp only [ltBits, B_mkIteB, B_mkBeq, hf, hg, ltBits_ok hf hg n, mod_succ]
    have h1 : v % 2 ^ n < 2 ^ n := Nat.mod_lt _ (Nat.two_pow_pos n)
    have h2 : u % 2 ^ n < 2 ^ n := Nat.mod_lt _ (Nat.two_pow_pos n)
    generalize 2 ^ n = p at *
    cases v.testBit n <;> cases u.testBit n <;> simp <;> omega

theorem blastC_ok (hK : K.ok ρ) {op : BinOp} {a b e : X} (h : blastC K op a b = some e) : e.B ρ = cmpI op (a.I ρ) (b.I ρ) := by
  unfold blastC at h
  split at h
  · split at h
    · next x f y g ea eb =>
      have ha := blast_ok hK a
      have hb := blast_ok hK b
      rw [ea] at ha
      rw [eb] at hb
      obtain ⟨v, v1, v2, v3⟩ := ha
      obtain ⟨u, u1, u2, u3⟩ := hb
      split at h
      · have hl : (x ||| y) < 2 ^ (Nat.log2 (x ||| y) + 1) := Nat.lt_log2_self
        have hx : x ≤ x ||| y := Nat.left_le_or
        have hy : y ≤ x ||| y := Nat.right_le_or
        have hv := le_of_bits v2
        have hu := le_of_bits u2
        have mv : v % 2 ^ (Nat.log2 (x ||| y) + 1) = v := Nat.mod_eq_of_lt (by omega)
        have mu : u % 2 ^ (Nat.log2 (x ||| y) + 1) = u := Nat.mod_eq_of_lt (by omega)
        have q1 := eqBits_ok v3 u3 (Nat.log2 (x ||| y) + 1)
        have q2 := ltBits_ok v3 u3 (Nat.log2 (x ||| y) + 1)
        have q3 := ltBits_ok u3 v3 (Nat.log2 (x ||| y) + 1)
        rw [mv, mu] at q1 q2
        rw [mv, mu] at q3
        rw [v1, u1]
        cases op <;> simp only [Option.some.injEq, reduceCtorEq] at h <;> subst h <;> simp only [B_mkNot, q1, q2, q3, cmpI]
        all_goals first
          | (rw [Bool.eq_iff_iff]; simp; omega)
          | (rw [Bool.eq_iff_iff]; simp)
      · cases h
    · cases h
  · cases h
end
end Go.Sx
