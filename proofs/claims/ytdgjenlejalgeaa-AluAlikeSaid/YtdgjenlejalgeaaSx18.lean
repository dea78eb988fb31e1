/- A small machine that reads straight Go code as trees, and its truth. -/
import Derived.Test.YtdgjenlejalgeaaSx17
namespace Go.Sx

/-! ### Plain facts on numbers -/
theorem pow_le_bits {k : IntKind} {n : Nat} (h : (n : Int) ≤ kHi k) : n < 2 ^ k.bits := by
  cases k <;> simp [kHi, IntKind.bits] at * <;> omega

theorem and_nat (k : IntKind) {x y : Int} (hx : 0 ≤ x) (hx' : x ≤ kHi k) (hy : 0 ≤ y) (hy' : y ≤ kHi k) : arith .and k x y = ((x.toNat &&& y.toNat : Nat) : Int) := by
  have h1 : (x.toNat &&& y.toNat) ≤ x.toNat := Nat.and_le_left
  simp only [arith, BitVec.toNat_and, ofInt_nat k x hx hx', ofInt_nat k y hy hy']
  exact wrap_small k (by omega) (by omega)
theorem or_nat (k : IntKind) (hk : k.signed = false) {x y : Int} (hx : 0 ≤ x) (hx' : x ≤ kHi k) (hy : 0 ≤ y) (hy' : y ≤ kHi k) : arith .or k x y = ((x.toNat ||| y.toNat : Nat) : Int) := by
  have h1 : x.toNat ||| y.toNat < 2 ^ k.bits := Nat.or_lt_two_pow (pow_le_bits (k := k) (by omega)) (pow_le_bits (k := k) (by omega))
  simp only [arith, BitVec.toNat_or, ofInt_nat k x hx hx', ofInt_nat k y hy hy']
  refine wrap_small k (by omega) ?_
  generalize x.toNat ||| y.toNat = m at *
  cases k <;> simp [kHi, IntKind.bits, IntKind.signed] at * <;> omega
theorem xor_nat (k : IntKind) (hk : k.signed = false) {x y : Int} (hx : 0 ≤ x) (hx' : x ≤ kHi k) (hy : 0 ≤ y) (hy' : y ≤ kHi k) : arith .xor k x y = ((x.toNat ^^^ y.toNat : Nat) : Int) := by
  have h1 : x.toNat ^^^ y.toNat < 2 ^ k.bits := Nat.xor_lt_two_pow (pow_le_bits (k := k) (by omega)) (pow_le_bits (k := k) (by omega))
  simp only [arith, BitVec.toNat_xor, ofInt_nat k x hx hx', ofInt_nat k y hy hy']
  refine wrap_small k (by omega) ?_
  generalize x.toNat ^^^ y.toNat = m at *
  cases k <;> simp [kHi, IntKind.bits, IntKind.signed] at * <;> omega
theorem shr_nat (k : IntKind) {x : Int} (n : Nat) (hn : n ≤ k.bits) : arith .shr k x (n : Int) = x / 2 ^ n := by
  have : min ((n : Int).toNat) k.bits = n := by simp; omega
  simp only [arith, this]
  exact Int.fdiv_eq_ediv_of_nonneg _ (Int.le_of_lt (Int.pow_pos (by omega)))
theorem shl_nat (k : IntKind) {x : Int} (n : Nat) (hn : n ≤ k.bits) : arith .shl k x (n : Int) = k.wrap (x * 2 ^ n) := by
  have : min ((n : Int).toNat) k.bits = n := by simp; omega
  simp only [arith, this]
theorem rem_nat (k : IntKind) {x y : Int} (hx : 0 ≤ x) : arith .rem k x y = x % y := Int.tmod_eq_emod_of_nonneg hx
theorem quo_nat (k : IntKind) {x y : Int} (hx : 0 ≤ x) (hx' : x ≤ kHi k) (hy : 0 ≤ y) : arith .quo k x y = x / y := by
  simp only [arith]
  rw [Int.tdiv_eq_ediv_of_nonneg hx]
  exact wrap_small k (Int.ediv_nonneg hx hy) (Int.le_trans (Int.ediv_le_self _ hx) hx')
theorem add_small (k : IntKind) {x y : Int} (h0 : 0 ≤ x + y) (h1 : x + y ≤ kHi k) : arith .add k x y = x + y := wrap_small k h0 h1
theorem mul_small (k : IntKind) {x y : Int} (h0 : 0 ≤ x * y) (h1 : x * y ≤ kHi k) : arith .mul k x y = x * y := wrap_small k h0 h1

theorem noSum (P : Program) (ρ : Env) : SumOk P ρ fun _ => none := fun _ _ h => by cases h

/-- Two bytes as one number. -/
theorem word_nat {a b : Int} (ha : 0 ≤ a) (ha' : a ≤ 255) (hb : 0 ≤ b) (hb' : b ≤ 255) : arith .or .u16 a (arith .shl .u16 b 8) = a + 256 * b := by
  have e : arith .shl .u16 b 8 = 256 * b := by
    have := shl_nat .u16 (x := b) 8 (by simp [IntKind.bits])
    rw [show ((8 : Nat) : Int) = (8 : Int) from rfl] at this
    rw [this, wrap_small .u16 (by omega) (by simp [kHi]; omega)]
    omega
  rw [e, or_nat .u16 rfl ha (by simp [kHi]; omega) (by omega) (by simp [kHi]; omega)]
  have h1 : (256 * b).toNat = b.toNat <<< 8 := by rw [Nat.shiftLeft_eq]; omega
  rw [h1, Nat.or_comm, ← Nat.shiftLeft_add_eq_or_of_lt (by omega), Nat.shiftLeft_eq]
  omega
end Go.Sx
