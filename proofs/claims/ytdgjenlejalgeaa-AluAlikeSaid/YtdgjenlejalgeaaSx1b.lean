/- A small machine that reads straight Go code as trees, and its truth. -/
import Derived.Test.YtdgjenlejalgeaaSx1
namespace Go.Sx

theorem nth_some {α : Type} : ∀ (l : List α) (n : Nat), nth l n = l[n]?
  | [], n => by cases n <;> rfl
  | a :: l, 0 => rfl
  | a :: l, n + 1 => by simp [nth, nth_some l n]

theorem intLe_iff {a b : Int} : intLe a b = true ↔ a ≤ b := by
  cases a <;> cases b <;> simp [intLe] <;> omega

theorem kLo_eq (k : IntKind) : kLo k = k.min := by cases k <;> rfl
theorem kHi_eq (k : IntKind) : kHi k = k.max := by cases k <;> rfl

theorem wrap_bd (k : IntKind) (n : Int) : kLo k ≤ k.wrap n ∧ k.wrap n ≤ kHi k := by
  cases k <;> simp [IntKind.wrap, kLo, kHi, IntKind.bits, IntKind.signed] <;> (try split) <;> omega
theorem wrap_id {k : IntKind} {n : Int} (h1 : kLo k ≤ n) (h2 : n ≤ kHi k) : k.wrap n = n := by
  cases k <;> simp [IntKind.wrap, kLo, kHi, IntKind.bits, IntKind.signed] at * <;> (try split) <;> omega

theorem within_bd {k : IntKind} {l h n : Int} (h1 : l ≤ n) (h2 : n ≤ h) {l' h' : Int} (hw : within k l h = (l', h')) : l' ≤ k.wrap n ∧ k.wrap n ≤ h' := by
  unfold within at hw
  split at hw
  · rename_i hc
    simp only [Bool.and_eq_true, intLe_iff] at hc
    simp only [Prod.mk.injEq] at hw
    obtain ⟨rfl, rfl⟩ := hw
    rw [wrap_id (by omega) (by omega)]
    exact ⟨h1, h2⟩
  · simp only [Prod.mk.injEq] at hw
    obtain ⟨rfl, rfl⟩ := hw
    exact wrap_bd k n

theorem and_bd (k : IntKind) (x y : Int) (hx : 0 ≤ x) (hy : 0 ≤ y) (hx' : x ≤ kHi k) (hy' : y ≤ kHi k) : 0 ≤ arith .and k x y ∧ arith .and k x y ≤ x ∧ arith .and k x y ≤ y := by
  have hb : ∀ z : Int, 0 ≤ z → z ≤ kHi k → (BitVec.ofInt k.bits z).toNat = z.toNat := by
    intro z h0 h1
    rw [BitVec.toNat_ofInt]
    cases k <;> simp [kHi, IntKind.bits] at * <;> omega
  unfold arith
  simp only [BitVec.toNat_and, hb x hx hx', hb y hy hy']
  have h1 : (x.toNat &&& y.toNat) ≤ x.toNat := Nat.and_le_left
  have h2 : (x.toNat &&& y.toNat) ≤ y.toNat := Nat.and_le_right
  generalize x.toNat &&& y.toNat = m at *
  rw [wrap_id (n := ((m : Nat) : Int)) (by cases k <;> simp [kLo] <;> omega) (by omega)]
  omega

theorem and_low (k : IntKind) (x y : Int) (hy : 0 ≤ y) (hy' : y ≤ kHi k) : 0 ≤ arith .and k x y ∧ arith .and k x y ≤ y := by
  have hb : (BitVec.ofInt k.bits y).toNat = y.toNat := by
    rw [BitVec.toNat_ofInt]
    cases k <;> simp [kHi, IntKind.bits] at * <;> omega
  unfold arith
  simp only [BitVec.toNat_and, hb]
  have h2 : ((BitVec.ofInt k.bits x).toNat &&& y.toNat) ≤ y.toNat := Nat.and_le_right
  generalize (BitVec.ofInt k.bits x).toNat &&& y.toNat = m at *
  rw [wrap_id (n := ((m : Nat) : Int)) (by cases k <;> simp [kLo] <;> omega) (by omega)]
  omega

theorem ofInt_nat (k : IntKind) (z : Int) (h0 : 0 ≤ z) (h1 : z ≤ kHi k) : (BitVec.ofInt k.bits z).toNat = z.toNat := by
  rw [BitVec.toNat_ofInt]
  cases k <;> simp [kHi, IntKind.bits] at * <;> omega
theorem kLo_le (k : IntKind) : kLo k ≤ 0 := by cases k <;> simp [kLo]
theorem wrap_small (k : IntKind) {n : Int} (h1 : 0 ≤ n) (h2 : n ≤ kHi k) : k.wrap n = n := wrap_id (Int.le_trans (kLo_le k) h1) h2

theorem and_pow (v i : Nat) : v &&& 2 ^ i = if v.testBit i = true then 2 ^ i else 0 := by
  apply Nat.eq_of_testBit_eq
  intro j
  rw [Nat.testBit_and, Nat.testBit_two_pow]
  by_cases h : i = j
  · subst h; cases hv : v.testBit i <;> simp
  · split <;> simp [h]
theorem andP_ok {r : Option (Int × Int)} {k : IntKind} {b : X} {z : Int} (h : andP r k b = some z) {ρ : Env} {x : Int} (hr : ∀ l h, r = some (l, h) → l ≤ x ∧ x ≤ h) : arith .and k x (b.I ρ) = z := by
  unfold andP at h
  split at h
  · next l0 h0 m =>
    split at h
    · next hc =>
      simp only [Bool.and_eq_true, intLe_iff] at hc
      obtain ⟨⟨⟨c1, c2⟩, c3⟩, c4⟩ := hc
      have c1 := Nat.eq_of_beq_eq_true c1
      have c4 := Nat.eq_of_beq_eq_true c4
      cases h
      have hx := hr _ _ rfl
      have c2' : (h0 : Int) ≤ kHi k := c2
      have c3' : (m : Int) ≤ kHi k := c3
      have hx1 : (l0 : Int) ≤ x := hx.1
      have hx2 : x ≤ (h0 : Int) := hx.2
      obtain ⟨n, rfl⟩ : ∃ n : Nat, x = n := ⟨x.toNat, by omega⟩
      have n1 : l0 ≤ n := by omega
      have n2 : n ≤ h0 := by omega
      have hm : 0 < m := by rw [← c1]; exact Nat.two_pow_pos _
      have d : n / m = l0 / m := by
        have := Nat.div_le_div_right (c := m) n1
        have := Nat.div_le_div_right (c := m) n2
        omega
      simp only [X.I, arith]
      rw [BitVec.toNat_and, ofInt_nat k (n : Int) (by omega) (by omega), ofInt_nat k (Int.ofNat m) (by show (0 : Int) ≤ (m : Int); omega) c3']
      have e : ((n : Int).toNat &&& (Int.ofNat m).toNat) = l0 / m % 2 * m := by
        show n &&& m = _
        rw [← c1, and_pow, Nat.testBit_eq_decide_div_mod_eq, c1, d]
        have : l0 / m % 2 = 0 ∨ l0 / m % 2 = 1 := by omega
        rcases this with e | e <;> simp [e]
      rw [e]
      have le : l0 / m % 2 * m ≤ m := by
        have : l0 / m % 2 = 0 ∨ l0 / m % 2 = 1 := by omega
        rcases this with e | e <;> simp [e]
      exact wrap_small k (by omega) (by have : ((l0 / m % 2 * m : Nat) : Int) ≤ (m : Int) := by exact_mod_cast le
                                        omega)
    · cases h
  · cases h
theorem orP_ok {r s : Option (Int × Int)} {k : IntKind} {low : Bool} {l h : Int} (e : orP r s k low = some (l, h)) {x y : Int} (hr : ∀ l h, r = some (l, h) → l ≤ x ∧ x ≤ h) (hs : ∀ l h, s = some (l, h) → l ≤ y ∧ y ≤ h)
    {op : BinOp} (ho : (op = .or) ∨ (op = .xor ∧ low = false)) : l ≤ arith op k x y ∧ arith op k x y ≤ h := by
  unfold orP at e
  split at e
  · next l1 h1 l2 h2 =>
    simp only at e
    split at e
    · next hc =>
      rw [intLe_iff] at hc
      simp only [Option.some.injEq, Prod.mk.injEq] at e
      have hx := hr _ _ rfl
      have hy := hs _ _ rfl
      have hx1 : (l1 : Int) ≤ x := hx.1
      have hx2 : x ≤ (h1 : Int) := hx.2
      have hy1 : (l2 : Int) ≤ y := hy.1
      have hy2 : y ≤ (h2 : Int) := hy.2
      obtain ⟨n, rfl⟩ : ∃ n : Nat, x = n := ⟨x.toNat, by omega⟩
      obtain ⟨m, rfl⟩ : ∃ n : Nat, y = n := ⟨y.toNat, by omega⟩
      have g1 : h1 ≤ Nat.lor h1 h2 := Nat.left_le_or
      have g2 : h2 ≤ Nat.lor h1 h2 := Nat.right_le_or
      generalize Nat.lor h1 h2 = q at *
      have g3 : q < 2 ^ (Nat.log2 q + 1) := Nat.lt_log2_self
      generalize Nat.log2 q + 1 = t at *
      have hc : (((2 ^ t - 1 : Nat)) : Int) ≤ kHi k := hc
      have b1 : (n : Int) ≤ kHi k := by omega
      have b2 : (m : Int) ≤ kHi k := by omega
      have o1 : n ≤ n ||| m := Nat.left_le_or
      have o2 : m ≤ n ||| m := Nat.right_le_or
      have o3 : n ||| m < 2 ^ t := Nat.or_lt_two_pow (by omega) (by omega)
      have o4 : n ^^^ m < 2 ^ t := Nat.xor_lt_two_pow (by omega) (by omega)
      obtain ⟨rfl, rfl⟩ := e
      rcases ho with rfl | ⟨rfl, rfl⟩
      · simp only [arith]
        rw [BitVec.toNat_or, ofInt_nat k (n : Int) (by omega) b1, ofInt_nat k (m : Int) (by omega) b2]
        rw [show (n : Int).toNat ||| (m : Int).toNat = n ||| m from rfl, wrap_small k (by omega) (by omega)]
        refine ⟨?_, by show ((n ||| m : Nat) : Int) ≤ ((2 ^ t - 1 : Nat) : Int); omega⟩
        show (((if low = true then if l1.ble l2 = true then l2 else l1 else 0 : Nat)) : Int) ≤ ((n ||| m : Nat) : Int)
        split
        · split <;> omega
        · omega
      · simp only [arith]
        rw [BitVec.toNat_xor, ofInt_nat k (n : Int) (by omega) b1, ofInt_nat k (m : Int) (by omega) b2]
        rw [show (n : Int).toNat ^^^ (m : Int).toNat = n ^^^ m from rfl, wrap_small k (by omega) (by omega)]
        refine ⟨?_, by show ((n ^^^ m : Nat) : Int) ≤ ((2 ^ t - 1 : Nat) : Int); omega⟩
        show (((if false = true then if l1.ble l2 = true then l2 else l1 else 0 : Nat)) : Int) ≤ ((n ^^^ m : Nat) : Int)
        simp only [Bool.false_eq_true, if_false]
        omega
    · cases e
  · cases e
theorem andNot_bd (k : IntKind) (x y : Int) (hx : 0 ≤ x) (hx' : x ≤ kHi k) : 0 ≤ arith .andNot k x y ∧ arith .andNot k x y ≤ x := by
  unfold arith
  simp only [BitVec.toNat_and, ofInt_nat k x hx hx']
  have h2 : (x.toNat &&& (~~~BitVec.ofInt k.bits y).toNat) ≤ x.toNat := Nat.and_le_left
  generalize x.toNat &&& (~~~BitVec.ofInt k.bits y).toNat = m at *
  rw [wrap_small k (by omega) (by omega)]
  omega
theorem rng_ok {A : Known} {ρ : Env} (hA : ∀ n l h, A.rg[n]? = some (some (l, h)) → l ≤ ρ.i n ∧ ρ.i n ≤ h) :
    ∀ (x : X) (l h : Int), X.rng A.rg x = some (l, h) → l ≤ x.I ρ ∧ x.I ρ ≤ h := by
  intro x
  induction x with
  | iv n =>
    intro l h hx
    simp only [X.rng, nth_some] at hx
    split at hx
    · rename_i r hr; subst hx; exact hA n l h hr
    · cases hx
  | lit z => intro l h hx; simp only [X.rng, Option.some.injEq, Prod.mk.injEq] at hx; simp only [X.I]; omega
  | wrap k a ih =>
    intro l h hx
    simp only [X.rng] at hx
    split at hx
    · rename_i l0 h0 hr
      have := ih l0 h0 hr
      exact within_bd this.1 this.2 (Option.some.inj hx)
    · simp only [Option.some.injEq, Prod.mk.injEq] at hx
      have := wrap_bd k (a.I ρ)
      simp only [X.I]; omega
  | bin op k a b ih1 ih2 =>
    intro l h hx
    have full : ∀ v : Int, some (kLo k, kHi k) = some (l, h) → l ≤ k.wrap v ∧ k.wrap v ≤ h := by
      intro v hv
      simp only [Option.some.injEq, Prod.mk.injEq] at hv
      have := wrap_bd k v
      omega
    cases op <;> simp only [X.rng] at hx <;> try (cases hx; done)
    case add =>
      split at hx
      · rename_i l1 h1 l2 h2 e1 e2
        have := ih1 _ _ e1; have := ih2 _ _ e2
        exact within_bd (by omega) (by omega) (Option.some.inj hx)
      · exact full _ hx
    case sub =>
      split at hx
      · rename_i l1 h1 l2 h2 e1 e2
        have := ih1 _ _ e1; have := ih2 _ _ e2
        exact within_bd (by omega) (by omega) (Option.some.inj hx)
      · exact full _ hx
    case mul =>
      split at hx
      · rename_i l1 h1 l2 h2 e1 e2
        have p1 := ih1 _ _ e1; have p2 := ih2 _ _ e2
        split at hx
        · rename_i hc
          simp only [Bool.and_eq_true, intLe_iff] at hc
          refine within_bd ?_ ?_ (Option.some.inj hx)
          · exact Int.mul_le_mul p1.1 p2.1 hc.2 (by omega)
          · exact Int.mul_le_mul p1.2 p2.2 (by omega) (by omega)
        · exact full _ hx
      · exact full _ hx
    case quo =>
      split at hx
      · rename_i l1 h1 n e1
        have p1 := ih1 _ _ e1
        split at hx
        · rename_i hc
          simp only [Bool.and_eq_true, intLe_iff, Nat.ble_eq] at hc
          simp only [Option.some.injEq, Prod.mk.injEq] at hx
          obtain ⟨rfl, rfl⟩ := hx
          have hn : (0 : Int) < (Int.ofNat n) := by simp; omega
          have e : (X.I ρ a).tdiv (Int.ofNat n) = (X.I ρ a) / (Int.ofNat n) := Int.tdiv_eq_ediv_of_nonneg (by omega)
          have e' : h1.tdiv (Int.ofNat n) = h1 / (Int.ofNat n) := Int.tdiv_eq_ediv_of_nonneg (by omega)
          have q0 : 0 ≤ (X.I ρ a) / (Int.ofNat n) := Int.ediv_nonneg (by omega) (by omega)
          have e2 : l1.tdiv (Int.ofNat n) = l1 / (Int.ofNat n) := Int.tdiv_eq_ediv_of_nonneg (by omega)
          have q3 : l1 / (Int.ofNat n) ≤ (X.I ρ a) / (Int.ofNat n) := Int.ediv_le_ediv hn p1.1
          have q1 : (X.I ρ a) / (Int.ofNat n) ≤ h1 / (Int.ofNat n) := Int.ediv_le_ediv hn p1.2
          have q2 : h1 / (Int.ofNat n) ≤ h1 := Int.ediv_le_self _ (by omega)
          have hk : kLo k ≤ 0 := by cases k <;> simp [kLo]
          simp only [X.I, arith]
          rw [e, wrap_id (by omega) (by omega)]
          constructor
          · show l1.tdiv (Int.ofNat n) ≤ _; rw [e2]; exact q3
          · show _ ≤ h1.tdiv (Int.ofNat n); rw [e']; exact q1
        · exact full _ hx
      · exact full _ hx
    case rem =>
      split at hx
      · rename_i l1 h1 n e1
        have p1 := ih1 _ _ e1
        split at hx
        · rename_i hc
          simp only [Bool.and_eq_true, intLe_iff, Nat.ble_eq] at hc
          have hn : (0 : Int) < (Int.ofNat n) := by simp; omega
          have e : (X.I ρ a).tmod (Int.ofNat n) = (X.I ρ a) % (Int.ofNat n) := Int.tmod_eq_emod_of_nonneg (by omega)
          split at hx
          · rename_i hb
            have hb := intB_eq hb
            simp only [Option.some.injEq, Prod.mk.injEq] at hx
            have d1 : l1 / (Int.ofNat n) ≤ (X.I ρ a) / (Int.ofNat n) := Int.ediv_le_ediv hn p1.1
            have d2 : (X.I ρ a) / (Int.ofNat n) ≤ h1 / (Int.ofNat n) := Int.ediv_le_ediv hn p1.2
            have hb : l1 / (Int.ofNat n) = h1 / (Int.ofNat n) := hb
            have d3 : (X.I ρ a) / (Int.ofNat n) = l1 / (Int.ofNat n) := by omega
            have m1 := Int.emod_add_mul_ediv (X.I ρ a) (Int.ofNat n)
            have m2 := Int.emod_add_mul_ediv l1 (Int.ofNat n)
            have m3 := Int.emod_add_mul_ediv h1 (Int.ofNat n)
            rw [d3] at m1
            rw [← hb] at m3
            have hx1 : l1 % (Int.ofNat n) = l := hx.1
            have hx2 : h1 % (Int.ofNat n) = h := hx.2
            simp only [X.I, arith]
            rw [e]
            omega
          simp only [Option.some.injEq, Prod.mk.injEq] at hx
          obtain ⟨rfl, rfl⟩ := hx
          have q0 : 0 ≤ (X.I ρ a) % (Int.ofNat n) := Int.emod_nonneg _ (by omega)
          have q1 : (X.I ρ a) % (Int.ofNat n) < (Int.ofNat n) := Int.emod_lt_of_pos _ hn
          have q2 : (X.I ρ a) % (Int.ofNat n) ≤ X.I ρ a := by
            have := Int.emod_add_mul_ediv (X.I ρ a) (Int.ofNat n)
            have : 0 ≤ (Int.ofNat n) * ((X.I ρ a) / (Int.ofNat n)) := Int.mul_nonneg (by omega) (Int.ediv_nonneg (by omega) (by omega))
            omega
          simp only [X.I, arith]
          rw [e]
          refine ⟨q0, ?_⟩
          have : Int.ofNat n = (n : Int) := rfl
          split <;> omega
        · cases hx
      · cases hx
    case and =>
      split at hx
      · next z hz =>
        simp only [Option.some.injEq, Prod.mk.injEq] at hx
        have := andP_ok hz (ρ := ρ) (x := a.I ρ) (fun l h e => ih1 l h e)
        simp only [X.I]
        omega
      have low : ∀ l2 h2, l2 ≤ b.I ρ → b.I ρ ≤ h2 → (intLe 0 l2 && intLe h2 (kHi k)) = true → some ((0 : Int), h2) = some (l, h) → l ≤ (X.bin .and k a b).I ρ ∧ (X.bin .and k a b).I ρ ≤ h := by
        intro l2 h2 q1 q2 hc hx
        simp only [Bool.and_eq_true, intLe_iff] at hc
        simp only [Option.some.injEq, Prod.mk.injEq] at hx
        obtain ⟨rfl, rfl⟩ := hx
        have := and_low k (a.I ρ) (b.I ρ) (by omega) (by omega)
        simp only [X.I]
        omega
      split at hx
      · rename_i l1 h1 l2 h2 e1 e2
        have p1 := ih1 _ _ e1; have p2 := ih2 _ _ e2
        split at hx
        · rename_i hc
          simp only [Bool.and_eq_true, intLe_iff] at hc
          simp only [Option.some.injEq, Prod.mk.injEq] at hx
          obtain ⟨rfl, rfl⟩ := hx
          have := and_bd k (a.I ρ) (b.I ρ) (by omega) (by omega) (by omega) (by omega)
          simp only [X.I]
          refine ⟨this.1, ?_⟩
          split <;> omega
        · split at hx
          · rename_i hc; exact low _ _ p2.1 p2.2 hc hx
          · exact full _ hx
      · rename_i l2 h2 e1 e2
        have p2 := ih2 _ _ e2
        split at hx
        · rename_i hc; exact low _ _ p2.1 p2.2 hc hx
        · exact full _ hx
      · exact full _ hx
    case shr =>
      have shr0 : ∀ (u : Int) (m : Nat), 0 ≤ u → 0 ≤ u.fdiv (2 ^ m) ∧ u.fdiv (2 ^ m) ≤ u := by
        intro u m hu
        have hp : (0 : Int) < 2 ^ m := Int.pow_pos (by omega)
        rw [Int.fdiv_eq_ediv_of_nonneg _ (by omega)]
        exact ⟨Int.ediv_nonneg hu (by omega), Int.ediv_le_self _ hu⟩
      split at hx
      · rename_i l1 h1 n e1
        have p1 := ih1 _ _ e1
        split at hx
        · rename_i hc
          simp only [Bool.and_eq_true, intLe_iff, Nat.ble_eq] at hc
          simp only [Option.some.injEq, Prod.mk.injEq] at hx
          obtain ⟨rfl, rfl⟩ := hx
          have hp : (0 : Int) < 2 ^ n := Int.pow_pos (by omega)
          have e : min (Int.ofNat n).toNat k.bits = n := by simp; omega
          simp only [X.I, arith, e]
          rw [Int.fdiv_eq_ediv_of_nonneg _ (by omega), Int.fdiv_eq_ediv_of_nonneg _ (by omega)]
          exact ⟨Int.ediv_nonneg (by omega) (by omega), Int.ediv_le_ediv hp p1.2⟩
        · cases hx
      · rename_i l1 h1 e1 _
        clear ih2
        have p1 := ih1 _ _ e1
        clear ih1
        split at hx
        · rename_i hc
          simp only [intLe_iff] at hc
          simp only [Option.some.injEq, Prod.mk.injEq] at hx
          obtain ⟨rfl, rfl⟩ := hx
          simp only [X.I, arith]
          exact ⟨(shr0 _ _ (by omega)).1, Int.le_trans (shr0 _ _ (by omega)).2 p1.2⟩
        · cases hx
      · cases hx
    case or =>
      split at hx
      · next r hr =>
        cases hx
        exact orP_ok hr (fun l h e => ih1 l h e) (fun l h e => ih2 l h e) (.inl rfl)
      · exact full _ hx
    case xor =>
      split at hx
      · next r hr =>
        cases hx
        exact orP_ok hr (fun l h e => ih1 l h e) (fun l h e => ih2 l h e) (.inr ⟨rfl, rfl⟩)
      · exact full _ hx
    case andNot =>
      split at hx
      · next l1 h1 e1 =>
        have p1 := ih1 _ _ e1
        split at hx
        · next hc =>
          simp only [Bool.and_eq_true, intLe_iff] at hc
          simp only [Option.some.injEq, Prod.mk.injEq] at hx
          have := andNot_bd k (a.I ρ) (b.I ρ) (by omega) (by omega)
          simp only [X.I]
          omega
        · exact full _ hx
      · exact full _ hx
    case shl =>
      split at hx
      · next l1 h1 n e1 =>
        have p1 := ih1 _ _ e1
        split at hx
        · next hc =>
          simp only [Bool.and_eq_true, intLe_iff, Nat.ble_eq] at hc
          simp only [Option.some.injEq, Prod.mk.injEq] at hx
          obtain ⟨rfl, rfl⟩ := hx
          have hp : (0 : Int) < 2 ^ n := Int.pow_pos (by omega)
          have e : min (Int.ofNat n).toNat k.bits = n := by simp; omega
          simp only [X.I, arith, e]
          have m1 : l1 * 2 ^ n ≤ a.I ρ * 2 ^ n := Int.mul_le_mul_of_nonneg_right p1.1 (by omega)
          have m2 : a.I ρ * 2 ^ n ≤ h1 * 2 ^ n := Int.mul_le_mul_of_nonneg_right p1.2 (by omega)
          have m3 : 0 ≤ l1 * 2 ^ n := Int.mul_nonneg hc.1.1 (by omega)
          rw [wrap_small k (by omega) (by omega)]
          exact ⟨m1, m2⟩
        · exact full _ hx
      · exact full _ hx
    all_goals exact full _ hx
  | ite c a b _ ih1 ih2 =>
    intro l h hx
    simp only [X.rng] at hx
    split at hx
    · rename_i l1 h1 l2 h2 e1 e2
      have p1 := ih1 _ _ e1; have p2 := ih2 _ _ e2
      simp only [Option.some.injEq, Prod.mk.injEq] at hx
      obtain ⟨rfl, rfl⟩ := hx
      have m1 : (if intLe l1 l2 = true then l1 else l2) ≤ l1 ∧ (if intLe l1 l2 = true then l1 else l2) ≤ l2 := by
        split
        · rename_i hc; rw [intLe_iff] at hc; omega
        · rename_i hc; rw [intLe_iff] at hc; omega
      have m2 : h1 ≤ (if intLe h1 h2 = true then h2 else h1) ∧ h2 ≤ (if intLe h1 h2 = true then h2 else h1) := by
        split
        · rename_i hc; rw [intLe_iff] at hc; omega
        · rename_i hc; rw [intLe_iff] at hc; omega
      simp only [X.I]
      cases X.B ρ c
      · exact ⟨Int.le_trans m1.2 p2.1, Int.le_trans p2.2 m2.2⟩
      · exact ⟨Int.le_trans m1.1 p1.1, Int.le_trans p1.2 m2.1⟩
    · cases hx
  | ofB a _ =>
    intro l h hx
    simp only [X.rng, Option.some.injEq, Prod.mk.injEq] at hx
    simp only [X.I]; split <;> omega
  | _ => intro l h hx; simp only [X.rng] at hx; cases hx

theorem lookup_ok {ρ : Env} {c : X} {v : Bool} : ∀ {l : List (X × Bool)}, (∀ x b, (x, b) ∈ l → x.B ρ = b) → lookup c l = some v → c.B ρ = v
  | [], _, h => by simp [lookup] at h
  | (x, b) :: l, hl, h => by
    simp only [lookup] at h
    split at h
    · rename_i he
      rw [← X.eqb_eq he]
      exact hl x v (by simp at h; simp [h])
    · exact lookup_ok (fun x b hx => hl x b (by simp [hx])) h

theorem cmpR_ok {op : BinOp} {l h l' h' x y : Int} {v : Bool} (h1 : l ≤ x) (h2 : x ≤ h) (h3 : l' ≤ y) (h4 : y ≤ h') (hc : cmpR op (l, h) (l', h') = some v) : cmpI op x y = v := by
  cases op <;> simp only [cmpR] at hc <;> try (cases hc; done)
  all_goals
    split at hc
    · rename_i hb
      simp only [Bool.or_eq_true, intLe_iff] at hb
      simp only [Option.some.injEq] at hc
      subst hc
      simp [cmpI]
      omega
    · first
      | (split at hc
         · rename_i hb
           simp only [Bool.and_eq_true, intLe_iff] at hb
           simp only [Option.some.injEq] at hc
           subst hc
           simp [cmpI]
           omega
         · cases hc)
      | cases hc

theorem cmp_neg {op : BinOp} {x y : Int} (ho : op = .lss ∨ op = .geq ∨ op = .leq ∨ op = .gtr ∨ op = .eql ∨ op = .neq) : cmpI (negOp op) x y = !(cmpI op x y) := by
  rcases ho with rfl | rfl | rfl | rfl | rfl | rfl <;> simp only [negOp, cmpI]
  · by_cases h : x < y <;> simp [h] <;> omega
  · by_cases h : x < y <;> simp [h] <;> omega
  · by_cases h : x ≤ y <;> simp [h] <;> omega
  · by_cases h : x ≤ y <;> simp [h] <;> omega
  · rfl
  · simp [bne]

theorem litZ_ok {e : X} {z : Int} (h : litZ e = some z) : e = .lit z := by
  cases e <;> simp [litZ] at h
  rw [h]
theorem lin_ok {A : Known} {ρ : Env} (hA : A.ok ρ) : ∀ e : X, e.I ρ = (X.lin A.rg e).1.I ρ + (X.lin A.rg e).2
  | .bin op k a b => by
    have fits : ∀ {x : X} {c : Int}, X.lin.fitsK k (X.rng A.rg x) c = true → k.wrap (x.I ρ + c) = x.I ρ + c := by
      intro x c h
      unfold X.lin.fitsK at h
      split at h
      · next l hh e =>
        simp only [Bool.and_eq_true, intLe_iff] at h
        have := rng_ok hA.1 x _ _ e
        exact wrap_id (by omega) (by omega)
      · cases h
    simp only [X.lin]
    split
    · split
      · next c hc =>
        rw [litZ_ok hc]
        split
        · next hf =>
          have := lin_ok hA a
          simp only [X.I, arith]
          rw [fits hf]; omega
        · simp
      · split
        · next c hc =>
          rw [litZ_ok hc]
          split
          · next hf =>
            have := lin_ok hA b
            simp only [X.I, arith]
            rw [Int.add_comm, fits hf]; omega
          · simp
        · simp
    · split
      · next c hc =>
        rw [litZ_ok hc]
        split
        · next hf =>
          have := lin_ok hA a
          simp only [X.I, arith]
          have := fits hf
          rw [show a.I ρ - c = a.I ρ + -c by omega, this]; omega
        · simp
      · simp
    · simp
  | .iv _ => by simp [X.lin]
  | .bv _ => by simp [X.lin]
  | .lit _ => by simp [X.lin]
  | .bl _ => by simp [X.lin]
  | .cmp .. => by simp [X.lin]
  | .wrap .. => by simp [X.lin]
  | .not _ => by simp [X.lin]
  | .and .. => by simp [X.lin]
  | .or .. => by simp [X.lin]
  | .beq .. => by simp [X.lin]
  | .ite .. => by simp [X.lin]
  | .ofB _ => by simp [X.lin]
  | .fi .. => by simp [X.lin]
  | .fb .. => by simp [X.lin]
  | .pair .. => by simp [X.lin]
  | .unit => by simp [X.lin]
def valL (ρ : Env) : List (X × Int) → Int
  | [] => 0
  | (x, m) :: l => m * x.I ρ + valL ρ l
theorem addAt_ok (ρ : Env) (x : X) (m : Int) : ∀ l : List (X × Int), valL ρ (addAt x m l) = valL ρ l + m * x.I ρ
  | [] => by simp [addAt, valL]
  | (y, n) :: l => by
    simp only [addAt]
    split
    · next h => rw [X.eqb_eq h]; simp only [valL]; rw [Int.add_mul]; omega
    · simp only [valL]; rw [addAt_ok ρ x m l]; omega
theorem fitsR_ok {k : IntKind} {r : Option (Int × Int)} (h : fitsR k r = true) : ∃ l u, r = some (l, u) ∧ ∀ x, l ≤ x → x ≤ u → k.wrap x = x := by
  unfold fitsR at h
  split at h
  · next l u =>
    simp only [Bool.and_eq_true, intLe_iff] at h
    exact ⟨l, u, rfl, fun x h1 h2 => wrap_id (by omega) (by omega)⟩
  · cases h
theorem mulR_ok {z x l u l' u' : Int} (h : mulR z (some (l, u)) = some (l', u')) (h1 : l ≤ x) (h2 : x ≤ u) : l' ≤ z * x ∧ z * x ≤ u' := by
  simp only [mulR] at h
  split at h
  · next hz =>
    have hz := intLe_iff.1 hz
    cases h
    exact ⟨Int.mul_le_mul_of_nonneg_left h1 hz, Int.mul_le_mul_of_nonneg_left h2 hz⟩
  · next hz =>
    have hz : z ≤ 0 := by have : ¬ (0 ≤ z) := fun h => hz (intLe_iff.2 h); omega
    cases h
    exact ⟨Int.mul_le_mul_of_nonpos_left hz h2, Int.mul_le_mul_of_nonpos_left hz h1⟩
theorem linG_ok {A : Known} {ρ : Env} (hA : A.ok ρ) : ∀ (e : X) (m : Int) (s : List (X × Int) × Int), valL ρ (X.linG A.rg e m s).1 + (X.linG A.rg e m s).2 = valL ρ s.1 + s.2 + m * e.I ρ
  | .lit z, m, s => by simp only [X.linG, X.I]; omega
  | .wrap k a, m, s => by
    simp only [X.linG]
    split
    · next h =>
      obtain ⟨l, u, e, hw⟩ := fitsR_ok h
      have hb := rng_ok hA.1 a _ _ e
      rw [linG_ok hA a m s]
      simp only [X.I]
      rw [hw _ hb.1 hb.2]
    · simp only [addAt_ok]; omega
  | .bin op k a b, m, s => by
    have atom : valL ρ (addAt (.bin op k a b) m s.1) + s.2 = valL ρ s.1 + s.2 + m * (X.bin op k a b).I ρ := by rw [addAt_ok]; omega
    simp only [X.linG]
    split
    · split
      · next h =>
        obtain ⟨l, u, e, hw⟩ := fitsR_ok h
        unfold sumR at e
        split at e
        · next l1 h1 l2 h2 e1 e2 =>
          cases e
          have b1 := rng_ok hA.1 a _ _ e1
          have b2 := rng_ok hA.1 b _ _ e2
          rw [linG_ok hA a, linG_ok hA b]
          simp only [X.I, arith]
          rw [hw _ (by omega) (by omega), Int.mul_add]; omega
        · cases e
      · exact atom
    · split
      · next h =>
        obtain ⟨l, u, e, hw⟩ := fitsR_ok h
        unfold subR at e
        split at e
        · next l1 h1 l2 h2 e1 e2 =>
          cases e
          have b1 := rng_ok hA.1 a _ _ e1
          have b2 := rng_ok hA.1 b _ _ e2
          rw [linG_ok hA a, linG_ok hA b]
          simp only [X.I, arith]
          rw [hw _ (by omega) (by omega), Int.mul_sub, Int.neg_mul]; omega
        · cases e
      · exact atom
    · split
      · next z hz =>
        split
        · next h =>
          obtain ⟨l, u, e, hw⟩ := fitsR_ok h
          cases hr : X.rng A.rg a with
          | none => rw [hr] at e; simp [mulR] at e
          | some r =>
            rw [hr] at e
            have b1 := rng_ok hA.1 a _ _ hr
            have b2 := mulR_ok e b1.1 b1.2
            rw [linG_ok hA a, litZ_ok hz]
            simp only [X.I, arith]
            rw [Int.mul_comm (X.I ρ a) z, hw _ b2.1 b2.2, Int.mul_assoc]
        · exact atom
      · split
        · next z hz =>
          split
          · next h =>
            obtain ⟨l, u, e, hw⟩ := fitsR_ok h
            cases hr : X.rng A.rg b with
            | none => rw [hr] at e; simp [mulR] at e
            | some r =>
              rw [hr] at e
              have b1 := rng_ok hA.1 b _ _ hr
              have b2 := mulR_ok e b1.1 b1.2
              rw [linG_ok hA b, litZ_ok hz]
              simp only [X.I, arith]
              rw [hw _ b2.1 b2.2, Int.mul_assoc]
          · exact atom
        · exact atom
    · exact atom
  | .iv _, m, s => by simp only [X.linG, addAt_ok]; omega
  | .bv _, m, s => by simp only [X.linG, addAt_ok]; omega
  | .bl _, m, s => by simp only [X.linG, addAt_ok]; omega
  | .cmp .., m, s => by simp only [X.linG, addAt_ok]; omega
  | .not _, m, s => by simp only [X.linG, addAt_ok]; omega
  | .and .., m, s => by simp only [X.linG, addAt_ok]; omega
  | .or .., m, s => by simp only [X.linG, addAt_ok]; omega
  | .beq .., m, s => by simp only [X.linG, addAt_ok]; omega
  | .ite .., m, s => by simp only [X.linG, addAt_ok]; omega
  | .ofB _, m, s => by simp only [X.linG, addAt_ok]; omega
  | .fi .., m, s => by simp only [X.linG, addAt_ok]; omega
  | .fb .., m, s => by simp only [X.linG, addAt_ok]; omega
  | .pair .., m, s => by simp only [X.linG, addAt_ok]; omega
  | .unit, m, s => by simp only [X.linG, addAt_ok]; omega
theorem rngS_ok {A : Known} {ρ : Env} (hA : A.ok ρ) : ∀ {l : List (X × Int)} {lo hi a b c : Int}, rngS A.rg l lo hi = some (a, b) → lo ≤ c → c ≤ hi → a ≤ c + valL ρ l ∧ c + valL ρ l ≤ b
  | [], lo, hi, a, b, c, h, h1, h2 => by simp only [rngS] at h; cases h; simp only [valL]; omega
  | (x, m) :: l, lo, hi, a, b, c, h, h1, h2 => by
    simp only [rngS] at h
    simp only [valL]
    split at h
    · next hm =>
      have := rngS_ok hA h h1 h2
      rw [intB_eq hm]; omega
    · split at h
      · next p q e =>
        have hb := rng_ok hA.1 x _ _ e
        split at h
        · next hz =>
          have hz := intLe_iff.1 hz
          have g1 := Int.mul_le_mul_of_nonneg_left hb.1 hz
          have g2 := Int.mul_le_mul_of_nonneg_left hb.2 hz
          have := rngS_ok hA (c := c + m * x.I ρ) h (by omega) (by omega)
          omega
        · next hz =>
          have hz : m ≤ 0 := by have : ¬ (0 ≤ m) := fun h => hz (intLe_iff.2 h); omega
          have g1 := Int.mul_le_mul_of_nonpos_left hz hb.1
          have g2 := Int.mul_le_mul_of_nonpos_left hz hb.2
          have := rngS_ok hA (c := c + m * x.I ρ) h (by omega) (by omega)
          omega
      · cases h
theorem linGC_ok {A : Known} {ρ : Env} (hA : A.ok ρ) {op : BinOp} {a b : X} {v : Bool} (h : linGC A op a b = some v) : cmpI op (a.I ρ) (b.I ρ) = v := by
  unfold linGC at h
  have h1 := linG_ok hA a 1 (X.linG A.rg b (-1) ([], 0))
  have h2 := linG_ok hA b (-1) ([], 0)
  generalize X.linG A.rg b (-1) ([], 0) = t at *
  generalize X.linG A.rg a 1 t = s at *
  obtain ⟨l, c⟩ := s
  simp only [valL] at h1 h2
  simp only at h
  split at h
  · next r hr =>
    obtain ⟨p, q⟩ := r
    have hb := rngS_ok hA hr (Int.le_refl c) (Int.le_refl c)
    have hd : c + valL ρ l = a.I ρ - b.I ρ := by omega
    rw [hd] at hb
    have := cmpR_ok hb.1 hb.2 (Int.le_refl 0) (Int.le_refl 0) h
    have hx : cmpI op (a.I ρ) (b.I ρ) = cmpI op (a.I ρ - b.I ρ) 0 := by
      cases op <;> simp only [cmpI] <;> rw [Bool.eq_iff_iff] <;> simp <;> omega
    rw [hx]; exact this
  · cases h
theorem linC_ok {A : Known} {ρ : Env} (hA : A.ok ρ) {op : BinOp} {a b : X} {v : Bool} (h : linC A op a b = some v) : cmpI op (a.I ρ) (b.I ρ) = v := by
  unfold linC at h
  split at h
  · have h1 := lin_ok hA a
    have h2 := lin_ok hA b
    split at h
    rename_i x c y d e1 e2
    rw [e1] at h1
    rw [e2] at h2
    split at h
    · next he =>
      have he := X.eqb_eq he
      subst he
      split at h
      all_goals first
        | (cases h
           rw [h1, h2]
           simp only [cmpI]
           rw [Bool.eq_iff_iff]; simp <;> omega)
        | cases h
    · exact linGC_ok hA h
  · cases h

theorem reflOp_ok {op : BinOp} {v : Bool} (h : reflOp op = some v) (x : Int) : cmpI op x x = v := by
  cases op <;> simp [reflOp] at h <;> subst h <;> simp [cmpI]
theorem linD_ok {A : Known} {ρ : Env} (hA : A.ok ρ) {op : BinOp} {a b : X} {v : Bool} (h : linD A op a b = some v) : cmpI op (a.I ρ) (b.I ρ) = v := by
  have sym : ∀ (op : BinOp) (x y : Int), isEq2 op = true → cmpI op x y = cmpI op y x := by
    intro op x y ho
    cases op <;> simp [isEq2] at ho
    · simp only [cmpI]; exact Bool.beq_comm
    · simp only [cmpI]; exact bne_comm
  unfold linD at h
  split at h
  · next u e =>
    cases h
    unfold flipL at e
    split at e
    · next hb => rw [X.eqb_eq hb]; exact reflOp_ok e _
    · split at e
      · next z =>
        split at e
        · next ho =>
          split at e
          · next w hl =>
            cases e
            have := lookup_ok hA.2.1 hl
            simp only [X.B] at this
            rw [sym op _ _ ho]; exact this
          · split at e
            · next w hl =>
              cases e
              have := lookup_ok hA.2.1 hl
              simp only [X.B] at this
              rw [cmp_neg (by cases op <;> simp [isEq2] at ho <;> simp)] at this
              rw [sym op _ _ ho, ← this, Bool.not_not]
            · cases e
        · cases e
      · cases e
  · exact linC_ok hA h

theorem dec_ok {A : Known} {ρ : Env} (hA : A.ok ρ) : ∀ (x : X) (v : Bool), X.dec A x = some v → x.B ρ = v := by
  intro x
  induction x with
  | bl b => intro v h; simp only [X.dec, Option.some.injEq] at h; simp [X.B, h]
  | not a ih =>
    intro v h
    simp only [X.dec, Option.map_eq_some_iff] at h
    obtain ⟨u, hu, rfl⟩ := h
    simp [X.B, ih u hu]
  | and a b ih1 ih2 =>
    intro v h
    simp only [X.dec] at h
    split at h
    · rename_i e; have := ih1 _ e; simp only [Option.some.injEq] at h; simp [X.B, this, ← h]
    · rename_i e _; have := ih2 _ e; simp only [Option.some.injEq] at h; simp [X.B, this, ← h]
    · rename_i e1 e2; have := ih1 _ e1; have := ih2 _ e2; simp only [Option.some.injEq] at h; simp [X.B, *]
    · exact lookup_ok hA.2.1 h
  | or a b ih1 ih2 =>
    intro v h
    simp only [X.dec] at h
    split at h
    · rename_i e; have := ih1 _ e; simp only [Option.some.injEq] at h; simp [X.B, this, ← h]
    · rename_i e _; have := ih2 _ e; simp only [Option.some.injEq] at h; simp [X.B, this, ← h]
    · rename_i e1 e2; have := ih1 _ e1; have := ih2 _ e2; simp only [Option.some.injEq] at h; simp [X.B, *]
    · exact lookup_ok hA.2.1 h
  | beq a b ih1 ih2 =>
    intro v h
    simp only [X.dec] at h
    split at h
    · rename_i x y e1 e2
      have h1 := ih1 _ e1; have h2 := ih2 _ e2
      simp only [Option.some.injEq] at h
      simp only [X.B, h1, h2, ← h]
      cases x <;> cases y <;> rfl
    · exact lookup_ok hA.2.1 h
  | ite c a b ihc ih1 ih2 =>
    intro v h
    simp only [X.dec] at h
    split at h
    · rename_i e; simp [X.B, ihc _ e, ih1 _ h]
    · rename_i e; simp [X.B, ihc _ e, ih2 _ h]
    · exact lookup_ok hA.2.1 h
  | cmp op a b _ _ =>
    intro v h
    simp only [X.dec] at h
    split at h
    · rename_i u e
      simp only [Option.some.injEq] at h
      subst h
      split at e
      · rename_i r s e1 e2
        obtain ⟨l, hh⟩ := r
        obtain ⟨l', hh'⟩ := s
        have p1 := rng_ok hA.1 a _ _ e1
        have p2 := rng_ok hA.1 b _ _ e2
        exact cmpR_ok p1.1 p1.2 p2.1 p2.2 e
      · cases e
    · split at h
      · rename_i u e
        simp only [Option.some.injEq] at h
        subst h
        exact lookup_ok hA.2.1 e
      · split at h
        · rename_i u e
          have := lookup_ok hA.2.1 e
          simp only [X.B] at this ⊢
          split at h
          case h_7 => cases h
          all_goals
            simp only [Option.some.injEq] at h
            rw [cmp_neg (by simp)] at this
            rw [← h, ← this, Bool.not_not]
        · simp only [X.B]; exact linD_ok hA h
  | _ => intro v h; exact lookup_ok hA.2.1 h

theorem tightAt_ok {ρ : Env} : ∀ (rg : List (Option (Int × Int))) (n : Nat) (l' h' : Int) (o : Nat), (∀ m l h, rg[m]? = some (some (l, h)) → l ≤ ρ.i (o + m) ∧ ρ.i (o + m) ≤ h) →
    (l' ≤ ρ.i (o + n) ∧ ρ.i (o + n) ≤ h') → ∀ m l h, (tightAt rg n l' h')[m]? = some (some (l, h)) → l ≤ ρ.i (o + m) ∧ ρ.i (o + m) ≤ h
  | [], _, _, _, _, _, _, m, l, h, hm => by simp [tightAt] at hm
  | some (a, b) :: r, 0, l', h', o, hr, hn, m, l, h, hm => by
    cases m with
    | zero =>
      have := hr 0 a b (by simp)
      simp only [tightAt, List.getElem?_cons_zero, Option.some.injEq, Prod.mk.injEq] at hm
      obtain ⟨rfl, rfl⟩ := hm
      unfold maxI minI
      constructor
      · split <;> omega
      · split <;> omega
    | succ m => exact hr (m + 1) l h (by simpa [tightAt] using hm)
  | none :: r, 0, l', h', o, hr, hn, m, l, h, hm => hr m l h (by simpa [tightAt] using hm)
  | x :: r, n + 1, l', h', o, hr, hn, m, l, h, hm => by
    cases m with
    | zero => exact hr 0 l h (by cases x <;> exact hm)
    | succ m =>
      have := tightAt_ok r n l' h' (o + 1) (fun m l h hm => by have := hr (m + 1) l h (by simpa using hm); rwa [show o + (m + 1) = o + 1 + m by omega] at this) (by rwa [show o + (n + 1) = o + 1 + n by omega] at hn) m l h (by cases x <;> exact hm)
      rwa [show o + (m + 1) = o + 1 + m by omega]

theorem tight_ok {ρ : Env} {rg : List (Option (Int × Int))} {n : Nat} {op : BinOp} {z : Int} (hr : ∀ m l h, rg[m]? = some (some (l, h)) → l ≤ ρ.i m ∧ ρ.i m ≤ h) (hc : cmpI op (ρ.i n) z = true) :
    ∀ m l h, (tight rg n op z)[m]? = some (some (l, h)) → l ≤ ρ.i m ∧ ρ.i m ≤ h := by
  unfold tight
  split
  · rename_i l0 h0 e
    rw [nth_some] at e
    have b := hr n l0 h0 e
    have key : ∀ l' h', (l' ≤ ρ.i n ∧ ρ.i n ≤ h') → ∀ m l h, (tightAt rg n l' h')[m]? = some (some (l, h)) → l ≤ ρ.i m ∧ ρ.i m ≤ h := by
      intro l' h' hb m l h hm
      have := tightAt_ok (ρ := ρ) rg n l' h' 0 (by simpa using hr) (by simpa using hb) m l h hm
      simpa using this
    cases op
    case neq =>
      simp [cmpI] at hc
      simp only
      split
      · next hb => have hb := intB_eq hb; exact key _ _ (by omega)
      · split
        · next hb => have hb := intB_eq hb; exact key _ _ (by omega)
        · exact hr
    all_goals (simp [cmpI] at hc <;> first | exact hr | (refine key _ _ ?_; omega))
  · exact hr

theorem tightQ_ok {ρ : Env} {rg : List (Option (Int × Int))} {op : BinOp} {k : IntKind} {n : Nat} {c z : Int} (hr : ∀ m l h, rg[m]? = some (some (l, h)) → l ≤ ρ.i m ∧ ρ.i m ≤ h) (he : arith op k (ρ.i n) c = z) :
    ∀ m l h, (tightQ rg op k n c z)[m]? = some (some (l, h)) → l ≤ ρ.i m ∧ ρ.i m ≤ h := by
  unfold tightQ
  split
  · rename_i l0 h0 e
    rw [nth_some] at e
    have b := hr n l0 h0 e
    have key : ∀ l' h', (l' ≤ ρ.i n ∧ ρ.i n ≤ h') → ∀ m l h, (tightAt rg n l' h')[m]? = some (some (l, h)) → l ≤ ρ.i m ∧ ρ.i m ≤ h := by
      intro l' h' hb m l h hm
      have := tightAt_ok (ρ := ρ) rg n l' h' 0 (by simpa using hr) (by simpa using hb) m l h hm
      simpa using this
    split
    · next hc =>
      simp only [Bool.and_eq_true, intLe_iff] at hc
      split
      · split
        · next hz =>
          rw [intLe_iff] at hz
          simp only [arith] at he
          have hx : 0 ≤ ρ.i n := by
            by_cases hx : 0 ≤ ρ.i n
            · exact hx
            · exfalso
              have hn := Int.neg_tdiv (ρ.i n) c
              have h3 : (-(ρ.i n)).tdiv c = (-(ρ.i n)) / c := Int.tdiv_eq_ediv_of_nonneg (by omega)
              have h4 : (-(ρ.i n)) / c ≤ -(ρ.i n) := Int.ediv_le_self _ (by omega)
              have h5 : 0 ≤ (-(ρ.i n)) / c := Int.ediv_nonneg (by omega) (by omega)
              have h1 : (ρ.i n).tdiv c ≤ 0 := by omega
              have h2 : ρ.i n ≤ (ρ.i n).tdiv c := by omega
              rw [wrap_id (by omega) (by have : (0 : Int) ≤ kHi k := by cases k <;> simp [kHi]
                                         omega)] at he
              omega
          rw [Int.tdiv_eq_ediv_of_nonneg hx] at he
          have h1 : ρ.i n / c ≤ ρ.i n := Int.ediv_le_self _ hx
          have h2 : 0 ≤ ρ.i n / c := Int.ediv_nonneg hx (by omega)
          have hl : kLo k ≤ 0 := by cases k <;> simp [kLo]
          rw [wrap_id (by omega) (by omega)] at he
          refine key _ _ ?_
          have m1 := Int.emod_add_mul_ediv (ρ.i n) c
          have m2 := Int.emod_nonneg (ρ.i n) (show c ≠ 0 by omega)
          have m3 := Int.emod_lt_of_pos (ρ.i n) (show 0 < c by omega)
          rw [he] at m1
          rw [Int.mul_comm z c]
          omega
        · exact hr
      · split
        · next hz =>
          simp only [Bool.and_eq_true, intLe_iff] at hz
          simp only [arith] at he
          rw [Int.tmod_eq_emod_of_nonneg (by omega)] at he
          refine key _ _ ?_
          have hc0 : 0 < c := by omega
          have q1 : (z - l0) % c = (ρ.i n - l0) % c := by rw [← he, Int.emod_sub_emod]
          have q2 : (h0 - z) % c = (h0 - ρ.i n) % c := by rw [← he, Int.sub_emod_emod]
          rw [q1, q2]
          have ml : ∀ a : Int, 0 ≤ a → a % c ≤ a := by
            intro a ha
            have m1 := Int.emod_add_mul_ediv a c
            have m2 : 0 ≤ c * (a / c) := Int.mul_nonneg (by omega) (Int.ediv_nonneg ha (by omega))
            omega
          have r1 := ml (ρ.i n - l0) (by omega)
          have r2 := ml (h0 - ρ.i n) (by omega)
          omega
        · exact hr
      · exact hr
    · exact hr
  · exact hr

theorem add_ok {A : Known} {ρ : Env} (hA : A.ok ρ) {c : X} {v : Bool} (hc : c.B ρ = v) : (A.add c v).ok ρ := by
  have base : ∀ x b, (x, b) ∈ (c, v) :: A.tr → x.B ρ = b := by
    intro x b hx
    simp only [List.mem_cons, Prod.mk.injEq] at hx
    rcases hx with ⟨rfl, rfl⟩ | hx
    · exact hc
    · exact hA.2.1 x b hx
  unfold Known.add
  split
  · rename_i op o k n c z
    refine ⟨?_, base, hA.2.2⟩
    simp only [X.B, X.I] at hc
    split
    · rename_i he
      refine tightQ_ok hA.1 ?_
      cases op <;> simp only [isEqT, Bool.false_eq_true] at he
      · subst he; simpa [cmpI] using hc
      · simp only [Bool.not_eq_true'] at he; subst he; simpa [cmpI] using hc
    · exact hA.1
  · rename_i op n z
    refine ⟨?_, base, hA.2.2⟩
    simp only [X.B, X.I] at hc
    cases v with
    | true => exact tight_ok hA.1 (by simpa using hc)
    | false =>
      by_cases ho : op = .lss ∨ op = .geq ∨ op = .leq ∨ op = .gtr ∨ op = .eql ∨ op = .neq
      · exact tight_ok hA.1 (by simp [cmp_neg ho, hc])
      · have : ∀ m l h, (tight A.rg n (negOp op) z)[m]? = some (some (l, h)) → l ≤ ρ.i m ∧ ρ.i m ≤ h := by
          cases op <;> simp at ho <;> (unfold tight; simp only [negOp]; split <;> exact hA.1)
        simpa using this
  · rename_i op z n
    refine ⟨?_, base, hA.2.2⟩
    simp only [X.B, X.I] at hc
    have hf : cmpI (flipOp op) (ρ.i n) z = cmpI op z (ρ.i n) := by
      cases op <;> simp only [flipOp, cmpI] <;> first | rfl | (rw [Bool.eq_iff_iff]; simp <;> omega)
    rw [← hf] at hc
    generalize flipOp op = op at *
    cases v with
    | true => exact tight_ok hA.1 (by simpa using hc)
    | false =>
      by_cases ho : op = .lss ∨ op = .geq ∨ op = .leq ∨ op = .gtr ∨ op = .eql ∨ op = .neq
      · exact tight_ok hA.1 (by simp [cmp_neg ho, hc])
      · have : ∀ m l h, (tight A.rg n (negOp op) z)[m]? = some (some (l, h)) → l ≤ ρ.i m ∧ ρ.i m ≤ h := by
          cases op <;> simp at ho <;> (unfold tight; simp only [negOp]; split <;> exact hA.1)
        simpa using this
  · exact ⟨hA.1, base, hA.2.2⟩

theorem assume_ok {ρ : Env} : ∀ (c : X) (v : Bool) {A : Known}, A.ok ρ → c.B ρ = v → (A.assume c v).ok ρ := by
  intro c
  induction c with
  | not a ih =>
    intro v A hA hc
    exact ih (!v) hA (by simp [X.B] at hc; simp [← hc])
  | and a b ih1 ih2 =>
    intro v A hA hc
    cases v with
    | true => simp [X.B] at hc; exact ih2 true (ih1 true hA hc.1) hc.2
    | false => exact add_ok hA hc
  | or a b ih1 ih2 =>
    intro v A hA hc
    cases v with
    | false => simp [X.B] at hc; exact ih2 false (ih1 false hA hc.1) hc.2
    | true => exact add_ok hA hc
  | _ => intro v A hA hc; exact add_ok hA hc

theorem wrapR_ok {A : Known} {ρ : Env} (hA : A.ok ρ) (k : IntKind) (a : X) : (wrapR A k a).I ρ = k.wrap (a.I ρ) := by
  unfold wrapR
  split
  · rename_i l h e
    have := rng_ok hA.1 a _ _ e
    split
    · rename_i hc
      simp only [Bool.and_eq_true, intLe_iff] at hc
      rw [wrap_id (by omega) (by omega)]
    · simp
  · simp
end Go.Sx
