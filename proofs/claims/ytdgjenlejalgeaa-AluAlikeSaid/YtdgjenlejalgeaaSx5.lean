/- A small machine that reads straight Go code as trees, and its truth. -/
import Derived.Test.YtdgjenlejalgeaaSx4
import Derived.ChangeKeysEq
namespace Go.Sx

section
variable {P : Program} {A : Known} {ρ : Env} {β : Nat → Nat} {S : St} {wr w : World} {a : Act}

/-- One row of memory laid anew. -/
def putBlk (w : World) (k : Nat) (b : Blk) (ρ : Env) (β : Nat → Nat) : World := w.setRow k (dens ρ β b.cells ++ spV ρ β b.sp).toArray

theorem storeS_ok (hA : A.ok ρ) (hR : Rep ρ β S wr w) {t : TypeId} {id off : Nat} {v : SV} {e : Ef} (h : storeS P S t id off v = .ok e) :
    ∃ b old, e = .upd id b ∧ S.hp[id]? = some (some old) ∧ (b.elem = old.elem ∧ b.sp = old.sp) ∧ (storeVar t ⟨β id, off, none⟩ (v.den ρ β)).run P w = .ok () (putBlk w (β id) b ρ β) := by
  simp only [storeS, R.bind_ok, chk_ok] at h
  obtain ⟨b, hb, n, hn, u, hc, h⟩ := h
  cases h
  have hid := blkAt_ok hb
  have hw := hR.blk id b hid
  simp only [Bool.and_eq_true, Nat.ble_eq, len_eq, allB_eq] at hc
  obtain ⟨⟨h1, h2⟩, h3⟩ := hc
  have h1 := Nat.eq_of_beq_eq_true h1
  refine ⟨_, b, rfl, hid, ⟨rfl, rfl⟩, ?_⟩
  have hcells := SV.plain_cells hA.2.2.1 (β := β) (v := v) ((allB_eq _ _).2 h3)
  have hst := run_storeCells_at P (β id) off b.elem (dens ρ β v.cells) 0 (dens ρ β b.cells ++ spV ρ β b.sp).toArray w hw
    (by simp [dens]; omega) (by intro x hx; simp only [dens, List.mem_map] at hx; obtain ⟨y, hy, rfl⟩ := hx; exact SC.plain_one hA.2.2.1 (h3 y hy))
  have hlen : (dens ρ β v.cells).length = n := by simp [dens, h1]
  simp only [storeVar, Sem.run_bind, sizeT_ok hn, Result.andThen_ok, hcells, List.size_toArray, hlen, ne_eq, not_true_eq_false, if_false]
  rw [hst]
  unfold putBlk
  rw [lay_eq v.cells b.cells off (by omega)]
  have t1 : List.take off (dens ρ β b.cells ++ spV ρ β b.sp) = List.take off (dens ρ β b.cells) := List.take_append_of_le_length (by simp [dens]; omega)
  have t2 : List.drop (off + (dens ρ β v.cells).length) (dens ρ β b.cells ++ spV ρ β b.sp) = List.drop (off + (dens ρ β v.cells).length) (dens ρ β b.cells) ++ spV ρ β b.sp := List.drop_append_of_le_length (by simp [dens]; omega)
  simp only [Nat.add_zero, t1, t2]
  simp [dens, List.map_take, List.map_drop]

theorem fold_lay : ∀ (ys cs : List SC) (o k : Nat), ((dens ρ β ys).zipIdx k).foldl (fun c (x : Value × Nat) => c.set (o + x.2) x.1) (dens ρ β cs) = dens ρ β (lay cs (o + k) ys)
  | [], cs, o, k => by simp [dens, lay]
  | y :: ys, cs, o, k => by
    have e : (dens ρ β cs).set (o + k) (y.den ρ β) = dens ρ β (setAt cs (o + k) y) := by rw [setAt_eq]; simp [dens, List.map_set]
    simp only [dens, List.map_cons, List.zipIdx_cons, List.foldl_cons, lay]
    simp only [dens] at e
    rw [e]
    have := fold_lay ys (setAt cs (o + k) y) o (k + 1)
    simp only [dens] at this
    rw [this]
    rfl

theorem fillS_ok {place : Nat → Option (Nat × Nat)} : ∀ {parts : List (Nat × SV)} {cs r : List SC}, fillS place cs parts = .ok r →
    (∀ i v, (i, v) ∈ parts → (v.den ρ β).cells = (dens ρ β v.cells).toArray) →
    Instr.fill place (dens ρ β cs).toArray (parts.map fun x => (x.1, x.2.den ρ β)) = some (dens ρ β r).toArray
  | [], cs, r, h, _ => by simp only [fillS] at h; cases h; rfl
  | (i, v) :: parts, cs, r, h, hv => by
    simp only [fillS] at h
    split at h
    · cases h
    · rename_i off size hp
      split at h
      · rename_i hc
        simp only [Bool.and_eq_true, Nat.ble_eq, len_eq] at hc
        have h1 := Nat.eq_of_beq_eq_true hc.1
        have ih := fillS_ok h (fun j u hu => hv j u (by simp [hu]))
        simp only [List.map_cons, Instr.fill, hp]
        have hce := hv i v (by simp)
        have hs : (v.den ρ β).cells.size = size := by rw [hce]; simp [dens, h1]
        rw [if_neg (by rw [hs]; simp [dens]; omega)]
        rw [hce]
        rw [← Array.foldl_toList, Array.toList_zipIdx]
        have e : ((dens ρ β v.cells).zipIdx 0).foldl (fun cs x => cs.setIfInBounds (off + x.2) x.1) (dens ρ β cs).toArray = (dens ρ β (lay cs off v.cells)).toArray := by
          have := fold_lay (ρ := ρ) (β := β) v.cells cs off 0
          simp only [Nat.add_zero] at this
          rw [← this]
          generalize (dens ρ β v.cells).zipIdx 0 = zs
          generalize dens ρ β cs = c0
          clear this ih hs hce
          induction zs generalizing c0 with
          | nil => rfl
          | cons z zs ih => simp only [List.foldl_cons]; rw [List.setIfInBounds_toArray, ih]
        rw [e]
        exact ih
      · cases h

theorem eqFlds_ok {rec : TypeId → SV → SV → R X} {d : Nat} (hrec : ∀ t x y r w, rec t x y = .ok r → (Op.equalIn d t (x.den ρ β) (y.den ρ β)).run P w = .ok (r.B ρ) w) (xs ys : List SC) (w : World) :
    ∀ {fs : List Field} {r : X}, eqFlds P rec xs ys fs = .ok r → (Op.eqFields d (dens ρ β xs).toArray (dens ρ β ys).toArray fs).run P w = .ok (r.B ρ) w
  | [], r, h => by simp only [eqFlds] at h; cases h; simp [Op.eqFields, X.B]
  | f :: fs, r, h => by
    simp only [eqFlds, R.bind_ok, chk_ok] at h
    obtain ⟨_, hn, x, hx, y, hy, u, hu, s, hs, h⟩ := h
    cases h
    have hn : f.name ≠ "_" := by simpa using hn
    have ih := eqFlds_ok hrec xs ys w hs
    simp only [Op.eqFields, if_pos hn, Sem.run_bind, partS_ok hx, partS_ok hy, hrec _ _ _ _ w hu, Result.andThen_ok]
    cases hb : u.B ρ
    · simp [hb]
    · simp [hb, ih]

theorem eqElems_ok {rec : TypeId → SV → SV → R X} {d : Nat} (hrec : ∀ t x y r w, rec t x y = .ok r → (Op.equalIn d t (x.den ρ β) (y.den ρ β)).run P w = .ok (r.B ρ) w) (e : TypeId) (xs ys : List SC) (w : World) :
    ∀ {n i : Nat} {r : X}, eqElems P rec e xs ys (P.cellsOf e) n i = .ok r → (Op.eqItems d e (P.cellsOf e) (dens ρ β xs).toArray (dens ρ β ys).toArray (List.range' i n)).run P w = .ok (r.B ρ) w
  | 0, i, r, h => by simp only [eqElems] at h; cases h; simp [Op.eqItems, X.B]
  | n + 1, i, r, h => by
    simp only [eqElems, R.bind_ok] at h
    obtain ⟨x, hx, y, hy, u, hu, s, hs, h⟩ := h
    cases h
    have ih := eqElems_ok hrec e xs ys w hs
    simp only [List.range'_succ, Op.eqItems, Sem.run_bind, partS_ok hx, partS_ok hy, hrec _ _ _ _ w hu, Result.andThen_ok]
    cases hb : u.B ρ
    · simp [hb]
    · simp [hb, ih]

theorem eqS_ok : ∀ (d : Nat) (t : TypeId) (x y : SV) (r : X), eqS P d t x y = .ok r → ∀ (D : Nat), d ≤ D → ∀ w, (Op.equalIn D t (x.den ρ β) (y.den ρ β)).run P w = .ok (r.B ρ) w := by
  intro d
  induction d with
  | zero => intro t x y r h; simp only [eqS] at h; cases h
  | succ d ih =>
    intro t x y r h D hD w
    obtain ⟨D, rfl⟩ : ∃ D', D = D' + 1 := ⟨D - 1, by omega⟩
    have ih' : ∀ t x y r w, eqS P d t x y = .ok r → (Op.equalIn D t (x.den ρ β) (y.den ρ β)).run P w = .ok (r.B ρ) w := fun t x y r w h => ih t x y r h D (by omega) w
    simp only [eqS] at h
    split at h
    · rename_i hu
      split at h
      · cases h
        simp only [SV.den, SC.den, B_mkBeq]
        exact run_equalIn_bool' w D t _ _ hu
      · cases h
    · rename_i k0 hu
      split at h
      · rename_i k a k' b
        split at h
        · rename_i hk
          cases h
          rw [← kN_inj hk]
          simp only [SV.den, SC.den, B_mkCmp, cmpI]
          exact run_equalIn_int w D t k k0 _ _ hu
        · cases h
      · cases h
    · rename_i fs hu
      split at h
      · cases h
      · rename_i hst
        split at h
        · rename_i xs ys
          have hfo : P.fieldsOf t = fs := by simp [Program.fieldsOf, hu]
          have := run_equalIn_struct (P := P) w D t (dens ρ β xs).toArray (dens ρ β ys).toArray (by rw [hfo]; exact hu) (by simpa using hst)
          simp only [SV.den]
          rw [show (List.map (SC.den ρ β) xs).toArray = (dens ρ β xs).toArray from rfl, show (List.map (SC.den ρ β) ys).toArray = (dens ρ β ys).toArray from rfl, this, hfo]
          exact eqFlds_ok ih' xs ys w h
        · cases h
    · rename_i n e hu
      split at h
      · rename_i xs ys
        simp only [R.bind_ok] at h
        obtain ⟨sz, hsz, h⟩ := h
        obtain ⟨i, hi, hsz'⟩ := sizeT_info hsz
        have hc : P.cellsOf e = sz := by simp [Program.cellsOf, hi, hsz']
        subst hc
        have := run_equalIn_array (P := P) w D (dens ρ β xs).toArray (dens ρ β ys).toArray hu hi
        simp only [SV.den]
        rw [show (List.map (SC.den ρ β) xs).toArray = (dens ρ β xs).toArray from rfl, show (List.map (SC.den ρ β) ys).toArray = (dens ρ β ys).toArray from rfl, this, List.range_eq_range']
        exact eqElems_ok ih' e xs ys w h
      · cases h
    · cases h

theorem eqGuard_int (op : BinOp) (t : TypeId) (x y : Operand) (k k' : IntKind) (m n : Int) (w : World) : (eqGuard op t x y (.int k m) (.int k' n)).run P w = .ok () w := by
  cases op <;> simp [eqGuard]
theorem eqGuard_bool (op : BinOp) (t : TypeId) (x y : Operand) (m n : Bool) (w : World) : (eqGuard op t x y (.bool m) (.bool n)).run P w = .ok () w := by
  cases op <;> simp [eqGuard]

theorem eqLit_ok {e : X} {z : Int} : ∀ {l : List (X × Bool)}, (∀ x b, (x, b) ∈ l → x.B ρ = b) → eqLit e l = some z → e.I ρ = z
  | [], _, h => by simp [eqLit] at h
  | (x, v) :: l, hl, h => by
    have ih := eqLit_ok (e := e) (z := z) (l := l) fun y b hy => hl y b (by simp [hy])
    have h0 := hl x v (by simp)
    unfold eqLit at h
    split at h
    · next e1 => cases e1
    · next y u l' e1 =>
      simp only [List.cons.injEq, Prod.mk.injEq] at e1
      obtain ⟨⟨rfl, rfl⟩, rfl⟩ := e1
      split at h
      · next hb =>
        cases h
        simp only [X.B, X.I, cmpI, beq_iff_eq] at h0
        rw [← X.eqb_eq hb]; exact h0
      · exact ih h
    · next y l' _ e1 =>
      simp only [List.cons.injEq] at e1
      obtain ⟨-, rfl⟩ := e1
      exact ih h
theorem litR_ok (hA : A.ok ρ) (e : X) : (litR A e).I ρ = e.I ρ := by
  unfold litR
  split
  · next z h => exact (eqLit_ok hA.2.1 h).symm
  · rfl
theorem fitsK_ok (hA : A.ok ρ) {k : IntKind} {x : X} (h : fitsK A k x = true) : kLo k ≤ x.I ρ ∧ x.I ρ ≤ kHi k := by
  unfold fitsK at h
  split at h
  · next l u e =>
    simp only [Bool.and_eq_true, intLe_iff] at h
    have := rng_ok hA.1 _ _ _ e
    omega
  · cases h
theorem wrap_bits (k : IntKind) (y : Int) : k.wrap ((BitVec.ofInt k.bits y).toNat : Int) = k.wrap y := by
  have e : ∀ n : Nat, 0 < n → ((BitVec.ofInt n y).toNat : Int) = y % (2 ^ n : Nat) := by
    intro n _
    rw [BitVec.toNat_ofInt, Int.toNat_of_nonneg (Int.emod_nonneg _ (by have := Nat.two_pow_pos n; omega))]
  cases k <;> rw [e _ (by decide)] <;> simp [IntKind.wrap, IntKind.bits, IntKind.signed]
theorem or_zero (k : IntKind) (y : Int) : arith .or k 0 y = k.wrap y ∧ arith .or k y 0 = k.wrap y := by
  have z : BitVec.ofInt k.bits 0 = 0#k.bits := by simp
  simp only [arith, z]
  refine ⟨?_, ?_⟩
  · rw [show (0#k.bits ||| BitVec.ofInt k.bits y) = BitVec.ofInt k.bits y by simp]; exact wrap_bits k y
  · rw [show (BitVec.ofInt k.bits y ||| 0#k.bits) = BitVec.ofInt k.bits y by simp]; exact wrap_bits k y
theorem isZ_ok {x : X} (h : orR.isZ x = true) : x.I ρ = 0 := by
  unfold orR.isZ at h
  split at h
  · rfl
  · cases h
theorem orR_ok (hA : A.ok ρ) (k : IntKind) (a b : X) : (orR A k a b).I ρ = arith .or k (a.I ρ) (b.I ρ) := by
  unfold orR
  split
  · next hc =>
    simp only [Bool.and_eq_true] at hc
    have := fitsK_ok hA hc.2
    rw [isZ_ok hc.1, (or_zero k _).1, wrap_id this.1 this.2]
  · split
    · next hc =>
      simp only [Bool.and_eq_true] at hc
      have := fitsK_ok hA hc.2
      rw [isZ_ok hc.1, (or_zero k _).2, wrap_id this.1 this.2]
    · rw [I_mkBin]
theorem remZ_ok (hA : A.ok ρ) {k : IntKind} {x : X} {u : Nat} (h : remZ A k x u = true) : (x.I ρ).tmod (u : Int) = 0 := by
  unfold remZ at h
  split at h
  · next e => exact eqLit_ok (ρ := ρ) hA.2.1 e
  · cases h
theorem nnK_ok (hA : A.ok ρ) {k : IntKind} {x : X} (h : nnK A k x = true) : 0 ≤ x.I ρ ∧ x.I ρ ≤ kHi k := by
  unfold nnK at h
  split at h
  · next n hh e =>
    have := rng_ok hA.1 _ _ _ e
    rw [intLe_iff] at h
    have hn : (0 : Int) ≤ Int.ofNat n := Int.natCast_nonneg n
    omega
  · cases h
theorem mulQ_ok (hA : A.ok ρ) (k : IntKind) (a b : X) : (mulQ A k a b).I ρ = arith .mul k (a.I ρ) (b.I ρ) := by
  unfold mulQ
  split
  · rename_i u k' x v
    split
    · next hc =>
      simp only [Bool.and_eq_true] at hc
      obtain ⟨⟨⟨⟨h1, h2⟩, h3⟩, h4⟩, h5⟩ := hc
      have h1 := Nat.eq_of_beq_eq_true h1
      obtain rfl := kN_inj h2
      subst h1
      simp only [Nat.ble_eq] at h3
      have e4 := remZ_ok hA h4
      have e5 := nnK_ok hA h5
      simp only [X.I, arith]
      have hk : kLo k ≤ 0 := by cases k <;> decide
      have hd : (x.I ρ).tdiv (Int.ofNat u) = x.I ρ / (u : Int) := Int.tdiv_eq_ediv_of_nonneg e5.1
      have hm : x.I ρ % (u : Int) = 0 := by rw [← Int.tmod_eq_emod_of_nonneg e5.1]; exact e4
      have hq : 0 ≤ x.I ρ / (u : Int) := Int.ediv_nonneg e5.1 (Int.natCast_nonneg u)
      have hq2 : x.I ρ / (u : Int) ≤ x.I ρ := Int.ediv_le_self _ e5.1
      rw [hd, wrap_id (k := k) (n := x.I ρ / (u : Int)) (by omega) (by omega)]
      have hmul : Int.ofNat u * (x.I ρ / (u : Int)) = x.I ρ := Int.mul_ediv_cancel' (Int.dvd_of_emod_eq_zero hm)
      rw [hmul, wrap_id (by omega) e5.2]
    · rw [I_mkBin]
  · rw [I_mkBin]
theorem binR_ok (hA : A.ok ρ) (op : BinOp) (k : IntKind) (a b : X) : (binR A op k a b).I ρ = arith op k (a.I ρ) (b.I ρ) := by
  unfold binR
  split
  · exact orR_ok hA k a b
  · exact mulQ_ok hA k a b
  · rw [litR_ok hA, I_mkBin]
  · rw [I_mkBin]
theorem intOp_ok (hA : A.ok ρ) {op : BinOp} {k k' : IntKind} {x y : X} {r : SC} (h : intOp A op k x k' y = .ok r) (t : TypeId) (w : World) :
    (binOp op t (.int k (x.I ρ)) (.int k' (y.I ρ))).run P w = .ok (r.den ρ β) w := by
  cases op <;> simp only [intOp, R.bind_ok, chk_ok] at h
  case shl | shr =>
    obtain ⟨b, hb, _, hn, h⟩ := h
    cases h
    have := decS_ok hA hb
    have hneg : ¬ y.I ρ < 0 := by
      simp only [B_mkCmp, cmpI, X.I] at this
      simp at hn; subst hn; exact of_decide_eq_false this
    simp [binOp, Op.shift, hneg, SC.den, litR_ok hA, arith]
  case quo | rem =>
    obtain ⟨_, hk, b, hb, _, hn, h⟩ := h
    cases h
    obtain rfl := kN_inj hk
    have := decS_ok hA hb
    have hz : ¬ y.I ρ = 0 := by
      simp only [B_mkCmp, cmpI, X.I] at this
      simp at hn; subst hn; simpa using this
    simp [binOp, Op.intDiv, hz, SC.den, arith, litR_ok hA]
  all_goals
    obtain ⟨_, hk, h⟩ := h
    cases h
    obtain rfl := kN_inj hk
    simp [binOp, Op.intArith, Op.intBits, Op.intCmp, SC.den, binR_ok hA, arith, cmpI]

theorem SV.den_agg_inv {v : SV} {c : Array Value} (hp : ∀ x, v = .c x → (x.den ρ β).oneCell' = true) (h : v.den ρ β = .agg c) : ∃ l, v = .agg l := by
  cases v with
  | c x => have := hp x rfl; simp only [SV.den] at h; rw [h] at this; cases this
  | agg l => exact ⟨l, rfl⟩

theorem binS_ok (hA : A.ok ρ) {op : BinOp} {t : TypeId} {x y r : SV} (h : binS P A op t x y = .ok r) (ox oy : Operand) (w : World) :
    (do eqGuard op t ox oy (x.den ρ β) (y.den ρ β); binOp op t (x.den ρ β) (y.den ρ β) : Sem Value).run P w = .ok (r.den ρ β) w := by
  unfold binS at h
  split at h
  · simp only [R.bind_ok] at h
    obtain ⟨s, hs, h⟩ := h
    cases h
    simp only [SV.den, SC.den, Sem.run_bind]
    rw [eqGuard_int]
    exact intOp_ok hA hs t w
  · simp only [SV.den, SC.den, Sem.run_bind]
    rw [eqGuard_bool]
    split at h
    · rename_i hu; cases h
      simp [binOp, Op.equal, Op.maxDepth, run_equalIn_bool' w 9999 t _ _ hu]
    · rename_i hu; cases h
      simp [binOp, Op.equal, Op.maxDepth, run_equalIn_bool' w 9999 t _ _ hu]
    · cases h
  · rename_i xs ys
    split at h
    · cases h
    · rename_i hg
      simp only [SV.den, Sem.run_bind]
      rw [run_eqGuard_agg w op t ox oy _ _ (by simpa using hg)]
      simp only [Result.andThen_ok]
      split at h
      · simp only [R.bind_ok] at h
        obtain ⟨s, hs, h⟩ := h
        cases h
        have := eqS_ok (ρ := ρ) (β := β) _ _ _ _ _ hs 10000 (by omega) w
        simp only [SV.den] at this
        rw [run_eql_struct, this]
        simp [SC.den]
      · simp only [R.bind_ok] at h
        obtain ⟨s, hs, h⟩ := h
        cases h
        have := eqS_ok (ρ := ρ) (β := β) _ _ _ _ _ hs 10000 (by omega) w
        simp only [SV.den] at this
        rw [run_neq_struct, this]
        simp [SC.den]
      · cases h
  · cases h

theorem unS_ok {op : UnOp} {x r : SC} (h : unS op x = .ok r) (w : World) : (Op.unary op (x.den ρ β)).run P w = .ok (r.den ρ β) w := by
  unfold unS at h
  split at h <;> cases h
  · simp [Op.unary, SC.den, Op.intArith, arith, X.I]
  · simp [Op.unary, SC.den, Op.intBits, arith, X.I]
  · simp [Op.unary, SC.den]

theorem findI_ok (hA : A.ok ρ) {ix : X} : ∀ {n j i : Nat}, findI A ix n j = .ok i → ix.I ρ = (i : Int) ∧ i < j + n
  | 0, j, i, h => by
    simp only [findI] at h
    split at h
    · rename_i hv; exact absurd hA (void_ok hv)
    · cases h
  | n + 1, j, i, h => by
    simp only [findI, R.bind_ok] at h
    obtain ⟨b, hb, h⟩ := h
    have := decT_ok hA hb
    cases b with
    | true =>
      simp only [if_true] at h; cases h
      simp only [B_mkCmp, cmpI, X.I] at this
      exact ⟨by simpa using this, by omega⟩
    | false =>
      simp only [Bool.false_eq_true, if_false] at h
      have := findI_ok hA h
      exact ⟨this.1, by omega⟩
theorem findL_ok (hA : A.ok ρ) {ix : X} : ∀ {n j i : Nat}, (j : Int) ≤ ix.I ρ → ix.I ρ ≤ j + n → findL A ix n j = .ok i → ix.I ρ = (i : Int) ∧ i ≤ j + n
  | 0, j, i, h1, h2, h => by simp only [findL] at h; cases h; exact ⟨by omega, by omega⟩
  | n + 1, j, i, h1, h2, h => by
    simp only [findL, R.bind_ok] at h
    obtain ⟨b, hb, h⟩ := h
    have := decT_ok hA hb
    simp only [B_mkCmp, cmpI, X.I] at this
    cases b with
    | true =>
      simp only [if_true] at h; cases h
      exact ⟨by simpa using this, by omega⟩
    | false =>
      simp only [Bool.false_eq_true, if_false] at h
      have hne : ix.I ρ ≠ (j : Int) := by simpa using this
      have := findL_ok hA (by omega) (by omega) h
      exact ⟨this.1, by omega⟩
theorem idxS_ok (hA : A.ok ρ) {ix : X} {n i : Nat} (h : idxS A ix n = .ok i) : ix.I ρ = (i : Int) ∧ i < n := by
  unfold idxS at h
  split at h
  · split at h
    · rename_i hb; cases h; simp only [Nat.ble_eq] at hb; exact ⟨rfl, by omega⟩
    · cases h
  · cases h
  · split at h
    · rename_i l hh e
      have hr := rng_ok hA.1 _ _ _ e
      split at h
      · rename_i hb
        simp only [Bool.and_eq_true, Nat.ble_eq] at hb
        have := findL_ok hA (n := hh - l) (by simpa using hr.1) (by have := hr.2; simp only [Int.ofNat_eq_natCast] at this; omega) h
        exact ⟨this.1, by omega⟩
      · have := findI_ok hA h; exact ⟨this.1, by omega⟩
    · have := findI_ok hA h; exact ⟨this.1, by omega⟩
theorem boundS_ok (hA : A.ok ρ) {n i : Nat} {c : SC} (h : boundS A n c = .ok i) (y : Nat) (hy : y = n) (code : BoundsCode) (w : World) : (Instr.sliceBound (c.den ρ β) y code).run P w = .ok i w ∧ i ≤ n := by
  subst hy
  unfold boundS at h
  split at h
  · have := idxS_ok hA h
    have h2 : i ≤ y := by omega
    refine ⟨?_, h2⟩
    have h3 : (0 : Int) ≤ (i : Int) ∧ (i : Int) ≤ (y : Int) := by omega
    simp [Instr.sliceBound, SC.den, asIntOf, this.1, h3]
  · cases h
end
end Go.Sx
