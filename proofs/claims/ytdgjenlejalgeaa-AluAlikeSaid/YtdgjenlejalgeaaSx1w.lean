/- What tables say is so. -/
import Derived.Test.YtdgjenlejalgeaaSx1v
namespace Go.Sx

section
variable {ρ : Env} {ops : List X}

theorem dbl_ok {sz j : Nat} {b : Bool} (hj : j < sz) : ∀ {l : List (Nat × Nat)}, (∀ id t, (id, t) ∈ l → t < 2 ^ sz ∧ t.testBit j = bitId ρ ops id) →
    ∀ id t, (id, t) ∈ dbl sz l → t < 2 ^ (2 * sz) ∧ t.testBit (if b then j + sz else j) = bitId ρ ops id
  | [], _, id, t, h => by simp [dbl] at h
  | (i, u) :: l, hl, id, t, h => by
    simp only [dbl, List.mem_cons, Prod.mk.injEq] at h
    rcases h with ⟨rfl, rfl⟩ | h
    · have hu := hl id u (by simp)
      have e : Nat.lor u (Nat.shiftLeft u sz) = u ||| u <<< sz := rfl
      rw [e]
      constructor
      · refine Nat.or_lt_two_pow (Nat.lt_of_lt_of_le hu.1 (Nat.pow_le_pow_right (by omega) (by omega))) ?_
        rw [Nat.shiftLeft_eq, show 2 * sz = sz + sz by omega, Nat.pow_add]
        exact Nat.mul_lt_mul_of_pos_right hu.1 (Nat.two_pow_pos _)
      · rw [← hu.2, Nat.testBit_or, Nat.testBit_shiftLeft]
        cases b
        · simp; intro h; omega
        · simp [Nat.testBit_lt_two_pow (Nat.lt_of_lt_of_le hu.1 (Nat.pow_le_pow_right (by omega) (by omega : sz ≤ j + sz)))]
    · exact dbl_ok hj (fun id t hm => hl id t (by simp [hm])) id t h
theorem pats_ok : ∀ (ids : List Nat), ∃ j, j < (pats ids).1 ∧ ∀ id t, (id, t) ∈ (pats ids).2 → t < 2 ^ (pats ids).1 ∧ t.testBit j = bitId ρ ops id
  | [] => ⟨0, by simp [pats], fun id t h => by simp [pats] at h⟩
  | i :: l => by
    obtain ⟨j, hj, h⟩ := pats_ok l
    simp only [pats]
    generalize pats l = p at *
    obtain ⟨sz, as⟩ := p
    simp only at hj h ⊢
    refine ⟨if bitId ρ ops i then j + sz else j, by split <;> omega, fun id t hm => ?_⟩
    simp only [List.mem_cons, Prod.mk.injEq] at hm
    rcases hm with ⟨rfl, rfl⟩ | hm
    · have e : Nat.shiftLeft (2 ^ sz - 1) sz = (2 ^ sz - 1) <<< sz := rfl
      rw [e]
      constructor
      · rw [Nat.shiftLeft_eq, show 2 * sz = sz + sz by omega, Nat.pow_add]
        exact Nat.mul_lt_mul_of_pos_right (by have := Nat.two_pow_pos sz; omega) (Nat.two_pow_pos _)
      · rw [Nat.testBit_shiftLeft, Nat.testBit_two_pow_sub_one]
        cases bitId ρ ops id
        · simp; intro; omega
        · simp [hj]
    · exact dbl_ok hj h id t hm
theorem mkTE_ok {rg : List (Option (Int × Int))} (hr : ∀ n l h, rg[n]? = some (some (l, h)) → l ≤ ρ.i n ∧ ρ.i n ≤ h) (ids : List Nat) (ops : List X) : ∃ j, (mkTE rg ids ops).ok ρ j := by
  obtain ⟨j, hj, h⟩ := pats_ok (ρ := ρ) (ops := ops) (opIds 0 ops ++ twice ids)
  refine ⟨j, ?_⟩
  unfold mkTE
  generalize pats (opIds 0 ops ++ twice ids) = p at *
  obtain ⟨sz, as⟩ := p
  simp only at hj h ⊢
  exact ⟨by rw [Nat.testBit_two_pow_sub_one]; simpa using hj, fun id t hm => (h id t hm).2, hr⟩

theorem mkTE_ops (rg : List (Option (Int × Int))) (ids : List Nat) (ops : List X) : (mkTE rg ids ops).ops = ops := rfl
variable {te : TE} {j : Nat}
theorem landT_ok {t : TB} {h : Nat} (ht : RB j t true) (hh : h.testBit j = true) : (landT t h).testBit j = true := by
  cases t with
  | none => exact hh
  | some t =>
    have ht : t.testBit j = true := ht
    show (t &&& h).testBit j = true
    rw [Nat.testBit_and, ht, hh]; rfl
theorem rgT_ok (hT : te.ok ρ j) (n : Nat) : RB j (rgT te n) true := by
  unfold rgT
  split
  · next l h e =>
    rw [nth_some] at e
    have hb := hT.rg n _ _ e
    split
    · next x hx =>
      have hx := ivT_ok hT hx
      refine (tand_ok (x := true) (y := true) ?_ ?_).cast rfl
      · split
        · exact hT.full
        · exact (tnot_ok hT.full (ltI_ok hT.full hx (trimI_ok (litI_ok hT.full l)))).cast (by simp; omega)
      · split
        · split
          · exact hT.full
          · exact (tnot_ok hT.full (ltI_ok hT.full (trimI_ok (litI_ok hT.full _)) hx)).cast (by simpa using hb.2)
        · exact hT.full
    · trivial
  · trivial
theorem rgsT_ok (hT : te.ok ρ j) : ∀ (ids : List Nat) (last : Nat), (rgsT te last ids).testBit j = true
  | [], _ => hT.full
  | id :: l, last => by
    simp only [rgsT]
    split
    · exact rgsT_ok hT l last
    · exact landT_ok (rgT_ok hT _) (rgsT_ok hT l _)
theorem hypsT_ok (hT : te.ok ρ j) {ab : Bool} {m : Nat} : ∀ {l : List (X × Bool)}, (∀ x b, (x, b) ∈ l → x.B ρ = b) → (hypsT ab te m l).testBit j = true
  | [], _ => hT.full
  | (c, v) :: l, h => by
    have ih := hypsT_ok hT (ab := ab) (m := m) (l := l) fun x b hm => h x b (by simp [hm])
    have h0 := h c v (by simp)
    simp only [hypsT]
    split
    · split
      · refine landT_ok ?_ ih
        cases v
        · exact (tnot_ok hT.full (tabB_ok hT (pushIf ab c))).cast (by rw [pushIf_ok, h0]; rfl)
        · exact (tabB_ok hT (pushIf ab c)).cast (by rw [pushIf_ok, h0])
      · exact ih
    · exact ih
theorem fixedId_ok {K : Known} (hK : K.ok ρ) {id : Nat} {v : Bool} (h : fixedId K id = some v) : bitId ρ ops (2 * id) = v := by
  unfold fixedId at h
  split at h
  · next w hl =>
    simp only at h
    split at h
    · next t u ht hu =>
      split at h
      · next hb =>
        have hb := Nat.eq_of_beq_eq_true hb
        cases h
        obtain ⟨j, hT⟩ := mkTE_ok hK.1 [id] []
        have h1 := tabB_ok hT (atomOf id)
        rw [ht] at h1
        have h2 := assoc_ok hT.ids (2 * id)
        rw [hu] at h2
        have h1 : t.testBit j = (atomOf id).B ρ := h1
        have h2 : u.testBit j = bitId ρ [] (2 * id) := h2
        have h3 : (atomOf id).B ρ = v := lookup_ok hK.2.1 hl
        have e : bitId ρ ops (2 * id) = bitId ρ [] (2 * id) := by
          simp [bitId, Nat.mul_mod_right]
        rw [e, ← h2, ← hb, h1, h3]
      · cases h
    · cases h
  · cases h
theorem knownIds_ok {K : Known} (hK : K.ok ρ) : ∀ {l : List (X × Bool)} {id : Nat} {v : Bool}, (id, v) ∈ knownIds K l → bitId ρ ops (2 * id) = v
  | [], id, v, h => by simp [knownIds] at h
  | (c, _) :: l, id, v, h => by
    simp only [knownIds] at h
    split at h
    · split at h
      · next w hf =>
        simp only [List.mem_cons, Prod.mk.injEq] at h
        rcases h with ⟨rfl, rfl⟩ | h
        · exact fixedId_ok hK hf
        · exact knownIds_ok hK h
      · exact knownIds_ok hK h
    · exact knownIds_ok hK h
theorem splitK_ok {K : Known} (hK : K.ok ρ) {l : List Nat} {id : Nat} {v : Bool} (h : (id, v) ∈ (splitK K l).2) : bitId ρ ops (2 * id) = v := knownIds_ok hK h
theorem constsT_mem {full : Nat} : ∀ {l : List (Nat × Bool)} {id t : Nat}, (id, t) ∈ constsT full l → ∃ i v, (i, v) ∈ l ∧ id = 2 * i ∧ t = if v then full else 0
  | [], id, t, h => by simp [constsT] at h
  | (i, v) :: l, id, t, h => by
    simp only [constsT, List.mem_cons, Prod.mk.injEq] at h
    rcases h with ⟨rfl, rfl⟩ | h
    · exact ⟨i, v, by simp, rfl, rfl⟩
    · obtain ⟨i', v', h1, h2, h3⟩ := constsT_mem h
      exact ⟨i', v', by simp [h1], h2, h3⟩
theorem mkTK_ok {K : Known} (hK : K.ok ρ) (ids : List Nat) (ops : List X) : ∃ j, (mkTK K ids ops).ok ρ j := by
  have hs := fun id v => splitK_ok (ops := ops) hK (l := ids) (id := id) (v := v)
  unfold mkTK
  generalize splitK K ids = q at *
  obtain ⟨us, fs⟩ := q
  obtain ⟨j, hj, h⟩ := pats_ok (ρ := ρ) (ops := ops) (opIds 0 ops ++ twice us)
  refine ⟨j, ?_⟩
  simp only
  generalize pats (opIds 0 ops ++ twice us) = p at *
  obtain ⟨sz, as⟩ := p
  simp only at hj h hs ⊢
  have hf : (2 ^ sz - 1).testBit j = true := by rw [Nat.testBit_two_pow_sub_one]; simpa using hj
  refine ⟨hf, fun id t hm => ?_, hK.1⟩
  rcases List.mem_append.1 hm with hm | hm
  · obtain ⟨i, v, h1, rfl, rfl⟩ := constsT_mem hm
    rw [hs i v h1]
    cases v
    · simp
    · simpa using hf
  · exact (h id t hm).2
theorem mkTK_ops (K : Known) (ids : List Nat) (ops : List X) : (mkTK K ids ops).ops = ops := rfl
theorem tabSays_ok {K : Known} (hK : K.ok ρ) {ops : List X} {m : Nat} {f : TE → TB} (h : tabSays K ops m f = true) {v : Bool} (hf : ∀ te j, te.ok ρ j → RB j (f te) v) : v = true := by
  obtain ⟨j, hT⟩ := mkTK_ok hK (idsOf 40 m) ops
  unfold tabSays at h
  simp only at h
  split at h
  · next t e =>
    have hv := hf _ _ hT
    rw [e] at hv
    have hv : t.testBit j = v := hv
    split at h
    · next hb =>
      have hb := Nat.eq_of_beq_eq_true hb
      rw [← hv, hb]; exact hT.full
    · have hz := Nat.eq_of_beq_eq_true h
      have h1 := rgsT_ok hT (idsOf 40 m) 100000
      have h2 := hypsT_ok hT (ab := notNil ops) (m := m) hK.2.1
      have h3 := theoT_ok hT ops 0 (fun k y hk => by rw [mkTK_ops]; simpa using hk)
      generalize rgsT _ _ _ = R at *
      generalize hypsT _ _ _ _ = H at *
      generalize theoT _ _ _ = Q at *
      generalize (mkTK K (idsOf 40 m) ops) = te at *
      have e : (((R &&& Q) &&& H) &&& (te.full ^^^ t)).testBit j = false := by
        have hz : ((R &&& Q) &&& H) &&& (te.full ^^^ t) = 0 := hz
        rw [hz]; simp
      rw [Nat.testBit_and, Nat.testBit_and, Nat.testBit_and, Nat.testBit_xor, h1, h2, h3, hT.full, hv] at e
      cases v
      · simp at e
      · rfl
  · cases h
theorem tabTry_ok {K : Known} (hK : K.ok ρ) {ab : Bool} {ops : List X} {m : Nat} {f : TE → TB} (h : tabTry K ab ops m f = true) {v : Bool} (hf : ∀ te j, te.ok ρ j → RB j (f te) v) : v = true := by
  unfold tabTry at h
  split at h
  · split at h
    · next hs => exact tabSays_ok hK hs hf
    · split at h
      split at h
      · cases h
      · exact tabSays_ok hK h hf
  · cases h

theorem bitEq_ok {a b : X} {i : Nat} (hT : te.ok ρ j) : RB j (bitEq a b i te) (decide (a.I ρ / 2 ^ i % 2 = 1) == decide (b.I ρ / 2 ^ i % 2 = 1)) := by
  unfold bitEq
  split
  · next x sx y sy ea eb =>
    have h1 := nthE_ok (n := i) (tabI_ok hT a _ ea)
    have h2 := nthE_ok (n := i) (tabI_ok hT b _ eb)
    refine (tnot_ok hT.full (txor_ok h1 h2)).cast ?_
    generalize decide (X.I ρ a / 2 ^ i % 2 = 1) = p
    generalize decide (X.I ρ b / 2 ^ i % 2 = 1) = q
    cases p <;> cases q <;> rfl
  · trivial
theorem restEq_ok {a b : X} {i : Nat} (hT : te.ok ρ j) : RB j (restEq a b i te) (decide (a.I ρ / 2 ^ i = b.I ρ / 2 ^ i)) := by
  unfold restEq
  split
  · next x sx y sy ea eb =>
    exact eqI_ok hT.full (a := (dropN i x, sx)) (b := (dropN i y, sy)) (dropN_ok (n := i) (tabI_ok hT a _ ea)) (dropN_ok (n := i) (tabI_ok hT b _ eb))
  · trivial
theorem eqGo_ok {K : Known} (hK : K.ok ρ) {a b : X} {all : Nat} : ∀ {l : List Nat} {i : Nat}, eqGo K a b all i l = true → a.I ρ / 2 ^ i = b.I ρ / 2 ^ i
  | [], i, h => by
    simp only [eqGo] at h
    have : decide (a.I ρ / 2 ^ i = b.I ρ / 2 ^ i) = true := by
      split at h
      · next hs => exact tabSays_ok hK hs fun te j hT => restEq_ok hT
      · exact tabTry_ok hK h fun te j hT => restEq_ok hT
    simpa using this
  | m :: l, i, h => by
    simp only [eqGo] at h
    split at h
    · next hs =>
      have h1 := tabTry_ok hK hs fun te j hT => bitEq_ok (a := a) (b := b) (i := i) hT
      have h2 := eqGo_ok hK (l := l) h
      have e1 : ∀ z : Int, z / 2 ^ (i + 1) = z / 2 ^ i / 2 := fun z => by rw [Int.pow_succ, Int.ediv_ediv_of_nonneg (Int.le_of_lt (Int.pow_pos (by omega)))]
      rw [e1, e1] at h2
      generalize a.I ρ / 2 ^ i = p at *
      generalize b.I ρ / 2 ^ i = q at *
      rw [beq_iff_eq, decide_eq_decide] at h1
      omega
    · cases h
theorem tabAb_ok {K : Known} (hK : K.ok ρ) {e : X} (h : X.tabAb K e = true) : e.B ρ = true := by
  rw [← push_ok e]
  unfold X.tabAb at h
  simp only at h
  generalize X.push e = e at *
  split at h
  · split at h
    · simp only [X.B, h]
    · cases h
  · split at h
    · exact tabTry_ok hK h fun te j hT => tabB_ok hT e
    · cases h
theorem tabGo_ok {K : Known} (hK : K.ok ρ) {e : X} (h : X.tabGo K e = true) : e.B ρ = true := by
  unfold X.tabGo at h
  split at h
  · next ha => exact tabAb_ok hK ha
  · split at h
    · split at h
      · have := eqGo_ok hK h
        simp only [Int.pow_zero, Int.ediv_one] at this
        simp only [X.B, cmpI, this]; simp
      · cases h
    · split at h
      · exact tabTry_ok hK h fun te j hT => tabB_ok hT e
      · cases h
end
end Go.Sx
