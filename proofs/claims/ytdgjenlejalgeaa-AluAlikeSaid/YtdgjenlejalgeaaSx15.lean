/- A small machine that reads straight Go code as trees, and its truth. -/
import Derived.Test.YtdgjenlejalgeaaSx14
namespace Go.Sx

section
variable {P : Program} {A : Known} {ρ : Env} {β β' β'' : Nat → Nat} {S S1 : St} {wr w w' : World} {a : Act}

/-- What has been carried out holds all that it waited for. -/
def Closed (bs : List Nat) (D : List Bool) : Prop := ∀ j m, D.getD j false = true → bs[j]? = some m → ∀ k, m.testBit k = true → D.getD k false = true

theorem unord_iff {bs : List Nat} {bi i j : Nat} {bj : Nat} (hj : bs[j]? = some bj) : unord bs bi i j = false → i = j ∨ bi.testBit j = true ∨ bj.testBit i = true := by
  intro h
  unfold unord at h
  rw [nth_eq, hj] at h
  simp only [Option.getD_some, Bool.and_eq_false_iff, Bool.not_eq_false'] at h
  rcases h with (h | h) | h
  · exact .inl (Nat.eq_of_beq_eq_true h)
  · exact .inr (.inl h)
  · exact .inr (.inr h)
theorem unord_symm {bs : List Nat} {bi bj i j : Nat} (hi : bs[i]? = some bi) (hj : bs[j]? = some bj) (h : unord bs bi i j = true) : unord bs bj j i = true := by
  unfold unord at h ⊢
  rw [nth_eq, hj] at h
  rw [nth_eq, hi]
  simp only [Option.getD_some, Bool.and_eq_true, Bool.not_eq_true'] at h ⊢
  refine ⟨⟨?_, h.2⟩, h.1.2⟩
  have := h.1.1
  cases hb : Nat.beq j i with
  | true => rw [Nat.eq_of_beq_eq_true hb] at this; simp at this
  | false => rfl

theorem getD_set_true (D : List Bool) (i k : Nat) (hi : i < D.length) : (D.set i true).getD k false = (decide (k = i) || D.getD k false) := by
  simp only [List.getD_eq_getElem?_getD, List.getElem?_set]
  by_cases h : i = k
  · subst h; simp [hi]
  · have : ¬ k = i := fun e => h e.symm
    simp [h, this]

theorem drawn_step {callf : Known → FuncId → List SV → St → R (ST × St)} (hC : CallOk P ρ callf) (hF : ∀ A f vs S r, callf A f vs S = .ok r → FuncOk P f) (hA : A.ok ρ)
    {ops : Array Oper} {bs : List Nat} {O : List (List Nat × List Nat)} {recs : List Rec} (hlen : recs.length = ops.toList.length)
    (H : ∀ (k : Nat) (o : Oper), ops.toList[k]? = some o → ∃ r, recs[k]? = some r ∧ Props P A callf ops.toList bs O k o (allOf (recs.take k) S) r)
    (hch : Chain recs S.hp.length S.tm.length) (hlow : ∀ (j m : Nat), bs[j]? = some m → ∀ k, m.testBit k = true → k < j)
    (hS : ∀ (id : Nat) (b : Blk), S.hp[id]? = some (some b) → b.ok S.hp.length = true) (hS' : ∀ (t : Nat) (v : ST), S.tm[t]? = some (some v) → v.fits S.hp.length = true) (hSb : S.base ≤ S.hp.length) (hSw : ∀ x ∈ S.wr, x < S.base)
    {D : List Bool} (hD : Closed bs D) (hDl : D.length = recs.length) {i : Nat} {o : Oper} (ho : ops.toList[i]? = some o) (hi : D.getD i false = false) (hrdy : ∀ bi, bs[i]? = some bi → ∀ k, bi.testBit k = true → D.getD k false = true)
    (hR : Rep ρ β (after recs D S) wr w) (hT : RepA ρ β (after recs D S) a) {K : Act → World → Prop} {Q : Exit → Act → World → Prop}
    (hK : ∀ a' w' β'', (∀ id, id < S.hp.length → β'' id = β id) → Rep ρ β'' (after recs (D.set i true) S) wr w' → RepA ρ β'' (after recs (D.set i true) S) a' → K a' w') : OpStep P ops o a w K Q := by
  obtain ⟨r, hr, bi, oi, M, e1, e2, e3, e4, e5, e6, e7, e8, e9, e10, e11, e12, e13⟩ := H i o ho
  obtain ⟨m1, m2, m3, m4, m5, m6, m7⟩ := maskS_ok e3
  simp only [len_eq] at m1 m2 m3 m4 m5 m6 m7
  have hiD : i < D.length := by rw [hDl, hlen]; exact nth_len ho
  have hready := hrdy bi e1
  -- of any other operation: either unordered, or one of both waits for the other
  have rec_of : ∀ {k : Nat} {rk : Rec}, recs[k]? = some rk → ∃ (ok : List Nat × List Nat) (bk : Nat), O[k]? = some ok ∧ bs[k]? = some bk ∧ (∀ t, rk.slot t → t ∈ ok.1) ∧ (∀ id, rk.blks id → id ∈ ok.2) ∧
      (∀ (t : Nat) (v : ST), rk.slot t → at2 rk.S1.tm t = some v → v.avoids (badS bs bk k O 0) = true ∧ v.fits rk.S1.hp.length = true) ∧ (∀ (id : Nat) (b : Blk), rk.blks id → at2 rk.S1.hp id = some b → b.avoids (badS bs bk k O 0) = true ∧ b.ok rk.S1.hp.length = true) := by
    intro k rk hk
    have hkl : k < ops.toList.length := by rw [← hlen]; exact nth_len hk
    obtain ⟨rk', hk', bk, ok, Mk, k1, k2, k3, k4, k5, k6, k7, k8, k9, k10, k11, k12, k13⟩ := H k _ (List.getElem?_eq_getElem hkl)
    rw [hk] at hk'; cases hk'
    exact ⟨ok, bk, k2, k1, fun t ht => (k7 t ht).1, k9, k12, k13⟩
  have ordered : ∀ {k bk : Nat}, bs[k]? = some bk → unord bs bi i k = false → k = i ∨ (k < i ∧ D.getD k false = true) ∨ (i < k ∧ D.getD k false = false) := by
    intro k bk hk hu
    rcases unord_iff hk hu with h | h | h
    · exact .inl h.symm
    · exact .inr (.inl ⟨hlow i bi e1 k h, hready k h⟩)
    · refine .inr (.inr ⟨hlow k bk hk i h, ?_⟩)
      cases hd : D.getD k false with
      | false => rfl
      | true => have := hD k bk hd hk i h; rw [hi] at this; cases this
  have same_flags : ∀ {k : Nat}, (k = i ∨ (k < i ∧ D.getD k false = true) ∨ (i < k ∧ D.getD k false = false)) → (List.replicate i true).getD k false = D.getD k false := by
    intro k h
    rw [rep_getD]
    rcases h with rfl | ⟨h1, h2⟩ | ⟨h1, h2⟩
    · rw [hi]; simp
    · rw [h2]; simp [h1]
    · rw [h2]; simp; omega
  have hTi : ∀ x, at2 (after recs (List.replicate i true) S).tm x = at2 (allOf (recs.take i) S).tm x ∧ at2 (after recs (List.replicate i true) S).hp x = at2 (allOf (recs.take i) S).hp x := fun x => after_take x hch
  have eM : ∀ (t : Nat) (v : ST), at2 M.tm t = some v → at2 (after recs D S).tm t = some v := by
    intro t v hv
    obtain ⟨c1, c2⟩ := m6 t v hv
    rw [← (hTi t).1] at c1
    rw [← c1]
    refine (after_same_tm hch rfl rfl rfl fun k rk hk hs => ?_).symm
    obtain ⟨ok, bk, k1, k2, k3, _⟩ := rec_of hk
    refine same_flags (ordered k2 ?_)
    cases hu : unord bs bi i k with
    | false => rfl
    | true => exact absurd (k3 t hs) (c2 k ok k1 hu)
  have eH : ∀ (id : Nat) (b : Blk), at2 M.hp id = some b → at2 (after recs D S).hp id = some b := by
    intro id b hv
    obtain ⟨c1, c2⟩ := m7 id b hv
    rw [← (hTi id).2] at c1
    rw [← c1]
    refine (after_same_hp hch rfl rfl rfl fun k rk hk hs => ?_).symm
    obtain ⟨ok, bk, k1, k2, k3, k4, _⟩ := rec_of hk
    refine same_flags (ordered k2 ?_)
    cases hu : unord bs bi i k with
    | false => rfl
    | true => exact absurd (k4 id hs) (c2 k ok k1 hu)
  -- sizes
  obtain ⟨l1, l2, l3, l4⟩ := after_len (f := D) hch
  have sizes : ∀ {k : Nat} {rk : Rec}, recs[k]? = some rk → S.hp.length ≤ rk.n0 ∧ rk.n0 ≤ rk.S1.hp.length ∧ rk.S1.hp.length ≤ (after recs D S).hp.length ∧ ∀ {j : Nat} {rj : Rec}, recs[j]? = some rj → k < j → rk.S1.hp.length ≤ rj.n0 := by
    have key : ∀ {l : List Rec} {T : St}, Chain l T.hp.length T.tm.length → ∀ {k : Nat} {rk : Rec}, l[k]? = some rk → T.hp.length ≤ rk.n0 ∧ rk.n0 ≤ rk.S1.hp.length ∧ (∀ f, rk.S1.hp.length ≤ (after l f T).hp.length) ∧ ∀ {j : Nat} {rj : Rec}, l[j]? = some rj → k < j → rk.S1.hp.length ≤ rj.n0 := by
      intro l
      induction l with
      | nil => intro T _ k rk h; simp at h
      | cons q l ih =>
        intro T hc k rk h
        have hup := Rec.upd_len hc.1
        have htm := Rec.upd_tm_len q T
        have hc2 : Chain l (q.upd T).hp.length (q.upd T).tm.length := by rw [hup, htm]; exact hc.2
        cases k with
        | zero =>
          simp at h; subst h
          refine ⟨by rw [hc.1.1]; exact Nat.le_refl _, by rw [hc.1.1]; exact hc.1.2.1, fun f => ?_, fun {j rj} hj hlt => ?_⟩
          · obtain ⟨a1, a2, a3⟩ := step_len (b := f.headD false) hc.1
            have := (after_len (l := l) (f := f.tail) (T := if f.headD false then q.upd T else q.skip T) (by rw [a1, a2]; exact hc.2)).2.1
            rw [after]; omega
          · cases j with
            | zero => omega
            | succ j =>
              have := (ih hc2 (k := j) (by simpa using hj)).1
              rw [hup] at this; exact this
        | succ k =>
          obtain ⟨c1, c2, c3, c4⟩ := ih hc2 (k := k) (by simpa using h)
          refine ⟨by rw [hup] at c1; have := hc.1.2.1; omega, c2, fun f => ?_, fun {j rj} hj hlt => ?_⟩
          · have h1 := c3 f.tail
            obtain ⟨a1, a2, a3⟩ := step_len (b := f.headD false) hc.1
            cases hf : f.headD false with
            | true => rw [after, hf]; exact h1
            | false =>
              rw [hf] at a1 a2
              simp only [Bool.false_eq_true, if_false] at a1 a2
              rw [after, hf]
              simp only [Bool.false_eq_true, if_false]
              have e1 := (ih (T := q.skip T) (by rw [a1, a2]; exact hc.2) (k := k) (by simpa using h)).2.2.1 f.tail
              exact e1
          · cases j with
            | zero => omega
            | succ j => exact c4 (by simpa using hj) (by omega)
    intro k rk hk
    obtain ⟨c1, c2, c3, c4⟩ := key hch hk
    exact ⟨c1, c2, c3 D, c4⟩
  obtain ⟨z1, z2, z3, z4⟩ := sizes hr
  have hMl : M.hp.length = r.n0 := by rw [m4, e6]
  -- the masked state holds
  have hRM : Rep ρ β M w w := by
    have get : ∀ {id : Nat} {b : Blk}, M.hp[id]? = some (some b) → (after recs D S).hp[id]? = some (some b) := fun h => at2_some.1 (eH _ _ (at2_some.2 h))
    refine ⟨fun id b h => hR.blk id b (get h), fun id b h => e10.1 id b h, fun id b h _ => hR.lt (get h), fun id b h hb => ?_, fun x y b c h k => hR.inj x y b c (get h) (get k), fun _ _ _ => rfl, Nat.le_refl _, rfl, rfl, rfl, by rw [m2]; simp, by rw [m1, m4]; exact Nat.le_refl _, fun e he => ⟨(hR.row e he).1, fun id b h => (hR.row e he).2 id b (get h)⟩⟩
    have := nth_len h
    rw [m1] at hb; rw [m4] at this; omega
  have hTM : RepA ρ β M a := by
    refine ⟨?_, fun t v h => hT.tm t v (at2_some.1 (eM _ _ (at2_some.2 h))), fun t v h => e10.2 t v h, hT.df⟩
    have hTl : (allOf (recs.take i) S).tm.length = S.tm.length := by
      have key : ∀ (l : List Rec) (T : St), (allOf l T).tm.length = T.tm.length := by
        intro l
        induction l with
        | nil => intro T; rfl
        | cons q l ih => intro T; rw [allOf, ih, Rec.upd_tm_len]
      exact key _ _
    rw [hT.sz, l1, m3, hTl]
  refine stepS_ok hC hF hA hRM hTM e4 fun u w' β' b1 b2 b3 b4 => ?_
  -- the naming behind it
  let γ : Nat → Nat := fun id => if r.n0 ≤ id ∧ id < r.S1.hp.length then β' id else β id
  have g1 : ∀ id, id < r.S1.hp.length → γ id = β' id := by
    intro id hid
    show (if r.n0 ≤ id ∧ id < r.S1.hp.length then β' id else β id) = β' id
    split
    · rfl
    · exact (b1 id (by rw [hMl]; omega)).symm
  have g2 : ∀ id, ¬ (r.n0 ≤ id ∧ id < r.S1.hp.length) → γ id = β id := fun id h => if_neg h
  have g3 : ∀ id, id < r.n0 → γ id = β id := fun id h => g2 id (by omega)
  -- flags behind it
  have fl : ∀ k, (D.set i true).getD k false = (decide (k = i) || D.getD k false) := fun k => getD_set_true D i k hiD
  obtain ⟨l1', l2', l3', l4'⟩ := after_len (f := D.set i true) hch
  have hll : (after recs (D.set i true) S).hp.length = (after recs D S).hp.length := l4 _
  have later : ∀ {k : Nat} {rk : Rec}, recs[k]? = some rk → i < k → (∃ t, rk.slot t ∧ r.slot t) ∨ (∃ id, rk.blks id ∧ r.blks id) → (D.set i true).getD k false = false := by
    intro k rk hk hik hh
    obtain ⟨ok, bk, k1, k2, k3, k4, _⟩ := rec_of hk
    have hu : unord bs bi i k = false := by
      cases hu : unord bs bi i k with
      | false => rfl
      | true =>
        have hd := m5 k ok k1 hu
        rcases hh with ⟨t, h1, h2⟩ | ⟨id, h1, h2⟩
        · exact absurd (k3 t h1) (disj_iff.1 hd.1 t (e7 t h2).1)
        · exact absurd (k4 id h1) (disj_iff.1 hd.2 id (e9 id h2))
    rcases ordered k2 hu with h | ⟨h, _⟩ | ⟨_, h⟩
    · omega
    · omega
    · rw [fl, h]; simp; omega
  have at_tm : ∀ {t}, r.slot t → at2 (after recs (D.set i true) S).tm t = at2 r.S1.tm t := fun hs =>
    after_at_tm hch hr (by rw [fl]; simp) hs fun k rk hk hik hs' => later hk hik (.inl ⟨_, hs', hs⟩)
  have at_hp : ∀ {id}, r.blks id → at2 (after recs (D.set i true) S).hp id = at2 r.S1.hp id := fun hs =>
    after_at_hp hch hr (by rw [fl]; simp) hs fun k rk hk hik hs' => later hk hik (.inr ⟨_, hs', hs⟩)
  have off_tm : ∀ {t}, ¬ r.slot t → at2 (after recs (D.set i true) S).tm t = at2 (after recs D S).tm t := fun hs =>
    after_same_tm hch rfl rfl rfl fun k rk hk hs' => by
      rw [fl]
      by_cases hki : k = i
      · subst hki; rw [hr] at hk; cases hk; exact absurd hs' hs
      · simp [hki]
  have off_hp : ∀ {id}, ¬ r.blks id → at2 (after recs (D.set i true) S).hp id = at2 (after recs D S).hp id := fun hs =>
    after_same_hp hch rfl rfl rfl fun k rk hk hs' => by
      rw [fl]
      by_cases hki : k = i
      · subst hki; rw [hr] at hk; cases hk; exact absurd hs' hs
      · simp [hki]
  -- what was known is named as it was
  have notin : ∀ {k : Nat} {rk : Rec}, recs[k]? = some rk → D.getD k false = true → (k < i ∧ rk.S1.hp.length ≤ r.n0) ∨ ∃ bk, bs[k]? = some bk ∧ unord bs bk k i = true := by
    intro k rk hk hd
    obtain ⟨ok, bk, k1, k2, _⟩ := rec_of hk
    cases hu : unord bs bi i k with
    | true => exact .inr ⟨bk, k2, unord_symm e1 k2 hu⟩
    | false =>
      rcases ordered k2 hu with h | ⟨h, _⟩ | ⟨_, h⟩
      · subst h; rw [hi] at hd; cases hd
      · exact .inl ⟨h, (sizes hk).2.2.2 hr h⟩
      · rw [h] at hd; cases hd
  have badin : ∀ {k bk : Nat}, bs[k]? = some bk → unord bs bk k i = true → ∀ id, id ∉ badS bs bk k O 0 → γ id = β id := by
    intro k bk hk hu id hid
    refine g2 id fun hh => hid ?_
    refine badS_mem (k := i) e2 (by simpa using hu) id (e9 id (.inr hh))
  have oldv : ∀ {t : Nat} {v : ST}, at2 (after recs D S).tm t = some v → v.den ρ γ = v.den ρ β := by
    intro t v hv
    rcases after_from_tm hch hv with h | ⟨k, rk, h1, h2, h3, h4⟩
    · exact ST.fits_den (n := S.hp.length) (fun id hid => g3 id (by omega)) (hS' t v (at2_some.1 h))
    · obtain ⟨ok, bk, k1, k2, _, _, k5, _⟩ := rec_of h1
      obtain ⟨v1, v2⟩ := k5 t v h3 h4
      rcases notin h1 h2 with ⟨_, h⟩ | ⟨bk', h, hu⟩
      · exact ST.fits_den (fun id hid => g3 id (by omega)) v2
      · rw [k2] at h; cases h
        exact ST.avoids_den (badin k2 hu) v1
  have oldb : ∀ {id : Nat} {b : Blk}, at2 (after recs D S).hp id = some b → b.obj ρ γ = b.obj ρ β := by
    intro id b hv
    rcases after_from_hp hch hv with h | ⟨k, rk, h1, h2, h3, h4⟩
    · exact Blk.ok_obj (n := S.hp.length) (fun id hid => g3 id (by omega)) (hS id b (at2_some.1 h))
    · obtain ⟨ok, bk, k1, k2, _, _, _, k6⟩ := rec_of h1
      obtain ⟨v1, v2⟩ := k6 id b h3 h4
      rcases notin h1 h2 with ⟨_, h⟩ | ⟨bk', h, hu⟩
      · exact Blk.ok_obj (fun id hid => g3 id (by omega)) v2
      · rw [k2] at h; cases h
        exact Blk.avoids_obj (badin k2 hu) v1
  -- blocks that were there
  have wrold : ∀ {id : Nat}, id ∈ r.S1.wr → ∃ b : Blk, at2 (after recs D S).hp id = some b ∧ id < r.n0 := by
    intro id hid
    obtain ⟨b, hb⟩ := e8 id hid
    exact ⟨b, eH id b hb, by have := nth_len (at2_some.1 hb); omega⟩
  have keep : ∀ {id : Nat} {b : Blk}, ¬ r.blks id → at2 (after recs D S).hp id = some b → w'.heap[β id]? = w.heap[β id]? := by
    intro id b hn hb
    refine b2.frame _ (hR.lt (at2_some.1 hb)) fun id' hid' he => ?_
    obtain ⟨b', hb', hlt⟩ := wrold hid'
    rw [b1 id' (by omega)] at he
    have := hR.inj id id' b b' (at2_some.1 hb) (at2_some.1 hb') he
    subst this
    exact hn (.inl hid')
  have getB : ∀ {id : Nat} {b : Blk}, (after recs (D.set i true) S).hp[id]? = some (some b) → (r.blks id ∧ r.S1.hp[id]? = some (some b) ∧ id < r.S1.hp.length ∧ γ id = β' id ∧ (id < r.n0 → ∃ b' : Blk, (after recs D S).hp[id]? = some (some b'))) ∨
      (¬ r.blks id ∧ (after recs D S).hp[id]? = some (some b) ∧ γ id = β id) := by
    intro id b h
    by_cases hs : r.blks id
    · have h' := at2_some.2 h
      rw [at_hp hs] at h'
      have hlt := nth_len (at2_some.1 h')
      refine .inl ⟨hs, at2_some.1 h', hlt, g1 id hlt, fun hn => ?_⟩
      rcases hs with hs | hs
      · obtain ⟨b', hb', _⟩ := wrold hs; exact ⟨b', at2_some.1 hb'⟩
      · omega
    · have h' := at2_some.2 h
      rw [off_hp hs] at h'
      exact .inr ⟨hs, at2_some.1 h', g2 id fun hh => hs (.inr hh)⟩
  have newlt : ∀ {id : Nat} {b : Blk}, r.S1.hp[id]? = some (some b) → ¬ id < r.n0 → w.heap.size ≤ β' id ∨ ∃ o ∈ r.S1.wr, β' id = β o := by
    intro id b h hn
    rcases b2.new id b h (by rw [b4.base, m1, ← e6]; omega) with h1 | ⟨o, ho, h1⟩
    · exact .inl h1
    · refine .inr ⟨o, ho, ?_⟩
      obtain ⟨b', hb', hlt⟩ := wrold ho
      rw [h1, b1 o (by omega)]
  have hbase : (after recs D S).base = S.base := l3
  have wrup : ∀ {id : Nat}, id ∈ (after recs D S).wr → id ∈ (after recs (D.set i true) S).wr := by
    intro id hid
    rcases after_wr.1 hid with h | ⟨k', rk, h1, h2, h3⟩
    · exact after_wr.2 (.inl h)
    · exact after_wr.2 (.inr ⟨k', rk, h1, by rw [fl, h2]; simp, h3⟩)
  have wrlt : ∀ {id : Nat}, id ∈ (after recs D S).wr → id < r.n0 := by
    intro id hid
    have := hR.wrs id hid
    rw [hbase] at this; omega
  have hbase' : (after recs (D.set i true) S).base = S.base := l3'
  refine hK _ w' γ (fun id hid => g3 id (by omega)) ?_ ?_
  · refine ⟨?_, ?_, ?_, ?_, ?_, ?_, Nat.le_trans hR.size b2.size, b2.os.trans hR.os, b2.tape.trans hR.tape, b2.output.trans hR.output, ?_, ?_, ?_⟩
    · intro id b h
      rcases getB h with ⟨_, h1, h2, h3, _⟩ | ⟨h0, h1, h3⟩
      · rw [h3, Blk.ok_obj (β := β') g1 (b2.bok id b h1)]; exact b2.blk id b h1
      · rw [h3, oldb (at2_some.2 h1), keep h0 (at2_some.2 h1)]; exact hR.blk id b h1
    · intro id b h
      rw [hll]
      rcases getB h with ⟨_, h1, h2, h3, _⟩ | ⟨h0, h1, h3⟩
      · exact Blk.ok_mono z3 (b2.bok id b h1)
      · exact hR.bok id b h1
    · intro id b h hb
      rw [hbase'] at hb
      rcases getB h with ⟨_, h1, h2, h3, h4⟩ | ⟨h0, h1, h3⟩
      · have hn : id < r.n0 := by omega
        obtain ⟨b', hb'⟩ := h4 hn
        rw [g3 id hn]; exact hR.old id b' hb' (by rw [hbase]; exact hb)
      · rw [h3]; exact hR.old id b h1 (by rw [hbase]; exact hb)
    · intro id b h hb
      rw [hbase'] at hb
      have up : ∀ {x}, (wr.heap.size ≤ x ∨ ∃ o ∈ (after recs D S).wr, x = β o) → (wr.heap.size ≤ x ∨ ∃ o ∈ (after recs (D.set i true) S).wr, x = γ o) := by
        rintro x (h5 | ⟨o, ho, h5⟩)
        · exact .inl h5
        · exact .inr ⟨o, wrup ho, by rw [g3 o (wrlt ho)]; exact h5⟩
      rcases getB h with ⟨_, h1, h2, h3, h4⟩ | ⟨h0, h1, h3⟩
      · by_cases hn : id < r.n0
        · obtain ⟨b', hb'⟩ := h4 hn
          rw [g3 id hn]; exact up (hR.new id b' hb' (by rw [hbase]; exact hb))
        · rw [h3]
          rcases newlt h1 hn with h5 | ⟨o, ho, h5⟩
          · exact .inl (Nat.le_trans hR.size h5)
          · rw [h5]
            obtain ⟨b', hb', hlt⟩ := wrold ho
            by_cases hob : o < S.base
            · exact .inr ⟨o, after_wr.2 (.inr ⟨i, r, hr, by rw [fl]; simp, ho, hob⟩), (g3 o hlt).symm⟩
            · exact up (hR.new o b' (at2_some.1 hb') (by rw [hbase]; omega))
      · rw [h3]; exact up (hR.new id b h1 (by rw [hbase]; exact hb))
    · intro x y b c hx hy he
      have side : ∀ {id : Nat} {b : Blk}, (after recs (D.set i true) S).hp[id]? = some (some b) → (id < r.S1.hp.length ∧ ¬ id < r.n0 ∧ r.S1.hp[id]? = some (some b) ∧ γ id = β' id) ∨ (∃ b' : Blk, (after recs D S).hp[id]? = some (some b') ∧ γ id = β id) := by
        intro id b h
        rcases getB h with ⟨_, h1, h2, h3, h4⟩ | ⟨h0, h1, h3⟩
        · by_cases hn : id < r.n0
          · obtain ⟨b', hb'⟩ := h4 hn; exact .inr ⟨b', hb', g3 id hn⟩
          · exact .inl ⟨h2, hn, h1, h3⟩
        · exact .inr ⟨b, h1, h3⟩
      have apart : ∀ {x y : Nat} {b c d : Blk}, r.S1.hp[x]? = some (some b) → ¬ x < r.n0 → γ x = β' x → (after recs (D.set i true) S).hp[y]? = some (some c) → (after recs D S).hp[y]? = some (some d) → γ y = β y → γ x ≠ γ y := by
        intro x y b c d x3 x2 x4 hy y1 y2 he
        rw [x4, y2] at he
        rcases newlt x3 x2 with h5 | ⟨o, ho, h5⟩
        · have := hR.lt y1; omega
        · obtain ⟨b', hb', hlt⟩ := wrold ho
          have hoy := hR.inj o y b' d (at2_some.1 hb') y1 (by rw [← h5]; exact he)
          subst hoy
          have hs : r.blks o := .inl ho
          have hy' := at2_some.2 hy
          rw [at_hp hs] at hy'
          have := b2.inj x o b c x3 (at2_some.1 hy') (by rw [h5, b1 o (by omega)])
          omega
      rcases side hx with ⟨x1, x2, x3, x4⟩ | ⟨bx, x1, x2⟩ <;> rcases side hy with ⟨y1, y2, y3, y4⟩ | ⟨by', y1, y2⟩
      · rw [x4, y4] at he; exact b2.inj x y _ _ x3 y3 he
      · exact absurd he (apart x3 x2 x4 hy y1 y2)
      · exact absurd he.symm (apart y3 y2 y4 hx x1 x2)
      · rw [x2, y2] at he; exact hR.inj x y _ _ x1 y1 he
    · intro k hk hh
      have hk2 : k < w.heap.size := Nat.lt_of_lt_of_le hk hR.size
      have s1 : w'.heap[k]? = w.heap[k]? := by
        refine b2.frame k hk2 fun id hid he => ?_
        obtain ⟨b', hb', hlt⟩ := wrold hid
        rw [b1 id (by omega)] at he
        by_cases hb : id < S.base
        · refine hh id (after_wr.2 (.inr ⟨i, r, hr, by rw [fl]; simp, hid, hb⟩)) ?_
          rw [g3 id hlt]; exact he
        · rcases hR.new id b' (at2_some.1 hb') (by rw [hbase]; omega) with h5 | ⟨o, ho, h5⟩
          · omega
          · refine hh o (wrup ho) ?_
            rw [g3 o (wrlt ho)]; omega
      rw [s1]
      refine hR.frame k hk fun id hid => ?_
      have hm : id ∈ (after recs (D.set i true) S).wr := by
        rcases after_wr.1 hid with h | ⟨k', rk, h1, h2, h3⟩
        · exact after_wr.2 (.inl h)
        · exact after_wr.2 (.inr ⟨k', rk, h1, by rw [fl, h2]; simp, h3⟩)
      have := hh id hm
      rwa [g3 id (by have := hR.wrs id hid; rw [hbase] at this; omega)] at this
    · intro x hx
      rw [hbase']
      rcases after_wr.1 hx with h | ⟨k', rk, h1, h2, h3, h4⟩
      · exact hSw x h
      · exact h4
    · rw [hbase']; omega
    · intro e he
      refine ⟨(b2.row e he).1, fun id b h => ?_⟩
      rcases getB h with ⟨_, h1, h2, h3, _⟩ | ⟨h0, h1, h3⟩
      · rw [h3]; exact (b2.row e he).2 id b h1
      · rw [h3]; exact (hR.row e he).2 id b h1
  · have hput : (a.put o.dst u).tmps.size = a.tmps.size := by
      cases o.dst <;> simp [Act.put]
    refine ⟨by rw [hput, hT.sz, l1, l1'], ?_, ?_, b3.df⟩
    · intro t v h
      have h' := at2_some.2 h
      by_cases hs : r.slot t
      · rw [at_tm hs] at h'
        have h2 := at2_some.1 h'
        rw [ST.fits_den (β := β') g1 (b3.tok t v h2)]
        exact b3.tm t v h2
      · rw [off_tm hs] at h'
        rw [oldv h']
        have := hT.tm t v (at2_some.1 h')
        unfold Rec.slot at hs
        rw [e5] at hs
        cases hd : o.dst with
        | none => simpa [Act.put] using this
        | some d =>
          rw [hd] at hs
          simp only [Act.put, Array.getElem?_setIfInBounds]
          rw [if_neg (fun e => hs (by rw [e]))]
          exact this
    · intro t v h
      rw [hll]
      have h' := at2_some.2 h
      by_cases hs : r.slot t
      · rw [at_tm hs] at h'
        exact ST.fits_mono z3 (b3.tok t v (at2_some.1 h'))
      · rw [off_tm hs] at h'
        exact hT.tok t v (at2_some.1 h')
end
end Go.Sx
