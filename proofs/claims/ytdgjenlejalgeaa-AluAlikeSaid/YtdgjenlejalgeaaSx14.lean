/- A small machine that reads straight Go code as trees, and its truth. -/
import Derived.Test.YtdgjenlejalgeaaSx13
namespace Go.Sx

section
variable {P : Program} {A : Known} {ρ : Env} {β β' β'' : Nat → Nat} {S S1 : St} {wr w w' : World} {a : Act}

theorem SC.avoids_den {l : List Nat} (hb : ∀ i, i ∉ l → β' i = β i) {x : SC} (h : x.avoids l = true) : x.den ρ β' = x.den ρ β := by
  have nm : ∀ b, (!mem b l) = true → b ∉ l := by intro b hb hm; rw [mem_iff.2 hm] at hb; cases hb
  cases x with
  | cp b o => simp only [SC.avoids] at h; simp only [SC.den, hb b (nm b h)]
  | csl b o l' c => simp only [SC.avoids] at h; simp only [SC.den, hb b (nm b h)]
  | zsl b n => simp only [SC.avoids] at h; simp only [SC.den, hb b (nm b h)]
  | osl b n => simp only [SC.avoids, Bool.and_eq_true] at h; simp only [SC.den, hb b (nm b h.1), hb (b + 1) (nm _ h.2)]
  | cf f caps =>
    simp only [SC.avoids, allB_eq] at h
    simp only [SC.den]
    congr 2
    exact List.map_congr_left fun x hx => by rw [hb x.1 (nm _ (h x hx))]
  | _ => rfl
theorem dens_avoids {l : List Nat} (hb : ∀ i, i ∉ l → β' i = β i) {cs : List SC} (h : allB (SC.avoids l) cs = true) : dens ρ β' cs = dens ρ β cs := by
  rw [allB_eq] at h
  exact List.map_congr_left fun x hx => SC.avoids_den hb (h x hx)
theorem SV.avoids_den {l : List Nat} (hb : ∀ i, i ∉ l → β' i = β i) {x : SV} (h : x.avoids l = true) : x.den ρ β' = x.den ρ β := by
  cases x with
  | c x => exact SC.avoids_den hb h
  | agg cs => simp only [SV.den]; congr 2; exact dens_avoids hb h
theorem ST.avoids_den {l : List Nat} (hb : ∀ i, i ∉ l → β' i = β i) {x : ST} (h : x.avoids l = true) : x.den ρ β' = x.den ρ β := by
  induction x with
  | v x => exact SV.avoids_den hb h
  | tup vs =>
    simp only [ST.avoids, allB_eq] at h
    simp only [ST.den]; congr 2
    exact List.map_congr_left fun x hx => SV.avoids_den hb (h x hx)
  | ifv c x ih => simp only [ST.den, ih h]
theorem Blk.avoids_obj {l : List Nat} (hb : ∀ i, i ∉ l → β' i = β i) {b : Blk} (h : b.avoids l = true) : b.obj ρ β' = b.obj ρ β := by
  simp only [Blk.avoids, Bool.and_eq_true] at h
  unfold Blk.obj; rw [dens_avoids hb h.1]
  have h2 := h.2
  cases hs : b.sp with
  | none => rfl
  | some p =>
    obtain ⟨ph, m, z⟩ := p
    cases hz : isZz z with
    | true => obtain ⟨x, rfl⟩ := isZz_is hz; rfl
    | false =>
      simp only [hs, spAvoids, hz, Bool.false_or, Bool.and_eq_true] at h2
      have nm : ph ∉ l := by intro hm; rw [mem_iff.2 hm] at h2; simp at h2
      rw [spV_no hz, spV_no hz, dens_avoids hb h2.2, hb ph nm]

theorem Rec.all_ok {r : Rec} {p : ST → Bool} {q : Blk → Bool} (h : r.all p q = true) : (∀ t v, r.slot t → at2 r.S1.tm t = some v → p v = true) ∧ (∀ id b, r.blks id → at2 r.S1.hp id = some b → q b = true) := by
  simp only [Rec.all, Bool.and_eq_true, allB_eq] at h
  obtain ⟨⟨h1, h2⟩, h3⟩ := h
  constructor
  · intro t v hs hv
    unfold Rec.slot at hs
    rw [hs] at h1
    simp only [hv, optT] at h1
    exact h1
  · intro id b hs hv
    rcases hs with hs | ⟨hs1, hs2⟩
    · have := h2 id hs
      simpa only [hv, optB] using this
    · have hm : some b ∈ dropN r.n0 r.S1.hp := by
        rw [dropN_eq]
        have := at2_some.1 hv
        refine List.mem_of_getElem? (i := id - r.n0) ?_
        rw [List.getElem?_drop, show r.n0 + (id - r.n0) = id by omega]; exact this
      have := h3 _ hm
      simpa only [optB] using this

/-- All that is known is of the first blocks. -/
def Whole (M : St) : Prop := (∀ (id : Nat) (b : Blk), M.hp[id]? = some (some b) → b.ok M.hp.length = true) ∧ ∀ (t : Nat) (v : ST), M.tm[t]? = some (some v) → v.fits M.hp.length = true
theorem Whole.mask {bs : List Nat} {bi i : Nat} {oi : List Nat × List Nat} {L : List (List Nat × List Nat)} {S M : St} (h : maskS bs bi i oi L S = .ok M) (hw : Whole S) : Whole M := by
  obtain ⟨_, _, _, m4, _, m6, m7⟩ := maskS_ok h
  refine ⟨fun id b hb => ?_, fun t v hv => ?_⟩
  · rw [m4]; exact hw.1 id b (at2_some.1 (m7 id b (at2_some.2 hb)).1)
  · rw [m4]; exact hw.2 t v (at2_some.1 (m6 t v (at2_some.2 hv)).1)
theorem Whole.upd {r : Rec} {T : St} (hat : r.at T.hp.length T.tm.length) (hle : T.hp.length ≤ r.S1.hp.length) (hw : Whole T)
    (h1 : ∀ t v, r.slot t → at2 r.S1.tm t = some v → v.fits r.S1.hp.length = true) (h2 : ∀ id b, r.blks id → at2 r.S1.hp id = some b → b.ok r.S1.hp.length = true) : Whole (r.upd T) := by
  refine ⟨fun id b hb => ?_, fun t v hv => ?_⟩
  · rw [Rec.upd_len hat]
    have hb := at2_some.2 hb
    by_cases hs : r.blks id
    · rw [(Rec.upd_hp hat id).1 hs] at hb; exact h2 id b hs hb
    · rw [(Rec.upd_hp hat id).2 hs] at hb; exact Blk.ok_mono hle (hw.1 id b (at2_some.1 hb))
  · rw [Rec.upd_len hat]
    have hv := at2_some.2 hv
    by_cases hs : r.slot t
    · rw [(Rec.upd_tm hat t).1 hs] at hv; exact h1 t v hs hv
    · rw [(Rec.upd_tm hat t).2 hs] at hv; exact ST.fits_mono hle (hw.2 t v (at2_some.1 hv))

/-- What is known of an operation of a drawn region. -/
def Props (P : Program) (A : Known) (callf : Known → FuncId → List SV → St → R (ST × St)) (ops : List Oper) (bs : List Nat) (O : List (List Nat × List Nat)) (i : Nat) (o : Oper) (T : St) (r : Rec) : Prop :=
  ∃ bi oi M, bs[i]? = some bi ∧ O[i]? = some oi ∧ maskS bs bi i oi O { T with base := len T.hp, wr := [] } = .ok M ∧ stepS P A callf ops o M = .ok r.S1 ∧ r.d = o.dst ∧ r.n0 = T.hp.length ∧
    (∀ t, r.slot t → t ∈ oi.1 ∧ t < T.tm.length) ∧ (∀ id ∈ r.S1.wr, ∃ b, at2 M.hp id = some b) ∧ (∀ id, r.blks id → id ∈ oi.2) ∧ Whole M ∧ T.hp.length ≤ r.S1.hp.length ∧
    (∀ t v, r.slot t → at2 r.S1.tm t = some v → v.avoids (badS bs bi i O 0) = true ∧ v.fits r.S1.hp.length = true) ∧ (∀ id b, r.blks id → at2 r.S1.hp id = some b → b.avoids (badS bs bi i O 0) = true ∧ b.ok r.S1.hp.length = true)

theorem Props.at {callf : Known → FuncId → List SV → St → R (ST × St)} {ops : List Oper} {bs : List Nat} {O : List (List Nat × List Nat)} {i : Nat} {o : Oper} {T : St} {r : Rec} (h : Props P A callf ops bs O i o T r) :
    r.at T.hp.length T.tm.length := by
  obtain ⟨bi, oi, M, h1, h2, h3, h4, h5, h6, h7, h8, h9, h10, h11, _⟩ := h
  obtain ⟨_, _, _, m4, _⟩ := maskS_ok h3
  refine ⟨h6, h11, fun id hid => ?_, fun t ht => (h7 t ht).2⟩
  obtain ⟨b, hb⟩ := h8 id hid
  have := nth_len (at2_some.1 hb)
  simpa [m4] using this

theorem drawn2_recs {callf : Known → FuncId → List SV → St → R (ST × St)} {ops : List Oper} {bs : List Nat} {O : List (List Nat × List Nat)} : ∀ {l : List Oper} {i : Nat} {T T' : St}, Whole T → drawn2 P A callf ops bs O l i T = .ok T' →
    ∃ recs : List Rec, recs.length = l.length ∧ allOf recs T = T' ∧ ∀ (k : Nat) (o : Oper), l[k]? = some o → ∃ r, recs[k]? = some r ∧ Props P A callf ops bs O (i + k) o (allOf (recs.take k) T) r
  | [], i, T, T', _, h => by simp only [drawn2] at h; cases h; exact ⟨[], rfl, rfl, fun k o h => by simp at h⟩
  | o :: l, i, T, T', hw, h => by
    simp only [drawn2, R.bind_ok, chk_ok] at h
    obtain ⟨bi, h1, oi, h2, M, h3, S1, h4, _, h5, _, h6, _, h7, h⟩ := h
    have hP : Props P A callf ops bs O i o T ⟨o.dst, len T.hp, S1⟩ := by
      refine ⟨bi, oi, M, getR_ok.1 h1, getR_ok.1 h2, h3, h4, rfl, len_eq _, ?_⟩
      simp only [Bool.and_eq_true, sub_iff, Nat.ble_eq, allB_eq] at h5 h6 h7
      obtain ⟨⟨s1, s2⟩, s3⟩ := h5
      obtain ⟨n2, n3⟩ := h6
      obtain ⟨⟨z1, z2⟩, z3⟩ := h7
      have a1 := Rec.all_ok n3
      have a2 := Rec.all_ok z1
      simp only [len_eq] at z2 s3
      refine ⟨fun t ht => ⟨s1 t (by unfold Rec.slot at ht; simp only at ht; simp [ht]), ?_⟩, fun id hid => ?_, fun id hid => ?_, Whole.mask h3 hw, z2, fun t v ht hv => ⟨a1.1 t v ht hv, by rw [← len_eq]; exact a2.1 t v ht hv⟩, fun id b hb hv => ⟨a1.2 id b hb hv, by rw [← len_eq]; exact a2.2 id b hb hv⟩⟩
      · unfold Rec.slot at ht
        simp only at ht
        rw [ht] at z3
        simp only [Nat.ble_eq, len_eq] at z3
        exact z3
      · have := n2 id hid
        split at this
        · rename_i b hb; exact ⟨b, hb⟩
        · cases this
      · rcases hid with hid | ⟨hid1, hid2⟩
        · exact s2 id hid
        · refine s3 id (rangeL_iff.2 ?_)
          simp only [len_eq] at hid1 hid2
          omega
    have hw' : Whole (Rec.upd ⟨o.dst, len T.hp, S1⟩ T) := by
      have hat := hP.at
      obtain ⟨_, _, _, _, _, _, _, _, _, _, _, _, _, p11, p12, p13⟩ := hP
      exact Whole.upd hat p11 hw (fun t v ht hv => (p12 t v ht hv).2) (fun id b hb hv => (p13 id b hb hv).2)
    obtain ⟨recs, r1, r2, r3⟩ := drawn2_recs hw' h
    refine ⟨⟨o.dst, len T.hp, S1⟩ :: recs, by simp [r1], by simpa [allOf] using r2, ?_⟩
    intro k o' hk
    cases k with
    | succ k =>
      obtain ⟨r, c1, c2⟩ := r3 k o' (by simpa using hk)
      refine ⟨r, by simpa using c1, ?_⟩
      rw [List.take_succ_cons, allOf, show i + (k + 1) = i + 1 + k by omega]
      exact c2
    | zero =>
      simp at hk; subst hk
      refine ⟨_, rfl, ?_⟩
      simpa [allOf] using hP

theorem allOf_len {callf : Known → FuncId → List SV → St → R (ST × St)} {ops : List Oper} {bs : List Nat} {O : List (List Nat × List Nat)} : ∀ {recs : List Rec} {l : List Oper} {i : Nat} {T : St}, recs.length = l.length →
    (∀ (k : Nat) (o : Oper), l[k]? = some o → ∃ r, recs[k]? = some r ∧ Props P A callf ops bs O (i + k) o (allOf (recs.take k) T) r) → Chain recs T.hp.length T.tm.length
  | [], _, _, _, _, _ => trivial
  | r :: recs, [], _, _, h, _ => by simp at h
  | r :: recs, o :: l, i, T, hl, h => by
    obtain ⟨r', h1, h2⟩ := h 0 o rfl
    simp at h1; subst h1
    have hat := h2.at
    simp only [List.take_zero, allOf] at hat
    refine ⟨hat, ?_⟩
    have := allOf_len (recs := recs) (l := l) (i := i + 1) (T := r.upd T) (by simpa using hl) (fun k o' hk => by
      obtain ⟨r', c1, c2⟩ := h (k + 1) o' (by simpa using hk)
      refine ⟨r', by simpa using c1, ?_⟩
      rw [List.take_succ_cons, allOf, show i + (k + 1) = i + 1 + k by omega] at c2
      exact c2)
    rwa [Rec.upd_len hat, Rec.upd_tm_len] at this

theorem rep_getD (k j : Nat) : (List.replicate k true).getD j false = decide (j < k) := by
  rw [List.getD_eq_getElem?_getD, List.getElem?_replicate]; split <;> simp_all

/-- The first 'k' of them. -/
theorem after_take : ∀ {recs : List Rec} {k : Nat} {T : St} (x : Nat), Chain recs T.hp.length T.tm.length → at2 (after recs (List.replicate k true) T).tm x = at2 (allOf (recs.take k) T).tm x ∧ at2 (after recs (List.replicate k true) T).hp x = at2 (allOf (recs.take k) T).hp x
  | [], k, T, x, _ => by simp [after, allOf]
  | r :: recs, 0, T, x, hc => by
    simp only [List.replicate_zero, List.take_zero, allOf]
    exact ⟨by rw [after_none_tm.1], after_none_hp x⟩
  | r :: recs, k + 1, T, x, hc => by
    simp only [List.replicate_succ, List.take_succ_cons, allOf, after, List.headD_cons, if_true, List.tail_cons]
    exact after_take x (by rw [Rec.upd_len hc.1, Rec.upd_tm_len]; exact hc.2)
theorem after_all_len : ∀ {recs : List Rec} {T : St}, Chain recs T.hp.length T.tm.length → after recs (List.replicate recs.length true) T = allOf recs T
  | [], T, _ => rfl
  | r :: recs, T, hc => by
    simp only [List.length_cons, List.replicate_succ, allOf, after, List.headD_cons, if_true, List.tail_cons]
    exact after_all_len (by rw [Rec.upd_len hc.1, Rec.upd_tm_len]; exact hc.2)

theorem Rep.same {S' : St} (hR : Rep ρ β S wr w) (hh : ∀ id, at2 S'.hp id = at2 S.hp id) (hl : S.hp.length ≤ S'.hp.length) (hb : S'.base = S.base) (h1 : ∀ x, x ∈ S.wr → x ∈ S'.wr) (h2 : ∀ x, x ∈ S'.wr → x < S.base) : Rep ρ β S' wr w := by
  have get : ∀ {id : Nat} {b : Blk}, S'.hp[id]? = some (some b) → S.hp[id]? = some (some b) := fun h => at2_some.1 (by rw [← hh]; exact at2_some.2 h)
  refine ⟨fun id b h => hR.blk id b (get h), fun id b h => Blk.ok_mono hl (hR.bok id b (get h)), fun id b h => by rw [hb]; exact hR.old id b (get h), fun id b h => by
      rw [hb]; intro hbs
      rcases hR.new id b (get h) hbs with h3 | ⟨o, ho, h3⟩
      · exact .inl h3
      · exact .inr ⟨o, h1 o ho, h3⟩,
    fun i j b c h k => hR.inj i j b c (get h) (get k), fun k hk h => hR.frame k hk fun id hid => h id (h1 id hid), hR.size, hR.os, hR.tape, hR.output, by rw [hb]; exact h2, by rw [hb]; exact Nat.le_trans hR.bs hl, fun e he => ⟨(hR.row e he).1, fun id b h => (hR.row e he).2 id b (get h)⟩⟩
theorem RepA.same {S' : St} (hT : RepA ρ β S a) (hh : ∀ t, at2 S'.tm t = at2 S.tm t) (hl : S'.tm.length = S.tm.length) (hp : S.hp.length ≤ S'.hp.length) : RepA ρ β S' a := by
  have get : ∀ {t : Nat} {v : ST}, S'.tm[t]? = some (some v) → S.tm[t]? = some (some v) := fun h => at2_some.1 (by rw [← hh]; exact at2_some.2 h)
  exact ⟨by rw [hl]; exact hT.sz, fun t v h => hT.tm t v (get h), fun t v h => ST.fits_mono hp (hT.tok t v (get h)), hT.df⟩
end
end Go.Sx
