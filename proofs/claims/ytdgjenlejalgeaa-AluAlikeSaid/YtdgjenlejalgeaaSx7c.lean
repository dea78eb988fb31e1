/- Slices that grow. -/
import Derived.Test.YtdgjenlejalgeaaSx7b
import Derived.Laws.AppendOwn
import Derived.Below
namespace Go.Sx

section
variable {P : Program} {A : Known} {ρ : Env} {β : Nat → Nat} {S : St} {wr w : World} {a : Act}

theorem litCs_den (ρ : Env) (β β' : Nat → Nat) : ∀ {x y : List SC}, litCs x y = true → dens ρ β x = dens ρ β' y ∧ x.length = y.length
  | [], [], _ => ⟨rfl, rfl⟩
  | .ci k (.lit z) :: l, .ci k' (.lit u) :: m, h => by
    simp only [litCs, Bool.and_eq_true] at h
    obtain ⟨h1, h2⟩ := litCs_den ρ β β' h.2
    refine ⟨?_, by simp [h2]⟩
    simp only [dens, List.map_cons] at h1 ⊢
    rw [h1]
    simp [SC.den, X.I, kN_inj h.1.1, intB_eq h.1.2]
  | .cb (.bl z) :: l, .cb (.bl u) :: m, h => by
    simp only [litCs, Bool.and_eq_true] at h
    obtain ⟨h1, h2⟩ := litCs_den ρ β β' h.2
    refine ⟨?_, by simp [h2]⟩
    simp only [dens, List.map_cons] at h1 ⊢
    rw [h1]
    have : z = u := by have := h.1; cases z <;> cases u <;> simp [boolB] at this <;> rfl
    simp [SC.den, X.B, this]
theorem litCs_zz : ∀ {x y : List SC}, litCs x y = true → isZz x = false ∧ isZz y = false
  | [], [], _ => ⟨rfl, rfl⟩
  | .ci _ (.lit _) :: _, .ci _ (.lit _) :: _, _ => ⟨rfl, rfl⟩
  | .cb (.bl _) :: _, .cb (.bl _) :: _, _ => ⟨rfl, rfl⟩
theorem zzB_is {x y : List SC} (h : zzB x y = true) : ∃ n, x = [.zz n] ∧ y = [.zz n] := by
  unfold zzB at h
  split at h
  · exact ⟨_, by rw [X.eqb_eq h], rfl⟩
  · cases h
theorem spB_eq {x y : Option (Nat × Nat × List SC)} (h : spB x y = true) : spV ρ β x = spV ρ β y := by
  cases x with
  | none => cases y with
    | none => rfl
    | some q => simp [spB] at h
  | some p => cases y with
    | none => simp [spB] at h
    | some q =>
      obtain ⟨p1, p2, p3⟩ := p
      obtain ⟨q1, q2, q3⟩ := q
      simp only [spB, Bool.and_eq_true, Bool.or_eq_true] at h
      rcases h.2 with h2 | h2
      · obtain ⟨z1, z2⟩ := litCs_zz h2
        rw [spV_no z1, spV_no z2, Nat.eq_of_beq_eq_true h.1.1, Nat.eq_of_beq_eq_true h.1.2, (litCs_den ρ β β h2).1]
      · obtain ⟨n, rfl, rfl⟩ := zzB_is h2
        rfl

theorem rowCs_fits (e : Nat) (ix : X) (n : Nat) : ∀ (l : List LK) (j : Nat), allB (SC.fits n) (rowCs e ix j l) = true
  | [], _ => rfl
  | k :: l, j => by
    simp only [rowCs, allB, Bool.and_eq_true]
    exact ⟨by cases k <;> rfl, rowCs_fits e ix n l (j + 1)⟩
theorem allB_append {α : Type} (p : α → Bool) (l m : List α) : allB p (l ++ m) = (allB p l && allB p m) := by
  induction l with
  | nil => simp [allB]
  | cons x l ih => simp [allB, ih, Bool.and_assoc]

/-- The cells of one element from outside. -/
theorem row_cells (hA : A.ok ρ) (hR : Rep ρ β S wr w) {e i : Nat} (g1 : ρ.g (rowF e 62) [] = true) (hi : (i : Int) < ρ.f (rowF e 63) []) :
    (rowCs e (.lit (.ofNat i)) 0 (ksOf e)).length = (ksOf e).length ∧
    ∀ (m : Nat) (u : Value), (dens ρ β (rowCs e (.lit (.ofNat i)) 0 (ksOf e)))[m]? = some u → w.cell? ((ρ.x e).adr.add (i * (ksOf e).length + m)) = some u := by
  obtain ⟨s1, s2, hE⟩ := hA.2.2.2 e g1 i hi
  obtain ⟨c1, c2⟩ := rowCs_ok (ρ := ρ) (β := β) e (ix := .lit (.ofNat i)) (i := i) rfl (ksOf e) 0 fun m k hm => by simpa using (hE m k hm).2
  refine ⟨c1, ?_⟩
  intro m u hm
  have hlt : m < (ksOf e).length := by have := (List.getElem?_eq_some_iff.1 hm).1; simp only [dens, List.length_map, c1] at this; exact this
  have := c2 m _ (List.getElem?_eq_getElem hlt)
  rw [this] at hm
  cases hm
  rw [cell_of hR s1, (hE m _ (List.getElem?_eq_getElem hlt)).1]
  simp
theorem rowsX_ok (hA : A.ok ρ) (hR : Rep ρ β S wr w) {e : Nat} (g1 : ρ.g (rowF e 62) [] = true) : ∀ (n i : Nat), ((i + n : Nat) : Int) ≤ ρ.f (rowF e 63) [] →
    (rowsX e n i).length = n * (ksOf e).length ∧ (∀ (j : Nat) (u : Value), (dens ρ β (rowsX e n i))[j]? = some u → w.cell? ((ρ.x e).adr.add (i * (ksOf e).length + j)) = some u) ∧ ∀ N, allB (SC.fits N) (rowsX e n i) = true
  | 0, i, _ => ⟨by simp [rowsX], fun j u h => by simp [rowsX, dens] at h, fun _ => rfl⟩
  | n + 1, i, hn => by
    obtain ⟨h1, h2, h3⟩ := rowsX_ok hA hR g1 n (i + 1) (by rw [show i + 1 + n = i + (n + 1) by omega]; exact hn)
    obtain ⟨c1, c2⟩ := row_cells hA hR (i := i) g1 (by omega)
    refine ⟨?_, ?_, ?_⟩
    · simp only [rowsX, List.length_append]
      rw [c1, h1, Nat.add_mul, Nat.one_mul, Nat.add_comm]
    · intro j u hj
      simp only [rowsX, dens, List.map_append] at hj
      rw [List.getElem?_append] at hj
      split at hj
      · exact c2 j u hj
      · rename_i hge
        have hl : (List.map (SC.den ρ β) (rowCs e (.lit (Int.ofNat i)) 0 (ksOf e))).length = (ksOf e).length := by rw [List.length_map]; exact c1
        rw [hl] at hj hge
        have := h2 _ u hj
        rwa [Nat.add_mul, Nat.one_mul, Nat.add_assoc, show (ksOf e).length + (j - (ksOf e).length) = j by omega] at this
    · intro N
      simp only [rowsX]
      rw [allB_append, rowCs_fits, h3 N]; rfl

/-- A slice that is known whole. -/
theorem rowOf_ok (hA : A.ok ρ) (hR : Rep ρ β S wr w) {sz : Nat} {x : SC} {m : Nat} {news : List SC} (h : rowOf A S sz x = .ok (m, news)) :
    ∃ ad c, x.den ρ β = .slice (some ad) m c ∧ news.length = m * sz ∧ (∀ (j : Nat) (u : Value), (dens ρ β news)[j]? = some u → w.cell? (ad.add j) = some u) ∧ allB (SC.fits S.hp.length) news = true := by
  have block : ∀ {id off n : Nat} {b : Blk} {l : List SC}, blkAt S id = .ok b → cut b.cells off (n * sz) = some l →
      l.length = n * sz ∧ (∀ (j : Nat) (u : Value), (dens ρ β l)[j]? = some u → w.cell? ((⟨β id, off, none⟩ : Addr).add j) = some u) ∧ allB (SC.fits S.hp.length) l = true := by
    intro id off n b l hb hc
    have hid := blkAt_ok hb
    have hw := hR.blk id b hid
    obtain ⟨e1, e2⟩ := cut_eq hc
    refine ⟨e2, ?_, ?_⟩
    · intro j u hj
      rw [addr_add]
      rw [e1] at hj
      simp only [dens, List.map_take, List.map_drop, List.getElem?_take, List.getElem?_drop] at hj
      split at hj
      · have hlt := (List.getElem?_eq_some_iff.1 hj).1
        simp only [World.cell?, hw, Blk.obj, Option.isSome_none, Bool.false_eq_true, if_false, List.getElem?_toArray]
        rw [List.getElem?_append_left (by simpa [dens] using hlt)]; exact hj
      · cases hj
    · have := hR.bok id b hid
      simp only [Blk.ok, Bool.and_eq_true, allB_eq] at this
      rw [allB_eq]
      intro y hy
      rw [e1] at hy
      exact this.1 y (List.mem_of_mem_drop (List.mem_of_mem_take hy))
  cases x with
  | csl id off n cap =>
    simp only [rowOf, R.bind_ok, ofOpt_ok] at h
    obtain ⟨b, hb, l, hl, h⟩ := h
    cases h
    obtain ⟨k1, k2, k3⟩ := block hb hl
    exact ⟨_, _, rfl, k1, k2, k3⟩
  | osl id n =>
    simp only [rowOf, R.bind_ok, ofOpt_ok] at h
    obtain ⟨b, hb, l, hl, h⟩ := h
    cases h
    obtain ⟨k1, k2, k3⟩ := block hb hl
    exact ⟨_, _, rfl, k1, k2, k3⟩
  | xs e off l cap =>
    cases off with
    | lit z =>
      cases z with
      | ofNat z0 =>
        cases z0 with
        | zero =>
          simp only [rowOf] at h
          split at h
          · rename_i n hl
            simp only [R.bind_ok, chk_ok, Bool.and_eq_true] at h
            obtain ⟨_, ⟨⟨k1, k2⟩, k3⟩, h⟩ := h
            cases h
            have k2 := Nat.eq_of_beq_eq_true k2
            rw [len_eq] at k2
            obtain ⟨r1, r2, r3⟩ := inRow_ok hA k3
            simp only [X.I] at r3
            obtain ⟨q1, q2, q3⟩ := rowsX_ok hA hR r1 (n + 1) 0 (by rw [Nat.zero_add]; have : ((n : Nat) : Int) < ρ.f (rowF e 63) [] := r3; omega)
            obtain ⟨s1, s2, s3⟩ := hA.2.2.2 e r1 n r3
            have hln : l.I ρ = ((n + 1 : Nat) : Int) := by rw [← litR_ok hA, hl]; rfl
            refine ⟨(ρ.x e).adr.add (0 * (ksOf e).length), (cap.I ρ).toNat, ?_, by rw [q1, k2], ?_, q3 _⟩
            · simp only [SC.den, s2, Bool.false_eq_true, if_false, hln, Int.toNat_natCast]
              rfl
            · intro j u hj
              have := q2 j u hj
              rw [Addr.add_add]; exact this
          · cases h
        | succ z1 => simp only [rowOf] at h; cases h
      | negSucc z0 => simp only [rowOf] at h; cases h
    | _ => simp only [rowOf] at h; cases h
  | _ => simp only [rowOf] at h; cases h

theorem zeroCells_drop (z : Array Value) (n m : Nat) : (Builtin.zeroCells z n).toList.drop (m * z.size) = (Builtin.zeroCells z (n - m)).toList := by
  apply List.ext_getElem?
  intro j
  rw [List.getElem?_drop]
  simp only [Builtin.zeroCells, Array.toList_map, Array.toList_range, List.getElem?_map]
  by_cases h : j < (n - m) * z.size
  · have h2 : m * z.size + j < n * z.size := by
      have := Nat.sub_mul n m z.size
      omega
    simp [h, h2, Nat.mul_add_mod_self_right]
  · have h2 : ¬ m * z.size + j < n * z.size := by
      have := Nat.sub_mul n m z.size
      omega
    simp [h, h2]

theorem boundS_ge (hA : A.ok ρ) {n i : Nat} {c : SC} (h : boundS A n c = .ok i) (y : Nat) (hy : n ≤ y) (code : BoundsCode) (w : World) : (Instr.sliceBound (c.den ρ β) y code).run P w = .ok i w ∧ i ≤ n := by
  unfold boundS at h
  split at h
  · have := idxS_ok hA h
    refine ⟨?_, by omega⟩
    simp only [SC.den, Instr.sliceBound, asIntOf, Sem.run_bind, Sem.run_pure, Result.andThen_ok, this.1]
    rw [if_pos (by omega)]
    simp [Sem.run_pure]
  · cases h
theorem bounds3_ok (hA : A.ok ρ) {cap C d m h l : Nat} (hC : cap ≤ C) {lo : Option SC} {hi mx : SC} (hm : boundS A cap mx = .ok m) (hh : boundS A m hi = .ok h) (hl : bndOr A h 0 lo = .ok l) (w : World) :
    (Instr.sliceBounds true d C (lo.map (SC.den ρ β)) (some (hi.den ρ β)) (some (mx.den ρ β))).run P w = .ok (l, h, m) w ∧ l ≤ h ∧ h ≤ m := by
  obtain ⟨e0, f0⟩ := boundS_ge (P := P) (β := β) hA hm C hC .slice3Acap w
  obtain ⟨e1, f1⟩ := boundS_ok (P := P) (β := β) hA hh m rfl .slice3B w
  have e2 : (match lo.map (SC.den ρ β) with | some v => Instr.sliceBound v h .slice3C | none => pure 0 : Sem Nat).run P w = .ok l w ∧ l ≤ h := by
    cases lo with
    | none => simp only [bndOr] at hl; cases hl; exact ⟨rfl, by omega⟩
    | some c => exact boundS_ok hA hl h rfl _ w
  refine ⟨?_, e2.2, f1⟩
  unfold Instr.sliceBounds
  cases lo <;> simp_all [Option.map]

/-- The zeros of a type, told. -/
theorem zero_told {t : TypeId} {z : List SC} {i : TypeInfo} (hi : P.info? t = some i) (h : zeroT P t = .ok z) : ∃ v : Value, i.zero = some v ∧ ∀ ρ β, v.cells = (dens ρ β z).toArray := by
  unfold zeroT at h
  rw [hi] at h
  simp only at h
  split at h
  · rename_i v hv
    cases h
    exact ⟨v, hv, fun ρ β => by simp [dens, Function.comp_def]⟩
  · cases h

theorem plains {hA : A.ok ρ} {l : List SC} (h : allB SC.plain l = true) : ∀ u ∈ dens ρ β l, u.oneCell' = true := by
  intro u hu
  simp only [dens, List.mem_map] at hu
  obtain ⟨y, hy, rfl⟩ := hu
  exact SC.plain_one hA.2.2.1 ((allB_eq _ _).1 h y hy)

theorem dens_append (l m : List SC) : dens ρ β (l ++ m) = dens ρ β l ++ dens ρ β m := by simp [dens]

theorem maxR {a b : Nat} (h : a ≤ b) : a.max b = b := Nat.max_eq_right h
/-- A new row behind. -/
theorem app_new {cs : List SC} {e : TypeId} {n : Nat} {z : List SC} {zv : Value} {cap : Nat} (hf : allB (SC.fits S.hp.length) cs = true) (hzc : ∀ ρ β, zv.cells = (dens ρ β z).toArray) (hz : isZz z = false)
    {old : Option Nat} :
    EffOk ρ S (.app old ⟨cs, e, some (S.hp.length + 1, n, z)⟩) w (w.drew.alloc (.cells ((dens ρ β cs).toArray ++ Builtin.zeroCells zv.cells (cap - n)) e)) β
      (fun i => if i = S.hp.length then w.heap.size else if i = S.hp.length + 1 then cap else β i) := by
  refine ⟨w.heap.size, cap, rfl, ?_, ?_, ?_, rfl, rfl, rfl, .inl (Nat.le_refl _)⟩
  · have hag : ∀ i, i < S.hp.length → (fun i => if i = S.hp.length then w.heap.size else if i = S.hp.length + 1 then cap else β i) i = β i := by
      intro i hi; simp only; rw [if_neg (by omega), if_neg (by omega)]
    have h1 := dens_fits (ρ := ρ) hag hf
    rw [show w.heap.size = w.drew.heap.size from rfl, heap_alloc_new]
    congr 1
    simp only [Blk.obj, spV_no hz, ← hzc, if_neg (show ¬ S.hp.length + 1 = S.hp.length by omega), if_true]
    congr 1
    apply Array.ext'
    simp
    exact h1.symm
  · intro k hk _
    exact RowKit.Below.block ((RowKit.Below.refl _ w.drew).alloc (Nat.le_refl _) _) k hk
  · simp

set_option maxHeartbeats 1000000 in
theorem opP_ok (hA : A.ok ρ) (hT : RepA ρ β S a) (hR : Rep ρ β S wr w) {o : Oper} {t : ST} {e : Ef} (h : opP P A S o.op = .ok (t, e)) : Does P ρ S a o t e w β := by
  cases hop : o.op with
  | buildSlice ty n parts =>
    rw [hop] at h
    simp only [opP] at h
    split at h
    · rename_i el e hu hp
      simp only [R.bind_ok, len_eq] at h
      obtain ⟨sz, hsz, h⟩ := h
      cases h
      have hp0 : parts = #[] := by cases parts; simpa using hp
      subst hp0
      refine ⟨w.alloc (Blk.obj ρ β ⟨[], _, none⟩), _, .value (.slice (some ⟨w.heap.size, 0, none⟩) 0 0), ⟨rfl, rfl⟩, ?_, .inl ?_⟩
      · simp [execOp, hop, Instr.buildSlice, run_underlying hu, sizeT_ok hsz, Instr.fill, newRow, Blk.obj, dens]
        congr 1
        congr 1
        apply Array.ext'
        simp
      · simp [ST.den, SV.den, SC.den]
    · cases h
  | indexAddr ty x ix =>
    rw [hop] at h
    simp only [opP, R.bind_ok] at h
    obtain ⟨c, hc, p, hp, xv, hx, h⟩ := h
    have hi := evC_ok hA hT hc
    rw [asI_ok hp] at hi
    have he := evC_ok hA hT hx
    split at h
    · rename_i e id m hu
      simp only [R.bind_ok] at h
      obtain ⟨j, hj, sz, hsz, h⟩ := h
      cases h
      have := idxS_ok hA hj
      refine does_value (s := Instr.indexAt ty (a.eval x) (a.eval ix)) (by simp only [execOp, hop]) ?_
      have hb : (0 : Int) ≤ (j : Int) ∧ (j : Int) < (m : Int) := by omega
      simp [he, hi, SC.den, Instr.indexAt, asIntOf, run_underlying hu, this.1, hb, sizeT_ok hsz, addr_add, ST.den, SV.den]
      omega
    · cases h
  | slice ty x lo hi mx =>
    rw [hop] at h
    simp only [opP, R.bind_ok] at h
    obtain ⟨lc, hlc, hc, hhc, mc, hmc, xv, hx, h⟩ := h
    have he := evC_ok hA hT hx
    have e1 := optC_ok hA hT hlc
    have e2 := optC_ok hA hT hhc
    have e3 := optC_ok hA hT hmc
    split at h
    · rename_i m0 e id off n cap hu
      simp only [R.bind_ok, chk_ok, Bool.and_eq_true, Nat.ble_eq] at h
      obtain ⟨_, ⟨hnc, hsome⟩, m, h0, hh, h1, l, h2, sz, hsz, h⟩ := h
      cases h
      cases hc with
      | none => simp at hsome
      | some hc =>
        simp only [bndOr] at h1
        obtain ⟨b1, b2, b3⟩ := bounds3_ok (P := P) (β := β) (d := n) hA (Nat.le_refl _) h0 h1 h2 w
        refine does_value (s := Instr.sliceAt ty (a.eval x) (lo.map a.eval) (hi.map a.eval) (mx.map a.eval)) (by simp only [execOp, hop]) ?_
        have he' : a.eval x = .slice (some ⟨β id, off, none⟩) n cap := he
        simp only [he', e1, e2, e3, Instr.sliceAt, Instr.slice, Sem.run_bind, run_underlying hu, Result.andThen_ok, Sem.run_pure, Option.map_some, b1, sizeT_ok hsz]
        simp only [ST.den, SV.den, SC.den]
        by_cases hnl : m = l
        · subst hnl; simp
        · have : Nat.beq m l = false := by cases hb : Nat.beq m l with | true => exact absurd (Nat.eq_of_beq_eq_true hb) hnl | false => rfl
          simp [hnl, this, addr_add]
    · rename_i m0 e id n hu
      simp only [R.bind_ok, chk_ok] at h
      obtain ⟨_, hsome, m, h0, hh, h1, l, h2, sz, hsz, h⟩ := h
      cases h
      cases hc with
      | none => simp at hsome
      | some hc =>
        simp only [bndOr] at h1
        obtain ⟨b1, b2, b3⟩ := bounds3_ok (P := P) (β := β) (d := n) (C := Nat.max n (β (id + 1))) hA (Nat.le_max_left _ _) h0 h1 h2 w
        refine does_value (s := Instr.sliceAt ty (a.eval x) (lo.map a.eval) (hi.map a.eval) (mx.map a.eval)) (by simp only [execOp, hop]) ?_
        have he' : a.eval x = .slice (some ⟨β id, 0, none⟩) n (Nat.max n (β (id + 1))) := he
        simp only [he', e1, e2, e3, Instr.sliceAt, Instr.slice, Sem.run_bind, run_underlying hu, Result.andThen_ok, Sem.run_pure, Option.map_some, b1, sizeT_ok hsz]
        simp only [ST.den, SV.den, SC.den]
        by_cases hnl : m = l
        · subst hnl; simp
        · have : Nat.beq m l = false := by cases hb : Nat.beq m l with | true => exact absurd (Nat.eq_of_beq_eq_true hb) hnl | false => rfl
          simp [hnl, this, addr_add]
    · rename_i m0 e hu
      simp only [R.bind_ok, chk_ok, Bool.and_eq_true] at h
      obtain ⟨_, hsome, m, h0, hh, h1, l, h2, sz, hsz, _, ⟨⟨k1, k2⟩, k3⟩, h⟩ := h
      cases h
      cases hc with
      | none => simp at hsome
      | some hc =>
        simp only [bndOr] at h1
        obtain rfl := Nat.eq_of_beq_eq_true k1
        obtain rfl := Nat.eq_of_beq_eq_true k2
        obtain rfl := Nat.eq_of_beq_eq_true k3
        obtain ⟨b1, b2, b3⟩ := bounds3_ok (P := P) (β := β) (d := 0) (C := 0) hA (Nat.le_refl _) h0 h1 h2 w
        refine does_value (s := Instr.sliceAt ty (a.eval x) (lo.map a.eval) (hi.map a.eval) (mx.map a.eval)) (by simp only [execOp, hop]) ?_
        have he' : a.eval x = .slice none 0 0 := he
        simp only [he', e1, e2, e3, Instr.sliceAt, Instr.slice, Sem.run_bind, run_underlying hu, Result.andThen_ok, Sem.run_pure, Option.map_some, b1, sizeT_ok hsz]
        simp [ST.den, SV.den, SC.den]
    · cases h
  | call c =>
    rw [hop] at h
    obtain ⟨cal, args, ats⟩ := c
    cases cal with
    | builtin b =>
      simp only [opP, R.bind_ok] at h
      obtain ⟨vs, hvs, h⟩ := h
      have h1 := evVs_ok hA hT hvs
      have h2 : args.map a.eval = (vs.map (SV.den ρ β)).toArray := by apply Array.ext'; simpa using h1
      split at h
      · rename_i ty b0 n hty
        split at h
        · rename_i el hu
          cases h
          have hty' : ats[0]? = some ty := by rw [← Array.getElem?_toList, hty]; rfl
          refine ⟨w, β, .value _, ⟨rfl, rfl⟩, ?_, .inl rfl⟩
          simp only [execOp, hop, resolve, Sem.run_bind, Sem.run_pure, Result.andThen_ok, invoke, h2]
          simp [builtin, Builtin.len_, hty', run_underlying hu, SV.den, SC.den, ST.den, goInt, X.I]
        · cases h
      · rename_i ty ty' s x hty
        simp only [R.bind_ok, chk_ok] at h
        obtain ⟨_, htt, h⟩ := h
        have htt : ty = ty' := Nat.eq_of_beq_eq_true htt
        subst htt
        have hats : ats = #[ty, ty] := by apply Array.ext'; exact hty
        subst hats
        split at h
        · rename_i e hu
          simp only [R.bind_ok, chk_ok, ofOpt_ok] at h
          obtain ⟨i, hi, z, hz, p, hp, _, hk, h⟩ := h
          obtain ⟨m, news⟩ := p
          obtain ⟨zv, hzv, hzc⟩ := zero_told hi hz
          simp only [Bool.and_eq_true, Nat.ble_eq, len_eq] at hk
          obtain ⟨⟨⟨⟨⟨⟨k1, k2⟩, k3⟩, k4⟩, k5⟩, k6⟩, k7⟩ := hk
          have hz0 := (litCs_zz k7).1
          have k2 := Nat.eq_of_beq_eq_true k2
          obtain ⟨ad, c, x1, x2, x3, x4⟩ := rowOf_ok (β := β) hA hR hp
          have x2' : (dens ρ β news).length = m * i.size := by simp [dens, x2]
          have hb1 : m * i.bytes ≤ 100000000 := by
            have := Nat.mul_le_mul k5 k4; omega
          have fin : ∀ (v : Value) (w1 : World), (Builtin.append_ #[ty, ty] o.type #[s.den ρ β, x.den ρ β]).run P w = .ok v w1 → (execOp a.eval o).run P w = .ok (.value v) w1 := by
            intro v w1 hr
            simp only [execOp, hop, resolve, Sem.run_bind, Sem.run_pure, Result.andThen_ok, invoke, h2]
            simp only [List.map_cons, List.map_nil, SV.den, builtin]
            rw [Sem.run_bind, hr]; rfl
          split at h
          · simp only [len_eq] at h
            cases h
            have hr := run_append_nil (P := P) w ty o.type e i zv hu hi hzv ad m c (dens ρ β news) x2' x3 (by omega) (by omega) (by omega)
            refine ⟨_, _, _, app_new (β := β) (cap := grownCap w m 0 e) x4 hzc hz0, fin _ _ (by rw [x1]; exact hr), .inl ?_⟩
            simp [ST.den, SV.den, SC.den, maxR (grownCap_ge w m 0 e)]
          · rename_i id off n cap
            simp only [R.bind_ok, chk_ok, Bool.and_eq_true, Nat.ble_eq, len_eq] at h
            obtain ⟨q, hq, _, ⟨hg, hn⟩, h⟩ := h
            obtain ⟨n', olds⟩ := q
            cases h
            obtain ⟨ad', c', y1, y2, y3, y4⟩ := rowOf_ok (β := β) hA hR hq
            simp only [SC.den, Value.slice.injEq, Option.some.injEq] at y1
            obtain ⟨rfl, rfl, rfl⟩ := y1
            have y2' : (dens ρ β olds).length = n * i.size := by simp [dens, y2]
            have hb2 : (n + m) * i.bytes ≤ 140737488355328 := by
              have : (n + m) * i.bytes ≤ 200000 * 1000 := Nat.mul_le_mul (by omega) k4
              omega
            have hr := run_append_grow (P := P) w ty o.type e i zv hu hi hzv ⟨β id, off, none⟩ n cap (dens ρ β olds) y2' y3 ad m c (dens ρ β news) x2' x3 (by omega) (by omega) (growslice_fits (by omega) hb2)
            have := app_new (β := β) (ρ := ρ) (S := S) (w := w) (e := e) (n := n + m) (cs := olds ++ news) (cap := grownCap w (n + m) cap e) (by rw [allB_append, y4, x4]; rfl) hzc hz0 (old := none)
            refine ⟨_, _, .value (.slice (some ⟨w.heap.size, 0, none⟩) (n + m) (grownCap w (n + m) cap e)), this, fin _ _ ?_, .inl ?_⟩
            · rw [x1]; refine hr.trans ?_
              rw [dens_append]; simp
            · simp [ST.den, SV.den, SC.den, maxR (grownCap_ge w (n + m) cap e)]
          · rename_i id n
            simp only [R.bind_ok, chk_ok, Bool.and_eq_true, Nat.ble_eq, len_eq] at h
            obtain ⟨b, hb, _, ⟨⟨⟨h3, h4⟩, h5⟩, hn⟩, h⟩ := h
            cases h
            have h3 := Nat.eq_of_beq_eq_true h3
            have h4 : b.elem = e := Nat.eq_of_beq_eq_true h4
            have hid := blkAt_ok hb
            have hw := hR.blk id b hid
            have hbok := hR.bok id b hid
            simp only [Blk.ok, Bool.and_eq_true] at hbok
            rw [Blk.obj, spB_eq (ρ := ρ) (β := β) h5, h4] at hw
            simp only [spV_no hz0, ← hzc] at hw
            have y2' : (dens ρ β b.cells).length = n * i.size := by simp [dens, h3]
            have hzs : zv.cells.size = i.size := by rw [hzc ρ β]; simp [dens, k2]
            have y3 : ∀ (j : Nat) (u : Value), (dens ρ β b.cells)[j]? = some u → w.cell? ((⟨β id, 0, none⟩ : Addr).add j) = some u := by
              intro j u hj
              have hlt := (List.getElem?_eq_some_iff.1 hj).1
              rw [addr_add, Nat.zero_add]
              simp only [World.cell?, hw, Option.isSome_none, Bool.false_eq_true, if_false, List.getElem?_toArray]
              rw [List.getElem?_append_left hlt]; exact hj
            by_cases hroom : n + m ≤ β (id + 1)
            · have em : n.max (β (id + 1)) = β (id + 1) := maxR (by omega)
              have hr := run_append_room (P := P) w ty o.type e i hu hi (β id) n (β (id + 1)) _ hw ad m c (dens ρ β news) x2' x3 (plains (hA := hA) k6) hroom (by
                rw [x2', ← Nat.add_mul]
                simp only [List.size_toArray, List.length_append, y2', Array.length_toList, size_zeroCells, hzs, ← Nat.add_mul]
                exact Nat.mul_le_mul_right _ (by omega))
              have hag : ∀ j, j < S.hp.length → (fun j => if j = S.hp.length then β id else if j = S.hp.length + 1 then β (id + 1) else β j) j = β j := by
                intro j hj; simp only; rw [if_neg (by omega), if_neg (by omega)]
              refine ⟨_, fun j => if j = S.hp.length then β id else if j = S.hp.length + 1 then β (id + 1) else β j, _, ⟨β id, β (id + 1), rfl, ?_, fun k hk hne => setRow_other w _ k _ hne, by simp, rfl, rfl, rfl, .inr ⟨id, b, rfl, hid, rfl⟩⟩, fin _ _ (by rw [x1]; simp only [SC.den, em]; exact hr), .inl ?_⟩
              · rw [setRow_heap w (β id) _ _ _ _ hw]
                congr 1
                simp only [Blk.obj, spV_no hz0, dens_append, dens_fits (ρ := ρ) hag hbok.1, dens_fits (ρ := ρ) hag x4, ← hzc, if_neg (show ¬ S.hp.length + 1 = S.hp.length by omega), if_true]
                congr 2
                have t1 : List.take (n * i.size) (dens ρ β b.cells ++ (Builtin.zeroCells zv.cells (β (id + 1) - n)).toList) = dens ρ β b.cells := List.take_left' y2'
                have t2 : List.drop (n * i.size + (dens ρ β news).length) (dens ρ β b.cells ++ (Builtin.zeroCells zv.cells (β (id + 1) - n)).toList) = (Builtin.zeroCells zv.cells (β (id + 1) - (n + m))).toList := by
                  rw [← List.drop_drop, List.drop_left' y2', x2', ← hzs, zeroCells_drop, Nat.sub_sub]
                rw [t1, t2]
              · simp [ST.den, SV.den, SC.den, maxR hroom]
            · have hC : n.max (β (id + 1)) < n + m := Nat.max_lt.2 ⟨by omega, by omega⟩
              generalize hCe : n.max (β (id + 1)) = C at hC
              have hb2 : (n + m) * i.bytes ≤ 140737488355328 := by
                have : (n + m) * i.bytes ≤ 200000 * 1000 := Nat.mul_le_mul (by omega) k4
                omega
              have hr := run_append_grow (P := P) w ty o.type e i zv hu hi hzv ⟨β id, 0, none⟩ n C (dens ρ β b.cells) y2' y3 ad m c (dens ρ β news) x2' x3 (by omega) (by omega) (growslice_fits (by omega) hb2)
              have := app_new (β := β) (ρ := ρ) (S := S) (w := w) (e := e) (n := n + m) (cs := b.cells ++ news) (cap := grownCap w (n + m) C e) (by rw [allB_append, hbok.1, x4]; rfl) hzc hz0 (old := some id)
              refine ⟨_, _, .value (.slice (some ⟨w.heap.size, 0, none⟩) (n + m) (grownCap w (n + m) C e)), this, fin _ _ ?_, .inl ?_⟩
              · rw [x1]; simp only [SC.den, hCe]; refine hr.trans ?_
                rw [dens_append]; simp
              · simp [ST.den, SV.den, SC.den, maxR (grownCap_ge w (n + m) C e)]
          · cases h
        · cases h
      · cases h
    | _ => simp only [opP] at h; cases h
  | _ => rw [hop] at h; simp only [opP] at h; cases h

end
end Go.Sx
