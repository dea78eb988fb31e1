/- Rows from outside: what is read of them. -/
import Derived.Test.YtdgjenlejalgeaaSx7
import Derived.DataElems
namespace Go.Sx

section
variable {P : Program} {A : Known} {ρ : Env} {β : Nat → Nat} {S : St} {wr w : World} {a : Act}

theorem linQ_ok (hA : A.ok ρ) {c : X} (h : linQ A c = true) : c.B ρ = true := by
  unfold linQ at h
  split at h
  · split at h
    · next e => subst h; simp only [X.B]; exact linGC_ok hA e
    · cases h
  · cases h
theorem sureB_ok (hA : A.ok ρ) {c : X} (h : sureB A c = true) : c.B ρ = true := by
  unfold sureB at h
  split at h
  · next b hb => rw [dec_ok hA c b hb, h]
  · split at h
    · next hl => exact linQ_ok hA hl
    · exact prove_ok hA h
theorem lenX_ok {e : Nat} : ∀ {l : List (X × Bool)}, (∀ x b, (x, b) ∈ l → x.B ρ = b) → (lenX e l).I ρ = ρ.f (rowF e 63) [] := by
  intro l
  induction l with
  | nil => intro _; rfl
  | cons p l ih =>
    intro h
    have ih := ih fun x b hx => h x b (List.mem_cons_of_mem _ hx)
    unfold lenX
    split
    · rename_i hp; cases hp
    · rename_i v f l' hp
      cases hp
      split
      · rename_i hf
        have hf := Nat.eq_of_beq_eq_true hf
        have := h _ _ (List.mem_cons_self)
        simp only [X.B, X.I, X.L, cmpI, beq_iff_eq] at this
        simp only [X.I, this, hf]
      · exact ih
    · rename_i hp; cases hp; exact ih
theorem fixA_ok (e : X) : (fixA e).L ρ = [e.I ρ] := by
  have hb : ∀ x : X, (X.bin .add .i64 x (.lit 0)).L ρ = [IntKind.i64.wrap (x.I ρ)] := by intro x; simp [X.L, X.I, arith]
  cases e <;> simp [fixA, X.L, X.I, arith] <;> rfl
theorem cell_of (hR : Rep ρ β S wr w) {e : Nat} (he : ρ.g (rowF e 60) [] = true) (k : Nat) : w.cell? ((ρ.x e).adr.add k) = cellO (ρ.x e).obj ((ρ.x e).adr.add k) := by
  have hb : ((ρ.x e).adr.add k).block = (ρ.x e).adr.block := by unfold Addr.add; split <;> rfl
  unfold World.cell?
  rw [hb, (hR.row e he).1]
  unfold cellO
  cases (ρ.x e).obj <;> rfl
theorem inRow_ok (hA : A.ok ρ) {e : Nat} {ix : X} (h : inRow A e ix = true) : ρ.g (rowF e 62) [] = true ∧ 0 ≤ ix.I ρ ∧ ix.I ρ < ρ.f (rowF e 63) [] := by
  simp only [inRow, Bool.and_eq_true] at h
  have h1 := sureB_ok hA h.1.1
  have h2 := sureB_ok hA h.1.2
  have h3 := sureB_ok hA h.2
  simp only [B_mkCmp] at h2 h3
  refine ⟨h1, by simpa [cmpI, X.I] using h2, ?_⟩
  have := lenX_ok (e := e) hA.2.1
  rw [← this]; simpa [cmpI] using h3
theorem wrap_fit {k : IntKind} {z : Int} (h : rowFit.kLo' k ≤ z ∧ z ≤ rowFit.kHi' k) : k.wrap z = z := by
  refine wrap_id (k := k) ?_ ?_
  · cases k <;> exact h.1
  · cases k <;> exact h.2
theorem rowCs_ok (e : Nat) {ix : X} {i : Nat} (hi : ix.I ρ = (i : Int)) : ∀ (l : List LK) (j : Nat), (∀ (m : Nat) (k : LK), l[m]? = some k → rowFit ρ e (j + m) i k) → (rowCs e ix j l).length = l.length ∧ ∀ (m : Nat) (k : LK), l[m]? = some k → (dens ρ β (rowCs e ix j l))[m]? = some (rowCell ρ e (j + m) i k)
  | [], j, _ => ⟨rfl, fun m k h => by simp at h⟩
  | k :: l, j, hf => by
    obtain ⟨h1, h2⟩ := rowCs_ok e hi l (j + 1) fun m k h => by have := hf (m + 1) k (by simpa using h); rwa [show j + 1 + m = j + (m + 1) by omega]
    refine ⟨by simp [rowCs, h1], fun m k' h => ?_⟩
    cases m with
    | zero =>
      simp only [List.getElem?_cons_zero, Option.some.injEq] at h
      subst h
      have hf0 := hf 0 k rfl
      rw [Nat.add_zero] at hf0
      simp only [dens, rowCs, List.map_cons, List.getElem?_cons_zero, Option.some.injEq, Nat.add_zero]
      cases k with
      | i k =>
        simp only [rowC, SC.den, X.I, rowCell, fixA_ok, hi]
        rw [wrap_fit (show _ from hf0)]
      | b => simp only [rowC, SC.den, X.B, rowCell, fixA_ok, hi]
    | succ m =>
      have := h2 m k' (by simpa using h)
      simp only [dens, rowCs, List.map_cons, List.getElem?_cons_succ] at this ⊢
      rw [this, show j + 1 + m = j + (m + 1) by omega]
/-- The value that lies in a row. -/
theorem loadR_ok (hA : A.ok ρ) (hR : Rep ρ β S wr w) {t : TypeId} {e fld : Nat} {ix : X} {v : SV} (hr : inRow A e ix = true) (h : partS P t (rowCs e ix 0 (ksOf e)) fld = .ok v) :
    (loadVar t ((ρ.x e).adr.add ((ix.I ρ).toNat * (ksOf e).length + fld))).run P w = .ok (v.den ρ β) w := by
  obtain ⟨g1, g2, g3⟩ := inRow_ok hA hr
  obtain ⟨i, hi⟩ := Int.eq_ofNat_of_zero_le g2
  obtain ⟨s1, s2, hE⟩ := hA.2.2.2 e g1 i (by rw [← hi]; exact g3)
  obtain ⟨c1, c2⟩ := rowCs_ok (ρ := ρ) (β := β) e hi (ksOf e) 0 fun m k hm => by simpa using (hE m k hm).2
  have hcell : ∀ (m : Nat) (u : Value), (dens ρ β (rowCs e ix 0 (ksOf e)))[m]? = some u → w.cell? ((ρ.x e).adr.add (i * (ksOf e).length + m)) = some u := by
    intro m u hm
    have hlt : m < (ksOf e).length := by have := (List.getElem?_eq_some_iff.1 hm).1; simpa [dens, c1] using this
    have := c2 m _ (List.getElem?_eq_getElem hlt)
    rw [this] at hm
    cases hm
    rw [cell_of hR s1, (hE m _ (List.getElem?_eq_getElem hlt)).1]
    simp
  rw [hi, Int.toNat_natCast]
  generalize rowCs e ix 0 (ksOf e) = cs at *
  simp only [partS, R.bind_ok] at h
  obtain ⟨g, hg, h⟩ := h
  simp only [loadVar, Sem.run_bind, isAggT_ok hg, Result.andThen_ok]
  cases g with
  | true =>
    simp only [if_true, R.bind_ok] at h ⊢
    obtain ⟨n, hn, l, hl, h⟩ := h
    cases h
    have := cut_eq (ofOpt_ok.1 hl)
    have hl2 : (loadCells ((ρ.x e).adr.add (i * (ksOf e).length + fld)) (dens ρ β l).length).run P w = .ok (dens ρ β l).toArray w := by
      refine run_loadCells_list w _ _ fun j v hv => ?_
      rw [Addr.add_add, Nat.add_assoc]
      refine hcell _ _ ?_
      rw [this.1] at hv
      simp only [dens, List.map_take, List.map_drop, List.getElem?_take, List.getElem?_drop] at hv ⊢
      split at hv
      · exact hv
      · cases hv
    have hlen : (dens ρ β l).length = n := by simp [dens, this.2]
    rw [hlen] at hl2
    simp [sizeT_ok hn, hl2, SV.den, dens]
  | false =>
    simp only [Bool.false_eq_true, if_false, R.bind_ok] at h ⊢
    obtain ⟨c, hc, h⟩ := h
    cases h
    have := getR_ok.1 hc
    have hw := hcell fld (c.den ρ β) (by simp [dens, this])
    simp [run_load, hw, SV.den]

theorem addRow_ok (hA : A.ok ρ) {off n r : X} (h : addRow A off n = .ok r) (h0 : 0 ≤ off.I ρ) (h1 : 0 ≤ n.I ρ) : (r.I ρ).toNat = (off.I ρ).toNat + (n.I ρ).toNat := by
  unfold addRow at h
  split at h
  · cases h; simp [X.I]
  · cases h; simp [X.I]
  · split at h
    · rename_i hc
      cases h
      simp only [Bool.and_eq_true] at hc
      have b1 := sureB_ok hA hc.1.1.1
      have b2 := sureB_ok hA hc.1.1.2
      have b3 := sureB_ok hA hc.1.2
      have b4 := sureB_ok hA hc.2
      simp only [B_mkCmp, cmpI, X.I] at b1 b2 b3 b4
      replace b1 := of_decide_eq_true b1; replace b2 := of_decide_eq_true b2; replace b3 := of_decide_eq_true b3; replace b4 := of_decide_eq_true b4
      rw [I_mkBin]
      simp only [arith]
      rw [wrap_id (by show (-9223372036854775808 : Int) ≤ _; omega) (by show _ ≤ (9223372036854775807 : Int); omega)]
      omega
    · cases h

theorem litN_ok (hA : A.ok ρ) (e : X) : (litN A e).I ρ = e.I ρ := by
  unfold litN
  split
  · rfl
  · exact litR_ok hA e

set_option maxHeartbeats 1000000 in
theorem opR_ok (hA : A.ok ρ) (hT : RepA ρ β S a) (hR : Rep ρ β S wr w) {o : Oper} {t : ST} {e : Ef} (h : opR P A S o.op = .ok (t, e)) : Does P ρ S a o t e w β := by
  cases hop : o.op with
  | load ty x =>
    rw [hop] at h
    simp only [opR, R.bind_ok] at h
    obtain ⟨c, hc, h⟩ := h
    have he := evC_ok hA hT hc
    split at h
    · rename_i e ix fld
      simp only [R.bind_ok, chk_ok] at h
      obtain ⟨_, hr, v, hv, h⟩ := h
      cases h
      refine does_value (s := Instr.loadAt ty (a.eval x)) (by simp only [execOp, hop]) ?_
      simp only [he, SC.den, Instr.loadAt, Instr.sureAddr, Sem.run_bind, Sem.run_pure, Result.andThen_ok]
      exact loadR_ok hA hR hr hv
    · cases h
  | nilCheck x =>
    rw [hop] at h
    simp only [opR, R.bind_ok] at h
    obtain ⟨c, hc, h⟩ := h
    have he := evC_ok hA hT hc
    split at h
    · cases h
      exact ⟨w, β, _, ⟨rfl, rfl⟩, by simp only [execOp, hop, he, SC.den]; rfl, .inl rfl⟩
    · cases h
  | fieldAddr ty x f =>
    rw [hop] at h
    simp only [opR, R.bind_ok] at h
    obtain ⟨c, hc, h⟩ := h
    have he := evC_ok hA hT hc
    split at h
    · rename_i e ix fld
      split at h
      · rename_i fs hu
        simp only [R.bind_ok, chk_ok] at h
        obtain ⟨fd, hfd, n, hn, _, hk, h⟩ := h
        cases h
        have hfd := getR_ok.1 hfd
        simp only [Nat.ble_eq] at hk
        refine does_value (s := Instr.fieldAt ty (a.eval x) f) (by simp only [execOp, hop]) ?_
        have hfd' : fs[f]? = some fd := by simpa using hfd
        have hn0 : ¬ n = 0 := by omega
        simp [he, SC.den, Instr.fieldAt, run_underlying hu, hfd', Instr.sureAddr, fieldPlace, sizeT_ok hn, hn0, Addr.add_add, ST.den, SV.den, Nat.add_assoc]
      · cases h
    · cases h
  | indexAddr ty x ix =>
    rw [hop] at h
    simp only [opR, R.bind_ok] at h
    obtain ⟨c, hc, p, hp, xv, hx, h⟩ := h
    have hi := evC_ok hA hT hc
    rw [asI_ok hp] at hi
    have hi : a.eval ix = .int p.1 ((litN A p.2).I ρ) := by rw [hi, litN_ok hA]; rfl
    generalize litN A p.2 = p2 at h hi
    have he := evC_ok hA hT hx
    split at h
    · rename_i el e off l cap hu
      simp only [R.bind_ok, chk_ok] at h
      obtain ⟨sz, hsz, _, hst, b1, hb1, _, hb1', b2, hb2, _, hb2', _, ho, _, hin, i, hadd, h⟩ := h
      cases h
      have hst := Nat.eq_of_beq_eq_true hst
      rw [strideOf_eq] at hst
      subst hb1' hb2'
      have k1 := decS_ok hA hb1
      have k2 := decS_ok hA hb2
      have k3 := sureB_ok hA ho
      simp only [B_mkCmp, cmpI, X.I] at k1 k2 k3
      replace k1 := of_decide_eq_true k1; replace k2 := of_decide_eq_true k2; replace k3 := of_decide_eq_true k3
      have k4 := addRow_ok hA hadd k3 k1
      refine does_value (s := Instr.indexAt ty (a.eval x) (a.eval ix)) (by simp only [execOp, hop]) ?_
      have hb : (0 : Int) ≤ p2.I ρ ∧ p2.I ρ < ((l.I ρ).toNat : Int) := by omega
      obtain ⟨r1, r2, r3⟩ := inRow_ok hA hin
      obtain ⟨i0, hi0⟩ := Int.eq_ofNat_of_zero_le r2
      have r4 := (hA.2.2.2 _ r1 i0 (by rw [← hi0]; exact r3)).2.1
      simp only [he, hi, SC.den, r4, Bool.false_eq_true, if_false, Instr.indexAt, asIntOf, Sem.run_bind, run_underlying hu, Result.andThen_ok, Sem.run_pure, if_pos hb, sizeT_ok hsz, Addr.add_add, ST.den, SV.den, k4, hst, Nat.add_mul, Nat.add_zero]
    · cases h
  | slice ty x lo hi mx =>
    rw [hop] at h
    simp only [opR, R.bind_ok] at h
    obtain ⟨lc, hlc, hc, hhc, xv, hx, h⟩ := h
    have he := evC_ok hA hT hx
    have e1 := optC_ok hA hT hlc
    have e2 := optC_ok hA hT hhc
    split at h
    · rename_i h0 el e off l cap hu
      simp only [R.bind_ok, chk_ok] at h
      obtain ⟨sz, hsz, _, hst, b1, hb1, _, hb1', b2, hb2, _, hb2', h⟩ := h
      cases h
      subst hb1' hb2'
      have k1 := decS_ok hA hb1
      have k2 := decS_ok hA hb2
      simp only [B_mkCmp, cmpI, X.I] at k1 k2
      replace k1 := of_decide_eq_true k1; replace k2 := of_decide_eq_true k2
      refine does_value (s := Instr.sliceAt ty (a.eval x) (lo.map a.eval) (hi.map a.eval) none) (by simp only [execOp, hop]; rfl) ?_
      have hb : (0 : Int) ≤ h0.I ρ ∧ h0.I ρ ≤ ((cap.I ρ).toNat : Int) := by omega
      have hs : (Instr.sliceBound (Value.int .i64 (h0.I ρ)) (cap.I ρ).toNat .sliceAcap).run P w = .ok (h0.I ρ).toNat w := by
        simp only [Instr.sliceBound, asIntOf, Sem.run_bind, Sem.run_pure, Result.andThen_ok, if_pos hb]
      cases hn : ρ.g (rowF e 61) [] <;> simp [he, e1, e2, hn, SC.den, Instr.sliceAt, Instr.slice, Instr.sliceBounds, run_underlying hu, hs, sizeT_ok hsz, ST.den, SV.den, Addr.add_add]
    · cases h
  | call c =>
    rw [hop] at h
    obtain ⟨cal, args, ats⟩ := c
    cases cal with
    | builtin b =>
      cases b with
      | len =>
        simp only [opR, R.bind_ok] at h
        obtain ⟨vs, hvs, h⟩ := h
        have h1 := evVs_ok hA hT hvs
        have h2 : args.map a.eval = (vs.map (SV.den ρ β)).toArray := by apply Array.ext'; simpa using h1
        split at h
        · rename_i ty hty
          split at h
          · rename_i el e o l cp hu
            simp only [R.bind_ok, chk_ok] at h
            obtain ⟨_, hl, h⟩ := h
            cases h
            have k1 := sureB_ok hA hl
            simp only [B_mkCmp, cmpI, X.I] at k1
            replace k1 := of_decide_eq_true k1
            refine ⟨w, β, .value _, ⟨rfl, rfl⟩, ?_, .inl rfl⟩
            simp only [execOp, hop, resolve, Sem.run_bind, Sem.run_pure, Result.andThen_ok, invoke, h2]
            simp [builtin, Builtin.len_, hty, run_underlying hu, SV.den, SC.den, ST.den, goInt]
            omega
          · rename_i el hu
            cases h
            refine ⟨w, β, .value _, ⟨rfl, rfl⟩, ?_, .inl rfl⟩
            simp only [execOp, hop, resolve, Sem.run_bind, Sem.run_pure, Result.andThen_ok, invoke, h2]
            simp [builtin, Builtin.len_, hty, run_underlying hu, SV.den, SC.den, ST.den, goInt, X.I]
          · cases h
        · cases h
      | _ => simp only [opR] at h; cases h
    | _ => simp only [opR] at h; cases h
  | _ => rw [hop] at h; simp only [opR] at h; cases h

end
end Go.Sx
