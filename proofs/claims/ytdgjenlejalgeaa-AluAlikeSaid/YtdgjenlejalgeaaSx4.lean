/- A small machine that reads straight Go code as trees, and its truth. -/
import Derived.Test.YtdgjenlejalgeaaSx1b
import Derived.Test.YtdgjenlejalgeaaSx3
namespace Go.Sx

section
variable {P : Program} {A : Known} {ρ : Env} {β : Nat → Nat} {S : St} {wr w : World} {a : Act}

theorem res_ok (hA : A.ok ρ) : ∀ (x : ST) (y : ST), ST.res A x = .ok y → x.den ρ β = y.den ρ β ∧ (∀ n, x.fits n = true → y.fits n = true) := by
  intro x
  induction x with
  | v x => intro y h; simp only [ST.res] at h; cases h; exact ⟨rfl, fun _ h => h⟩
  | tup l => intro y h; simp only [ST.res] at h; cases h; exact ⟨rfl, fun _ h => h⟩
  | ifv c x ih =>
    intro y h
    simp only [ST.res, R.bind_ok] at h
    obtain ⟨v, hv, h⟩ := h
    unfold decR at hv
    split at hv
    · rename_i b hb
      cases hv
      have := dec_ok hA c v hb
      cases v with
      | true =>
        obtain ⟨e, f⟩ := ih y (by simpa using h)
        exact ⟨by simp only [ST.den, this, if_true]; exact e, fun n hn => f n (by simpa [ST.fits] using hn)⟩
      | false =>
        simp only [Bool.false_eq_true, if_false] at h
        cases h
        exact ⟨by simp [ST.den, this, undef], fun n _ => rfl⟩
    · cases hv

theorem void_ok (h : A.void = true) : ¬ A.ok ρ := fun hA => by
  have := prove_ok hA h
  simp [X.B] at this
theorem decS_ok (hA : A.ok ρ) {c : X} {v : Bool} (h : decS A c = .ok v) : c.B ρ = v := by
  unfold decS at h
  split at h
  · rename_i b hb; cases h; exact dec_ok hA _ _ hb
  · split at h
    · rename_i hp
      cases h
      have := prove_ok hA hp
      simpa using this
    · cases h
theorem decT_ok (hA : A.ok ρ) {c : X} {v : Bool} (h : decT A c = .ok v) : c.B ρ = v := by
  unfold decT at h
  split at h
  · rename_i b e; cases h; exact dec_ok hA c v e
  · split at h
    · rename_i ht; cases h; exact tabGo_ok hA ht
    · split at h
      · rename_i ht; cases h
        have := tabGo_ok hA ht
        simpa using this
      · cases h
theorem decR_ok (hA : A.ok ρ) {c : X} {v : Bool} (h : decR A c = .ok v) : c.B ρ = v := by
  unfold decR at h
  split at h
  · rename_i b hb; cases h; exact dec_ok hA c v hb
  · cases h

theorem ev_ok (hA : A.ok ρ) (hT : RepA ρ β S a) {x : Operand} {v : ST} (h : ev A S x = .ok v) : a.eval x = v.den ρ β := by
  cases x with
  | tmp t =>
    simp only [ev, nth_eq] at h
    split at h
    · rename_i u hu
      have := hT.tm t u hu
      simp only [Act.eval, Array.getD_eq_getD_getElem?, this, Option.getD_some]
      exact (res_ok hA u v h).1
    · cases h
  | const c => simp only [ev] at h; cases h; simp [Act.eval, ST.den]
  | func f => simp only [ev] at h; cases h; simp [Act.eval, ST.den, SV.den, SC.den]
  | global g => simp only [ev] at h; cases h

theorem asV_ok {x : ST} {v : SV} (h : asV x = .ok v) : x = .v v := by
  cases x <;> simp only [asV] at h <;> cases h; rfl
theorem asC_ok {x : SV} {v : SC} (h : asC x = .ok v) : x = .c v := by
  cases x <;> simp only [asC] at h <;> cases h; rfl
theorem asP_ok {x : SC} {v : Nat × Nat} (h : asP x = .ok v) : x = .cp v.1 v.2 := by
  cases x <;> simp only [asP] at h <;> cases h; rfl
theorem asI_ok {x : SC} {v : IntKind × X} (h : asI x = .ok v) : x = .ci v.1 v.2 := by
  cases x <;> simp only [asI] at h <;> cases h; rfl
theorem asB_ok {x : SC} {v : X} (h : asB x = .ok v) : x = .cb v := by
  cases x <;> simp only [asB] at h <;> cases h; rfl

theorem evV_ok (hA : A.ok ρ) (hT : RepA ρ β S a) {x : Operand} {v : SV} (h : evV A S x = .ok v) : a.eval x = v.den ρ β := by
  simp only [evV, R.bind_ok] at h
  obtain ⟨t, ht, h⟩ := h
  rw [ev_ok hA hT ht, asV_ok h]; rfl
theorem evC_ok (hA : A.ok ρ) (hT : RepA ρ β S a) {x : Operand} {v : SC} (h : evC A S x = .ok v) : a.eval x = v.den ρ β := by
  simp only [evC, R.bind_ok] at h
  obtain ⟨t, ht, h⟩ := h
  rw [evV_ok hA hT ht, asC_ok h]; rfl
theorem evVs_ok (hA : A.ok ρ) (hT : RepA ρ β S a) : ∀ {l : List Operand} {v : List SV}, evVs A S l = .ok v → l.map a.eval = v.map (SV.den ρ β)
  | [], v, h => by simp only [evVs] at h; cases h; rfl
  | x :: l, v, h => by
    simp only [evVs, R.bind_ok] at h
    obtain ⟨u, hu, us, hus, h⟩ := h
    cases h
    simp [evV_ok hA hT hu, evVs_ok hA hT hus]

/-! ### The tables -/
theorem isAggT_ok {t : TypeId} {b : Bool} (h : isAggT P t = .ok b) (w : World) : (isAgg t).run P w = .ok b w := by
  unfold isAggT at h
  split at h <;> try (cases h; done)
  all_goals
    cases h
    rename_i hu
    simp only [isAgg, Sem.run_bind, run_underlying hu, Result.andThen_ok]
  · rfl
  · rfl
  · rfl
theorem sizeT_info {t : TypeId} {n : Nat} (h : sizeT P t = .ok n) : ∃ i, P.info? t = some i ∧ i.size = n := by
  unfold sizeT at h
  split at h
  · rename_i i hi; cases h; exact ⟨i, hi, rfl⟩
  · cases h
theorem sizeT_ok {t : TypeId} {n : Nat} (h : sizeT P t = .ok n) (w : World) : (sizeOf t).run P w = .ok n w := by
  obtain ⟨i, hi, rfl⟩ := sizeT_info h
  simp [sizeOf, typeInfo, hi]
theorem zeroT_ok {t : TypeId} {z : List SC} (h : zeroT P t = .ok z) (w : World) : ∃ v : Value, (zeroValue t).run P w = .ok v w ∧ ∀ ρ β, v.cells = (dens ρ β z).toArray := by
  unfold zeroT at h
  split at h
  · rename_i i hi
    split at h
    · rename_i v hv
      cases h
      refine ⟨v, by simp [zeroValue, typeInfo, hi, hv], fun ρ β => ?_⟩
      simp [dens, Function.comp_def]
    · cases h
  · cases h

/-- A part of cells, whatever world. -/
theorem partS_ok {t : TypeId} {cs : List SC} {off : Nat} {v : SV} (h : partS P t cs off = .ok v) (w : World) : (part t (dens ρ β cs).toArray off).run P w = .ok (v.den ρ β) w := by
  simp only [partS, R.bind_ok] at h
  obtain ⟨b, hb, h⟩ := h
  simp only [part, Sem.run_bind, isAggT_ok hb, Result.andThen_ok]
  cases b with
  | true =>
    simp only [if_true, R.bind_ok] at h ⊢
    obtain ⟨n, hn, l, hl, h⟩ := h
    cases h
    have := cut_eq (ofOpt_ok.1 hl)
    simp only [Sem.run_bind, sizeT_ok hn, Result.andThen_ok, Sem.run_pure]
    congr 1
    simp only [SV.den]
    congr 1
    apply Array.ext'
    simp only [Array.toList_extract, List.toList_toArray, List.extract_eq_take_drop]
    rw [this.1]
    simp [dens, ← List.map_drop, ← List.map_take]
  | false =>
    simp only [Bool.false_eq_true, if_false, R.bind_ok] at h ⊢
    obtain ⟨c, hc, h⟩ := h
    cases h
    have := getR_ok.1 hc
    have e : (dens ρ β cs).toArray[off]? = some (c.den ρ β) := by simp [dens, this]
    simp [e, SV.den]

theorem blkAt_ok {id : Nat} {b : Blk} (h : blkAt S id = .ok b) : S.hp[id]? = some (some b) := by
  simp only [blkAt, nth_eq] at h
  split at h
  · rename_i c hc; cases h; exact hc
  · cases h

theorem addr_add (b o i : Nat) : (⟨b, o, none⟩ : Addr).add i = ⟨b, o + i, none⟩ := by
  unfold Addr.add; split <;> simp_all

theorem loadS_ok (hR : Rep ρ β S wr w) {t : TypeId} {id off : Nat} {v : SV} (h : loadS P S t id off = .ok v) : (loadVar t ⟨β id, off, none⟩).run P w = .ok (v.den ρ β) w := by
  simp only [loadS, R.bind_ok] at h
  obtain ⟨b, hb, h⟩ := h
  have hw := hR.blk id b (blkAt_ok hb)
  simp only [partS, R.bind_ok] at h
  obtain ⟨g, hg, h⟩ := h
  simp only [loadVar, Sem.run_bind, isAggT_ok hg, Result.andThen_ok]
  have hcell : ∀ j v, (dens ρ β b.cells)[j]? = some v → w.cell? ⟨β id, j, none⟩ = some v := by
    intro j v hj
    have hlt := (List.getElem?_eq_some_iff.1 hj).1
    simp only [World.cell?, hw, Blk.obj, Option.isSome_none, Bool.false_eq_true, if_false, List.getElem?_toArray]
    rw [List.getElem?_append_left hlt]; exact hj
  cases g with
  | true =>
    simp only [if_true, R.bind_ok] at h ⊢
    obtain ⟨n, hn, l, hl, h⟩ := h
    cases h
    have := cut_eq (ofOpt_ok.1 hl)
    have hl2 : (loadCells ⟨β id, off, none⟩ (dens ρ β l).length).run P w = .ok (dens ρ β l).toArray w := by
      refine run_loadCells_list w _ _ fun j v hv => ?_
      rw [addr_add]
      refine hcell _ _ ?_
      rw [this.1] at hv
      simp only [dens, List.map_take, List.map_drop, List.getElem?_take, List.getElem?_drop] at hv
      split at hv
      · simpa [dens] using hv
      · cases hv
    have hlen : (dens ρ β l).length = n := by simp [dens, this.2]
    rw [hlen] at hl2
    simp [sizeT_ok hn, hl2, SV.den, dens]
  | false =>
    simp only [Bool.false_eq_true, if_false, R.bind_ok] at h ⊢
    obtain ⟨c, hc, h⟩ := h
    cases h
    have := getR_ok.1 hc
    have e : w.cell? ⟨β id, off, none⟩ = some (c.den ρ β) := hcell _ _ (by simp [dens, this])
    simp [run_load, e, SV.den]
end
end Go.Sx
