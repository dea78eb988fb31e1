/- A small machine that reads straight Go code as trees, and its truth. -/
import Derived.Test.YtdgjenlejalgeaaSx6
namespace Go.Sx

section
variable {P : Program} {A : Known} {ρ : Env} {β : Nat → Nat} {S : St} {wr w : World} {a : Act}

set_option maxHeartbeats 1000000 in
theorem opS_ok (hA : A.ok ρ) (hT : RepA ρ β S a) (hR : Rep ρ β S wr w) {o : Oper} {t : ST} {e : Ef} (h : opS P A S o.op = .ok (t, e)) : Does P ρ S a o t e w β := by
  cases hop : o.op with
  | move x =>
    rw [hop] at h
    simp only [opS, R.bind_ok] at h
    obtain ⟨v, hv, h⟩ := h
    cases h
    exact ⟨w, β, _, ⟨rfl, rfl⟩, by simp only [execOp, hop]; rfl, .inl (by rw [ev_ok hA hT hv])⟩
  | assign x =>
    rw [hop] at h
    simp only [opS, R.bind_ok] at h
    obtain ⟨v, hv, h⟩ := h
    cases h
    exact ⟨w, β, _, ⟨rfl, rfl⟩, by simp only [execOp, hop]; rfl, .inl (by rw [ev_ok hA hT hv])⟩
  | pick c x y =>
    rw [hop] at h
    simp only [opS, R.bind_ok] at h
    obtain ⟨c0, hc0, b, hb, h⟩ := h
    have hc := evC_ok hA hT hc0
    rw [asB_ok hb] at hc
    simp only [SC.den] at hc
    split at h
    · rename_i hd
      simp only [R.bind_ok] at h
      obtain ⟨v, hv, h⟩ := h
      cases h
      refine ⟨w, β, _, ⟨rfl, rfl⟩, by simp only [execOp, hop, hc, asBool, dec_ok hA _ _ hd]; rfl, .inl (by simp [ev_ok hA hT hv])⟩
    · rename_i hd
      simp only [R.bind_ok] at h
      obtain ⟨v, hv, h⟩ := h
      cases h
      refine ⟨w, β, _, ⟨rfl, rfl⟩, by simp only [execOp, hop, hc, asBool, dec_ok hA _ _ hd]; rfl, .inl (by simp [ev_ok hA hT hv])⟩
    · simp only [R.bind_ok] at h
      obtain ⟨u3, h1, u2, h2, u1, h3, u, h4, v3, k1, v2, k2, v1, k3, v, k4, h⟩ := h
      cases h
      rw [asV_ok h2, asC_ok h3, asB_ok h4] at h1
      rw [asV_ok k2, asC_ok k3, asB_ok k4] at k1
      refine ⟨w, β, _, ⟨rfl, rfl⟩, by simp only [execOp, hop, hc, asBool]; rfl, .inl ?_⟩
      cases hbb : b.B ρ
      · have := ev_ok (assume_ok b false hA hbb) hT k1
        simp [this, ST.den, SV.den, SC.den, hbb]
      · have := ev_ok (assume_ok b true hA hbb) hT h1
        simp [this, ST.den, SV.den, SC.den, hbb]
  | alloc ty =>
    rw [hop] at h
    simp only [opS, R.bind_ok] at h
    obtain ⟨z, hz, h⟩ := h
    cases h
    obtain ⟨v, hv, hc⟩ := zeroT_ok hz w
    refine ⟨w.alloc (Blk.obj ρ β ⟨z, ty, none⟩), _, .value (.pointer (some ⟨w.heap.size, 0, none⟩)), ⟨rfl, rfl⟩, ?_, .inl ?_⟩
    · simp [execOp, hop, Instr.alloc, hv, newVar, newRow, hc ρ β, Blk.obj]
    · simp [ST.den, SV.den, SC.den, len_eq]
  | box ty x =>
    rw [hop] at h
    simp only [opS, R.bind_ok, chk_ok] at h
    obtain ⟨v, hv, _, hp, h⟩ := h
    cases h
    have hc := SV.plain_cells hA.2.2.1 (β := β) hp
    refine ⟨w.alloc (Blk.obj ρ β ⟨v.cells, ty, none⟩), _, .value (.pointer (some ⟨w.heap.size, 0, none⟩)), ⟨rfl, rfl⟩, ?_, .inl ?_⟩
    · simp [execOp, hop, Instr.box, newVar, newRow, evV_ok hA hT hv, hc, Blk.obj]
    · simp [ST.den, SV.den, SC.den, len_eq]
  | build ty parts =>
    rw [hop] at h
    simp only [opS, R.bind_ok, chk_ok] at h
    obtain ⟨z, hz, vs, hvs, _, hpl, h⟩ := h
    obtain ⟨zv, hzv, hzc⟩ := zeroT_ok hz w
    have hm := evVs_map hA hT hvs
    have hp := parts_plain (ρ := ρ) (β := β) hA (l := parts.toList.map (·.1)) hpl
    split at h
    · rename_i fs hu
      simp only [R.bind_ok, chk_ok] at h
      obtain ⟨_, hf, cs, hcs, h⟩ := h
      cases h
      obtain ⟨places, h1, h2⟩ := place_ok (P := P) fs w (fun f hf' => by
        have := (allB_eq _ _).1 hf f hf'
        split at this
        · rename_i i hi; exact ⟨i, hi⟩
        · cases this)
      have hfill := fillS_ok hcs hp
      rw [← hm] at hfill
      refine does_value (s := Instr.build ty (parts.map fun (i, x) => (i, a.eval x))) (by simp only [execOp, hop]) ?_
      have hpl' : (fun i => places[i]?) = placeS P fs.toList := funext h2
      rw [← hpl'] at hfill
      have h1' := h1
      simp only [Instr.build, Sem.run_bind, hzv, Result.andThen_ok, run_underlying hu, hzc ρ β]
      simp only [h1', Result.andThen_ok, hfill]
      simp [ST.den, SV.den, dens]
    · rename_i n e hu
      simp only [R.bind_ok] at h
      obtain ⟨sz, hsz, cs, hcs, h⟩ := h
      cases h
      have hfill := fillS_ok hcs hp
      rw [← hm] at hfill
      refine does_value (s := Instr.build ty (parts.map fun (i, x) => (i, a.eval x))) (by simp only [execOp, hop]) ?_
      simp only [Instr.build, Sem.run_bind, hzv, Result.andThen_ok, run_underlying hu, sizeT_ok hsz, hzc ρ β]
      simp only [hfill]
      simp [ST.den, SV.den, dens]
    · cases h
  | buildSlice ty n parts =>
    rw [hop] at h
    simp only [opS, R.bind_ok, chk_ok] at h
    obtain ⟨vs, hvs, _, hpl, h⟩ := h
    have hm := evVs_map hA hT hvs
    have hp := parts_plain (ρ := ρ) (β := β) hA (l := parts.toList.map (·.1)) hpl
    split at h
    · rename_i e hu
      simp only [R.bind_ok, chk_ok] at h
      obtain ⟨sz, hsz, z, hz, _, hc, cs, hcs, h⟩ := h
      cases h
      simp only [Bool.and_eq_true, Nat.ble_eq, len_eq] at hc
      obtain ⟨⟨⟨c1, c2⟩, c3⟩, c4⟩ := hc
      have c1 := Nat.eq_of_beq_eq_true c1
      obtain ⟨zv, hzv, hzc⟩ := zeroT_ok hz w
      have hfill := fillS_ok hcs hp
      rw [← hm] at hfill
      refine ⟨w.alloc (Blk.obj ρ β ⟨cs, e, none⟩), _, .value (.slice (some ⟨w.heap.size, 0, none⟩) n n), ⟨rfl, rfl⟩, ?_, .inl ?_⟩
      · have hne : ¬ n * sz = 0 := by
          intro h0
          rcases Nat.mul_eq_zero.1 h0 with h0 | h0 <;> omega
        have hle : ¬ n * sz > 2 ^ 24 := by simp; omega
        have hzz := zero_cells (ρ := ρ) (β := β) z n zv.cells (hzc ρ β) (by omega) (n * sz) (by rw [c1])
        simp only [execOp, hop, Instr.buildSlice, Sem.run_bind, run_underlying hu, Result.andThen_ok, sizeT_ok hsz, hle, hne, if_false, hzv, Sem.run_pure, hzz, hfill]
        simp [newRow, Blk.obj]
      · simp [ST.den, SV.den, SC.den, len_eq]
    · cases h
  | load ty x =>
    rw [hop] at h
    simp only [opS, R.bind_ok] at h
    obtain ⟨c, hc, p, hp, v, hv, h⟩ := h
    cases h
    have he := evC_ok hA hT hc
    rw [asP_ok hp] at he
    refine does_value (s := Instr.loadAt ty (a.eval x)) (by simp only [execOp, hop]) ?_
    simp only [he, SC.den, Instr.loadAt, Instr.sureAddr, Sem.run_bind, Sem.run_pure, Result.andThen_ok]
    exact loadS_ok hR hv
  | store ty x y =>
    rw [hop] at h
    simp only [opS, R.bind_ok] at h
    obtain ⟨c, hc, p, hp, v, hv, e', he', h⟩ := h
    cases h
    have he := evC_ok hA hT hc
    rw [asP_ok hp] at he
    obtain ⟨b, old, rfl, h1, h2, h3⟩ := storeS_ok hA hR he'
    refine ⟨putBlk w (β p.1) b ρ β, β, .skip, ⟨rfl, rfl, old, h1, h2⟩, ?_, .inr ⟨rfl, rfl⟩⟩
    simp only [execOp, hop, he, SC.den, Instr.storeAt, Instr.sureAddr, Sem.run_bind, Sem.run_pure, Result.andThen_ok, evV_ok hA hT hv, h3]
  | nilCheck x =>
    rw [hop] at h
    simp only [opS, R.bind_ok] at h
    obtain ⟨c, hc, h⟩ := h
    have he := evC_ok hA hT hc
    split at h
    · cases h
      exact ⟨w, β, _, ⟨rfl, rfl⟩, by simp only [execOp, hop, he, SC.den]; rfl, .inl rfl⟩
    · cases h
      exact ⟨w, β, _, ⟨rfl, rfl⟩, by simp only [execOp, hop, he, SC.den]; rfl, .inl rfl⟩
    · cases h
  | binOp op ty x y yt =>
    rw [hop] at h
    simp only [opS, R.bind_ok] at h
    obtain ⟨u, hu, v, hv, r, hr, h⟩ := h
    cases h
    refine does_value (s := do eqGuard op ty x y (a.eval x) (a.eval y); binOp op ty (a.eval x) (a.eval y)) (by simp only [execOp, hop]) ?_
    rw [evV_ok hA hT hu, evV_ok hA hT hv]
    exact binS_ok hA hr x y w
  | unOp op ty x =>
    rw [hop] at h
    simp only [opS, R.bind_ok] at h
    obtain ⟨c, hc, r, hr, h⟩ := h
    cases h
    refine does_value (s := Op.unary op (a.eval x)) (by simp only [execOp, hop]) ?_
    rw [evC_ok hA hT hc]
    exact unS_ok hr w
  | convert src dst x =>
    rw [hop] at h
    simp only [opS, R.bind_ok] at h
    obtain ⟨c, hc, p, hp, h⟩ := h
    have he := evC_ok hA hT hc
    rw [asI_ok hp] at he
    split at h
    · rename_i k0 k hs hd
      cases h
      refine does_value (s := Go.convert src dst (a.eval x)) (by simp only [execOp, hop]) ?_
      simp [he, SC.den, Go.convert, run_underlying hs, run_underlying hd, Conv.intToInt, ST.den, SV.den, wrapR_ok hA]
    · cases h
  | fieldAddr ty x f =>
    rw [hop] at h
    simp only [opS, R.bind_ok] at h
    obtain ⟨c, hc, p, hp, h⟩ := h
    have he := evC_ok hA hT hc
    rw [asP_ok hp] at he
    split at h
    · rename_i fs hu
      simp only [R.bind_ok, chk_ok] at h
      obtain ⟨fd, hfd, n, hn, _, hk, h⟩ := h
      cases h
      have hfd := getR_ok.1 hfd
      simp only [Nat.ble_eq] at hk
      refine does_value (s := Instr.fieldAt ty (a.eval x) f) (by simp only [execOp, hop]) ?_
      have hfd' : fs[f]? = some fd := by simpa using hfd
      have hn0 : ¬ n = 0 := by omega
      simp [he, SC.den, Instr.fieldAt, run_underlying hu, hfd', Instr.sureAddr, fieldPlace, sizeT_ok hn, hn0, addr_add, ST.den, SV.den]
    · cases h
  | field ty x f =>
    rw [hop] at h
    simp only [opS, R.bind_ok] at h
    obtain ⟨v, hv, h⟩ := h
    have he := evV_ok hA hT hv
    split at h
    · rename_i cs fs hu
      simp only [R.bind_ok] at h
      obtain ⟨fd, hfd, r, hr, h⟩ := h
      cases h
      have hfd := getR_ok.1 hfd
      have hfd' : fs[f]? = some fd := by simpa using hfd
      refine does_value (s := Instr.field ty (a.eval x) f) (by simp only [execOp, hop]) ?_
      have := partS_ok (ρ := ρ) (β := β) hr w
      simp only [dens] at this
      simp [he, SV.den, Instr.field, run_underlying hu, hfd', asAgg, this, ST.den]
    · cases h
  | indexAddr ty x ix =>
    rw [hop] at h
    simp only [opS, R.bind_ok] at h
    obtain ⟨c, hc, p, hp, xv, hx, h⟩ := h
    have hi := evC_ok hA hT hc
    rw [asI_ok hp] at hi
    have he := evC_ok hA hT hx
    split at h
    · rename_i m e id off hu
      simp only [R.bind_ok] at h
      obtain ⟨j, hj, sz, hsz, h⟩ := h
      cases h
      have := idxS_ok hA hj
      refine does_value (s := Instr.indexAt ty (a.eval x) (a.eval ix)) (by simp only [execOp, hop]) ?_
      have hb : (0 : Int) ≤ (j : Int) ∧ (j : Int) < (m : Int) := by omega
      simp [he, hi, SC.den, Instr.indexAt, asIntOf, run_underlying hu, Instr.sureAddr, this.1, hb, sizeT_ok hsz, addr_add, ST.den, SV.den]
      omega
    · rename_i e id off m cap hu
      simp only [R.bind_ok] at h
      obtain ⟨j, hj, sz, hsz, h⟩ := h
      cases h
      have := idxS_ok hA hj
      refine does_value (s := Instr.indexAt ty (a.eval x) (a.eval ix)) (by simp only [execOp, hop]) ?_
      have hb : (0 : Int) ≤ (j : Int) ∧ (j : Int) < (m : Int) := by omega
      simp [he, hi, SC.den, Instr.indexAt, asIntOf, run_underlying hu, this.1, hb, sizeT_ok hsz, addr_add, ST.den, SV.den]
      omega
    · cases h
  | index ty x ix =>
    rw [hop] at h
    simp only [opS, R.bind_ok] at h
    obtain ⟨c, hc, p, hp, xv, hx, h⟩ := h
    have hi := evC_ok hA hT hc
    rw [asI_ok hp] at hi
    have he := evV_ok hA hT hx
    split at h
    · rename_i m e cs hu
      simp only [R.bind_ok] at h
      obtain ⟨j, hj, sz, hsz, r, hr, h⟩ := h
      cases h
      have := idxS_ok hA hj
      refine does_value (s := Instr.index ty (a.eval x) (a.eval ix)) (by simp only [execOp, hop]) ?_
      have hb : (0 : Int) ≤ (j : Int) ∧ (j : Int) < (m : Int) := by omega
      have hp := partS_ok (ρ := ρ) (β := β) hr w
      simp only [dens] at hp
      simp [he, hi, SC.den, SV.den, Instr.index, asIntOf, run_underlying hu, this.1, sizeT_ok hsz, hp, ST.den]
      omega
    · cases h
  | extract x i =>
    rw [hop] at h
    simp only [opS, R.bind_ok] at h
    obtain ⟨v, hv, h⟩ := h
    have he := ev_ok hA hT hv
    split at h
    · rename_i l
      simp only [R.bind_ok] at h
      obtain ⟨r, hr, h⟩ := h
      cases h
      have hr := getR_ok.1 hr
      refine does_value (s := Instr.extract (a.eval x) i) (by simp only [execOp, hop]) ?_
      simp [he, ST.den, Instr.extract, hr]
    · cases h
  | makeFunc fn first caps =>
    rw [hop] at h
    simp only [opS] at h
    split at h
    · rename_i f hf
      simp only [R.bind_ok] at h
      obtain ⟨vs, hvs, ps, hps, h⟩ := h
      cases h
      have h0 : first = #[] := by cases first; simpa using hf
      have h1 := evVs_ok hA hT hvs
      rw [asPs_ok hps] at h1
      refine does_value (s := Instr.makeFunc (.func f) (first.map a.eval) (caps.map a.eval)) (by simp only [execOp, hop]) ?_
      have h2 : caps.map a.eval = (ps.map fun x => Value.pointer (some ⟨β x.1, x.2, none⟩)).toArray := by
        apply Array.ext'; simpa using h1
      simp [h0, Instr.makeFunc, h2, ST.den, SV.den, SC.den]
    · cases h
  | makeSlice ty l c =>
    rw [hop] at h
    simp only [opS, R.bind_ok] at h
    obtain ⟨c1, hc1, p, hp, c2, hc2, q, hq, h⟩ := h
    have hl := evC_ok hA hT hc1
    have hc := evC_ok hA hT hc2
    rw [asI_ok hp] at hl
    rw [asI_ok hq] at hc
    split at h
    · rename_i e n m hu hn hm
      simp only [R.bind_ok, chk_ok, ofOpt_ok] at h
      obtain ⟨sz, hsz, z, hz, i, hi, _, hk, h⟩ := h
      cases h
      simp only [Bool.and_eq_true, Nat.ble_eq, len_eq] at hk
      obtain ⟨⟨⟨⟨⟨k1, k2⟩, k3⟩, k4⟩, k5⟩, k6⟩ := hk
      have k1 := Nat.eq_of_beq_eq_true k1
      obtain ⟨zv, hzv, hzc⟩ := zeroT_ok hz w
      have hzz := zero_cells (ρ := ρ) (β := β) z m zv.cells (hzc ρ β) (by omega) (m * sz) (by rw [k1])
      have w1 : IntKind.i64.wrap (Int.ofNat n) = (n : Int) := wrap_id (by show (-9223372036854775808 : Int) ≤ (n : Int); omega) (by show (n : Int) ≤ 9223372036854775807; omega)
      have w2 : IntKind.i64.wrap (Int.ofNat m) = (m : Int) := wrap_id (by show (-9223372036854775808 : Int) ≤ (m : Int); omega) (by show (m : Int) ≤ 9223372036854775807; omega)
      have hb : (i.bytes : Int) * (m : Int) ≤ 100000000 := by
        have : i.bytes * m ≤ 1000 * 100000 := Nat.mul_le_mul k6 (show m ≤ 100000 by omega)
        have h3 : ((i.bytes * m : Nat) : Int) ≤ ((1000 * 100000 : Nat) : Int) := Int.ofNat_le.2 this
        rw [Int.natCast_mul] at h3
        exact h3
      have hb' : (i.bytes : Int) * (n : Int) ≤ 100000000 := by
        have : i.bytes * n ≤ 1000 * 100000 := Nat.mul_le_mul k6 (by omega)
        have h3 : ((i.bytes * n : Nat) : Int) ≤ ((1000 * 100000 : Nat) : Int) := Int.ofNat_le.2 this
        rw [Int.natCast_mul] at h3
        exact h3
      have hne : ¬ m * sz = 0 := by
        intro h0
        rcases Nat.mul_eq_zero.1 h0 with h0 | h0 <;> omega
      refine ⟨w.alloc (Blk.obj ρ β ⟨zeros z m, e, none⟩), _, .value (.slice (some ⟨w.heap.size, 0, none⟩) n m), ⟨rfl, rfl⟩, ?_, .inl ?_⟩
      · have hcond : ((decide ((m : Int) < 0) || decide ((i.bytes : Int) * (m : Int) > 2 ^ 48)) || decide ((n : Int) < 0) || decide ((n : Int) > (m : Int))) = false := by
          simp; omega
        have hn' : p.2.I ρ = Int.ofNat n := by rw [hn]; rfl
        have hm' : q.2.I ρ = Int.ofNat m := by rw [hm]; rfl
        simp only [execOp, hop, hl, hc, SC.den, Instr.makeSlice, Sem.run_bind, run_underlying hu, Result.andThen_ok, asInt, asIntOf, Sem.run_pure, typeInfo, run_program, hi, hn', hm', w1, w2]
        simp only [hcond, Bool.false_eq_true, if_false, run_askRoom, Result.andThen_ok, Sem.run_bind, sizeT_ok hsz, Int.toNat_natCast, hne, hzv, Sem.run_pure, hzz]
        simp [newRow, Blk.obj]
      · simp [ST.den, SV.den, SC.den, len_eq]
    · cases h
  | slice ty x lo hi mx =>
    rw [hop] at h
    simp only [opS, R.bind_ok] at h
    obtain ⟨lc, hlc, hc, hhc, xv, hx, h⟩ := h
    have he := evC_ok hA hT hx
    have e1 := optC_ok hA hT hlc
    have e2 := optC_ok hA hT hhc
    split at h
    · rename_i n e id off hu
      simp only [R.bind_ok] at h
      obtain ⟨hh, h1, l, h2, sz, hsz, h⟩ := h
      cases h
      obtain ⟨b1, b2, b3⟩ := bounds_ok (P := P) (β := β) hA (sl := false) h1 h2 rfl (Nat.le_refl _) w
      refine does_value (s := Instr.sliceAt ty (a.eval x) (lo.map a.eval) (hi.map a.eval) none) (by simp only [execOp, hop]; rfl) ?_
      simp only [he, e1, e2, SC.den, Instr.sliceAt, Sem.run_bind, run_underlying hu, Result.andThen_ok, Instr.sureAddr, Sem.run_pure, b1, sizeT_ok hsz, addr_add, ST.den, SV.den]
      by_cases hnl : n = l
      · subst hnl; simp
      · have : Nat.beq n l = false := by cases hb : Nat.beq n l with | true => exact absurd (Nat.eq_of_beq_eq_true hb) hnl | false => rfl
        simp [hnl, this]
    · rename_i e id off n cap hu
      simp only [R.bind_ok, chk_ok, Nat.ble_eq] at h
      obtain ⟨_, hnc, hh, h1, l, h2, sz, hsz, h⟩ := h
      cases h
      obtain ⟨b1, b2, b3⟩ := bounds_ok (P := P) (β := β) hA (sl := true) h1 h2 rfl hnc w
      refine does_value (s := Instr.sliceAt ty (a.eval x) (lo.map a.eval) (hi.map a.eval) none) (by simp only [execOp, hop]; rfl) ?_
      simp only [he, e1, e2, SC.den, Instr.sliceAt, Instr.slice, Sem.run_bind, run_underlying hu, Result.andThen_ok, Sem.run_pure, b1, sizeT_ok hsz, ST.den, SV.den]
      by_cases hnl : cap = l
      · subst hnl; simp
      · have : Nat.beq cap l = false := by cases hb : Nat.beq cap l with | true => exact absurd (Nat.eq_of_beq_eq_true hb) hnl | false => rfl
        simp [hnl, this, addr_add]
    · cases h
  | call c =>
    rw [hop] at h
    obtain ⟨cal, args, ats⟩ := c
    cases cal with
    | builtin b =>
      simp only [opS, R.bind_ok] at h
      obtain ⟨vs, hvs, r, hr, h⟩ := h
      cases h
      have h1 := evVs_ok hA hT hvs
      refine ⟨w, β, _, ⟨rfl, rfl⟩, ?_, .inl rfl⟩
      have h2 : args.map a.eval = (vs.map (SV.den ρ β)).toArray := by apply Array.ext'; simpa using h1
      simp only [execOp, hop, resolve, Sem.run_bind, Sem.run_pure, Result.andThen_ok, invoke, h2]
      exact builtS_ok hr _ _ w
    | _ => simp only [opS] at h; cases h
  | _ => rw [hop] at h; simp only [opS] at h; cases h
end
end Go.Sx
