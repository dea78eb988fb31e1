/- A small machine that reads straight Go code as trees, and its truth. -/
import Derived.Test.YtdgjenlejalgeaaSx5
namespace Go.Sx

section
variable {P : Program} {A : Known} {ρ : Env} {β : Nat → Nat} {S : St} {wr w : World} {a : Act}

/-- What an effect does. -/
def EffOk (ρ : Env) (S : St) (e : Ef) (w w' : World) (β β' : Nat → Nat) : Prop :=
  match e with
  | .none => w' = w ∧ β' = β
  | .new b => w' = w.alloc (b.obj ρ β) ∧ β' = fun i => if i = S.hp.length then w.heap.size else β i
  | .upd id b => w' = putBlk w (β id) b ρ β ∧ β' = β ∧ ∃ old, S.hp[id]? = some (some old) ∧ b.elem = old.elem ∧ b.sp = old.sp
  | .app old b => ∃ g cap, β' = (fun i => if i = S.hp.length then g else if i = S.hp.length + 1 then cap else β i) ∧ w'.heap[g]? = some (b.obj ρ β') ∧ (∀ k, k < w.heap.size → k ≠ g → w'.heap[k]? = w.heap[k]?) ∧
      w.heap.size ≤ w'.heap.size ∧ w'.os = w.os ∧ w'.tape = w.tape ∧ w'.output = w.output ∧ (w.heap.size ≤ g ∨ ∃ o ob, old = some o ∧ S.hp[o]? = some (some ob) ∧ g = β o)

/-- What an operation comes to. -/
def Does (P : Program) (ρ : Env) (S : St) (a : Act) (o : Oper) (t : ST) (e : Ef) (w : World) (β : Nat → Nat) : Prop :=
  ∃ w' β' r, EffOk ρ S e w w' β β' ∧ (execOp a.eval o).run P w = .ok r w' ∧ (r = .value (t.den ρ β') ∨ r = .skip ∧ t = .tup [])

theorem does_value {o : Oper} {t : ST} {s : Sem Value} (h : execOp a.eval o = (do pure (.value (← s)))) (hs : s.run P w = .ok (t.den ρ β) w) : Does P ρ S a o t .none w β :=
  ⟨w, β, .value (t.den ρ β), ⟨rfl, rfl⟩, by rw [h]; simp [hs], .inl rfl⟩

theorem zeros_len (z : List SC) : ∀ n, (zeros z n).length = n * z.length
  | 0 => by simp [zeros]
  | n + 1 => by simp [zeros, zeros_len z n, Nat.succ_mul, Nat.add_comm]
theorem zeros_get (z : List SC) : ∀ (n j : Nat), j < n * z.length → (zeros z n)[j]? = z[j % z.length]?
  | 0, j, h => by simp at h
  | n + 1, j, h => by
    simp only [zeros, List.getElem?_append]
    split
    · rename_i hj; rw [Nat.mod_eq_of_lt hj]
    · rename_i hj
      rw [zeros_get z n (j - z.length) (by rw [Nat.add_mul, Nat.one_mul] at h; omega), Nat.mod_eq_sub_mod (a := j) (by omega)]
theorem zero_cells (z : List SC) (n : Nat) (zc : Array Value) (hz : zc = (dens ρ β z).toArray) (hp : 1 ≤ z.length) (m : Nat) (hm : m = n * z.length) :
    (Array.range m).map (fun i => zc[i % zc.size]!) = (dens ρ β (zeros z n)).toArray := by
  subst hz; subst hm
  apply Array.ext'
  simp only [Array.toList_map, Array.toList_range]
  apply List.ext_getElem?
  intro j
  simp only [List.getElem?_map, dens]
  by_cases hj : j < n * z.length
  · have hlt : j % z.length < z.length := Nat.mod_lt _ (by omega)
    simp [hj, zeros_get z n j hj, hlt]
  · simp [hj, show (zeros z n)[j]? = none by rw [List.getElem?_eq_none]; rw [zeros_len]; omega]

theorem evVs_map (hA : A.ok ρ) (hT : RepA ρ β S a) {parts : Array (Nat × Operand)} {vs : List SV} (h : evVs A S (parts.toList.map (·.2)) = .ok vs) :
    (parts.map fun x => (x.1, a.eval x.2)).toList = ((parts.toList.map (·.1)).zip vs).map fun x => (x.1, x.2.den ρ β) := by
  have := evVs_ok hA hT h
  rw [Array.toList_map]
  generalize parts.toList = l at *
  clear h
  induction l generalizing vs with
  | nil => simp
  | cons p l ih =>
    cases vs with
    | nil => simp at this
    | cons v vs =>
      simp only [List.map_cons, List.cons.injEq] at this
      simp only [List.map_cons, List.zip_cons_cons, List.cons.injEq, Prod.mk.injEq, true_and]
      exact ⟨this.1, ih this.2⟩

theorem parts_plain (hA : A.ok ρ) {l : List Nat} {vs : List SV} (h : allB (fun v => allB SC.plain v.cells) vs = true) : ∀ i v, (i, v) ∈ l.zip vs → (v.den ρ β).cells = (dens ρ β v.cells).toArray := by
  intro i v hv
  rw [allB_eq] at h
  exact SV.plain_cells hA.2.2.1 (h v (List.of_mem_zip hv).2)

theorem run_sizeOf' {t : TypeId} {i : TypeInfo} (hi : P.info? t = some i) (w : World) : (sizeOf t).run P w = .ok i.size w := by simp [sizeOf, typeInfo, hi]

theorem place_ok (fs : Array Field) (w : World) (h : ∀ f ∈ fs.toList, ∃ i, P.info? f.type = some i) :
    ∃ places : Array (Nat × Nat), (fs.mapM fun f => do pure (f.offset, ← sizeOf f.type) : Sem (Array (Nat × Nat))).run P w = .ok places w ∧
      ∀ i, places[i]? = placeS P fs.toList i := by
  have key : ∀ (l : List Field), (∀ f ∈ l, ∃ i, P.info? f.type = some i) → ∃ ps : List (Nat × Nat), (l.mapM fun f => (do pure (f.offset, ← sizeOf f.type) : Sem (Nat × Nat))).run P w = .ok ps w ∧
      ∀ i, ps[i]? = placeS P l i := by
    intro l
    induction l with
    | nil => intro _; exact ⟨[], by simp, by intro i; cases i <;> simp [placeS, nth]⟩
    | cons f l ih =>
      intro hl
      obtain ⟨ps, h1, h2⟩ := ih (fun g hg => hl g (by simp [hg]))
      obtain ⟨j, hj⟩ := hl f (by simp)
      refine ⟨(f.offset, j.size) :: ps, ?_, ?_⟩
      · simp only [List.mapM_cons, Sem.run_bind, run_sizeOf' hj, Result.andThen_ok, Sem.run_pure, h1]
      · intro i
        cases i with
        | zero => simp [placeS, nth, hj]
        | succ i => simpa [placeS, nth] using h2 i
  obtain ⟨ps, h1, h2⟩ := key fs.toList h
  refine ⟨ps.toArray, ?_, by simpa using h2⟩
  rw [Array.mapM_eq_mapM_toList]
  simp only [Sem.run_map, h1, Result.andThen_ok]

theorem minX_ok {k : IntKind} : ∀ {l : List SC} {x r : X}, minX k x l = .ok r → (List.foldlM Builtin.min2 (.int k (x.I ρ)) (l.map (SC.den ρ β))).run P w = .ok (.int k (r.I ρ)) w
  | [], x, r, h => by simp only [minX] at h; cases h; simp
  | y :: l, x, r, h => by
    cases y with
    | ci k' y =>
      simp only [minX] at h
      split at h
      · rename_i hk
        have := minX_ok (l := l) h
        simp only [List.map_cons, List.foldlM_cons, SC.den, Builtin.min2, Sem.run_bind, Sem.run_pure, Result.andThen_ok]
        simpa [cmpI] using this
      · cases h
    | _ => simp only [minX] at h; cases h
theorem maxX_ok {k : IntKind} : ∀ {l : List SC} {x r : X}, maxX k x l = .ok r → (List.foldlM Builtin.max2 (.int k (x.I ρ)) (l.map (SC.den ρ β))).run P w = .ok (.int k (r.I ρ)) w
  | [], x, r, h => by simp only [maxX] at h; cases h; simp
  | y :: l, x, r, h => by
    cases y with
    | ci k' y =>
      simp only [maxX] at h
      split at h
      · rename_i hk
        have := maxX_ok (l := l) h
        simp only [List.map_cons, List.foldlM_cons, SC.den, Builtin.max2, Sem.run_bind, Sem.run_pure, Result.andThen_ok]
        simpa [cmpI] using this
      · cases h
    | _ => simp only [maxX] at h; cases h

theorem cellsOf_ok : ∀ {l : List SV} {r : List SC}, cellsOf l = .ok r → l.map (SV.den ρ β) = r.map (SC.den ρ β)
  | [], r, h => by simp only [cellsOf] at h; cases h; rfl
  | v :: l, r, h => by
    simp only [cellsOf, R.bind_ok] at h
    obtain ⟨c, hc, cs, hcs, h⟩ := h
    cases h
    rw [asC_ok hc]
    simp [cellsOf_ok hcs, SV.den]

theorem builtS_ok {b : Builtin} {ts : Array TypeId} {args : List SV} {r : SV} (h : builtS P b ts args = .ok r) (ty : TypeId) (cs : Array Bool) (w : World) :
    (builtin b ts ty cs (args.map (SV.den ρ β)).toArray).run P w = .ok (.value (r.den ρ β)) w := by
  unfold builtS at h
  split at h
  · split at h
    · rename_i t ht
      split at h
      · rename_i hu; cases h; simp [builtin, Builtin.len_, ht, run_underlying hu, SV.den, SC.den, goInt, X.I]
      · rename_i hu; cases h; simp [builtin, Builtin.len_, ht, run_underlying hu, SV.den, SC.den, goInt, X.I]
      · rename_i hu; cases h; simp [builtin, Builtin.len_, ht, run_underlying hu, SV.den, SC.den, goInt, X.I]
      · cases h
    · cases h
  · simp only [R.bind_ok] at h
    obtain ⟨l, hl, h⟩ := h
    split at h
    · simp only [R.bind_ok] at h
      obtain ⟨u, hu, h⟩ := h
      cases h
      have e := cellsOf_ok (ρ := ρ) (β := β) hl
      simp only [List.map_cons, SC.den] at e
      have := minX_ok (P := P) (ρ := ρ) (β := β) (w := w) hu
      simp [builtin, Builtin.min_, e, this, SV.den, SC.den]
    · cases h
  · simp only [R.bind_ok] at h
    obtain ⟨l, hl, h⟩ := h
    split at h
    · simp only [R.bind_ok] at h
      obtain ⟨u, hu, h⟩ := h
      cases h
      have e := cellsOf_ok (ρ := ρ) (β := β) hl
      simp only [List.map_cons, SC.den] at e
      have := maxX_ok (P := P) (ρ := ρ) (β := β) (w := w) hu
      simp [builtin, Builtin.max_, e, this, SV.den, SC.den]
    · cases h
  · cases h

theorem asPs_ok : ∀ {l : List SV} {ps : List (Nat × Nat)}, asPs l = .ok ps → l.map (SV.den ρ β) = ps.map fun x => Value.pointer (some ⟨β x.1, x.2, none⟩)
  | [], ps, h => by simp only [asPs] at h; cases h; rfl
  | v :: l, ps, h => by
    simp only [asPs, R.bind_ok] at h
    obtain ⟨c, hc, p, hp, qs, hqs, h⟩ := h
    cases h
    rw [asC_ok hc, asP_ok hp]
    simp [asPs_ok hqs, SV.den, SC.den]

theorem optC_ok (hA : A.ok ρ) (hT : RepA ρ β S a) {x : Option Operand} {r : Option SC} (h : optC A S x = .ok r) : x.map a.eval = r.map (SC.den ρ β) := by
  cases x with
  | none => simp only [optC] at h; cases h; rfl
  | some x =>
    simp only [optC, R.bind_ok] at h
    obtain ⟨c, hc, h⟩ := h
    cases h
    simp [evC_ok hA hT hc]

theorem bounds_ok (hA : A.ok ρ) {sl : Bool} {n cap d h l : Nat} {lo hi : Option SC} (hh : bndOr A cap n hi = .ok h) (hl : bndOr A h 0 lo = .ok l) (hd : d = n) (hn : n ≤ cap) (w : World) :
    (Instr.sliceBounds sl d cap (lo.map (SC.den ρ β)) (hi.map (SC.den ρ β)) none).run P w = .ok (l, h, cap) w ∧ l ≤ h ∧ h ≤ cap := by
  subst hd
  have e1 : (match hi.map (SC.den ρ β) with | some v => Instr.sliceBound v cap (if sl = true then .sliceAcap else .sliceAlen) | none => pure d : Sem Nat).run P w = .ok h w ∧ h ≤ cap := by
    cases hi with
    | none => simp only [bndOr] at hh; cases hh; exact ⟨rfl, hn⟩
    | some c => exact boundS_ok hA hh cap rfl _ w
  have e2 : (match lo.map (SC.den ρ β) with | some v => Instr.sliceBound v h .sliceB | none => pure 0 : Sem Nat).run P w = .ok l w ∧ l ≤ h := by
    cases lo with
    | none => simp only [bndOr] at hl; cases hl; exact ⟨rfl, by omega⟩
    | some c => exact boundS_ok hA hl h rfl _ w
  refine ⟨?_, e2.2, e1.2⟩
  unfold Instr.sliceBounds
  cases hi <;> cases lo <;> simp_all [Option.map]
end
end Go.Sx
