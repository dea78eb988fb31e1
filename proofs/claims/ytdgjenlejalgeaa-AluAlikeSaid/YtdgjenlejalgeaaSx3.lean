/- A small machine that reads straight Go code as trees, and its truth. -/
import Derived.Test.YtdgjenlejalgeaaSx2
import Derived.Laws.CopyRow
namespace Go.Sx

/-! ### Lists -/
theorem nth_eq {α : Type} : ∀ (l : List α) (n : Nat), nth l n = l[n]?
  | [], n => by cases n <;> rfl
  | a :: l, 0 => rfl
  | a :: l, n + 1 => by simp [nth, nth_eq l n]
theorem len_eq {α : Type} : ∀ (l : List α), len l = l.length
  | [] => rfl
  | a :: l => by simp [len, len_eq l]
theorem setAt_eq {α : Type} : ∀ (l : List α) (n : Nat) (x : α), setAt l n x = l.set n x
  | [], n, x => by simp [setAt]
  | a :: l, 0, x => rfl
  | a :: l, n + 1, x => by simp [setAt, setAt_eq l n x]
theorem takeN_eq {α : Type} : ∀ (n : Nat) (l : List α), takeN n l = l.take n
  | 0, l => by simp [takeN]
  | n + 1, [] => by simp [takeN]
  | n + 1, a :: l => by simp [takeN, takeN_eq n l]
theorem dropN_eq {α : Type} : ∀ (n : Nat) (l : List α), dropN n l = l.drop n
  | 0, l => by simp [dropN]
  | n + 1, [] => by simp [dropN]
  | n + 1, a :: l => by simp [dropN, dropN_eq n l]
theorem rep_eq {α : Type} : ∀ (n : Nat) (a : α), rep n a = List.replicate n a
  | 0, a => rfl
  | n + 1, a => by simp [rep, List.replicate_succ, rep_eq n a]
theorem allB_eq {α : Type} (p : α → Bool) : ∀ (l : List α), allB p l = true ↔ ∀ x ∈ l, p x = true
  | [] => by simp [allB]
  | a :: l => by simp [allB, allB_eq p l]
theorem cut_eq {α : Type} {l : List α} {o n : Nat} {r : List α} (h : cut l o n = some r) : r = (l.drop o).take n ∧ r.length = n := by
  unfold cut at h
  simp only [takeN_eq, dropN_eq, len_eq] at h
  split at h
  · rename_i hb
    simp only [Option.some.injEq] at h
    subst h
    exact ⟨rfl, by simpa using Nat.eq_of_beq_eq_true hb⟩
  · cases h
theorem lay_eq : ∀ (ys cs : List SC) (o : Nat), o + ys.length ≤ cs.length → lay cs o ys = cs.take o ++ ys ++ cs.drop (o + ys.length)
  | [], cs, o, _ => by simp [lay]
  | y :: ys, cs, o, h => by
    have hl : o < cs.length := by simp at h; omega
    simp only [lay, setAt_eq]
    rw [lay_eq ys (cs.set o y) (o + 1) (by simp at h ⊢; omega)]
    apply List.ext_getElem?
    intro j
    simp only [List.getElem?_append, List.length_append, List.length_take, List.length_set, List.length_cons, List.getElem?_take, List.getElem?_set, List.getElem?_drop, List.getElem?_cons]
    simp only [List.length_cons] at h
    have e1 : min (o + 1) cs.length = o + 1 := by omega
    have e2 : min o cs.length = o := by omega
    simp only [e1, e2]
    by_cases h1 : j < o
    · simp [h1, show j < o + 1 by omega, show j < o + 1 + ys.length by omega, show j < o + (ys.length + 1) by omega, show ¬ o = j by omega]
    · by_cases h2 : j = o
      · subst h2; simp [hl, show j < j + 1 + ys.length by omega, show j < j + (ys.length + 1) by omega]
      · by_cases h3 : j < o + 1 + ys.length
        · simp [h1, h3, show ¬ j < o + 1 by omega, show j < o + (ys.length + 1) by omega, show ¬ j - o = 0 by omega, show j - o - 1 = j - (o + 1) by omega]
        · simp [h3, show ¬ j < o + (ys.length + 1) by omega]
          rw [if_neg (by omega)]
          congr 1
          omega

/-! ### Results -/
theorem R.bind_ok {α β : Type} {r : R α} {f : α → R β} {b : β} : (r >>= f) = .ok b ↔ ∃ a, r = .ok a ∧ f a = .ok b := by
  constructor
  · intro h
    cases r with
    | ok a => exact ⟨a, rfl, h⟩
    | split c => cases h
    | fail m => cases h
  · rintro ⟨a, rfl, h⟩; exact h
theorem chk_ok {m : String} {b : Bool} {u : Unit} : chk m b = .ok u ↔ b = true := by
  unfold chk; cases b <;> simp
theorem getR_ok {α : Type} {m : String} {l : List α} {n : Nat} {a : α} : getR m l n = .ok a ↔ l[n]? = some a := by
  unfold getR ofOpt; rw [nth_eq]; cases l[n]? <;> simp
theorem ofOpt_ok {α : Type} {m : String} {o : Option α} {a : α} : ofOpt m o = .ok a ↔ o = some a := by
  unfold ofOpt; cases o <;> simp

/-! ### Values -/
section
variable (ρ : Env) (β : Nat → Nat)
@[simp] theorem constC_den (v : Value) : (constC v).den ρ β = v := by
  unfold constC; split <;> simp [SC.den, X.I, X.B]
@[simp] theorem constV_den (v : Value) : (constV v).den ρ β = v := by
  unfold constV; split
  · rename_i cs; simp [SV.den, Function.comp_def]
  · simp [SV.den]
def dens (l : List SC) : List Value := l.map (SC.den ρ β)
theorem SV.den_cells (v : SV) : (match v with | .c x => (x.den ρ β).cells = #[x.den ρ β] | .agg _ => True) → (v.den ρ β).cells = (dens ρ β v.cells).toArray := by
  cases v with
  | c x => intro h; simpa [SV.den, SV.cells, dens] using h
  | agg l => intro _; simp [SV.den, SV.cells, dens, Value.cells]
end

theorem SC.plain_one {ρ : Env} (hv : ∀ n, (ρ.v n).oneCell' = true) {β : Nat → Nat} {x : SC} (h : x.plain = true) : (x.den ρ β).oneCell' = true := by
  cases x with
  | cv c => cases c <;> first | rfl | (simp [SC.plain] at h)
  | co n => exact hv n
  | _ => rfl
theorem SV.plain_cells {ρ : Env} (hv : ∀ n, (ρ.v n).oneCell' = true) {β : Nat → Nat} {v : SV} (h : allB SC.plain v.cells = true) : (v.den ρ β).cells = (dens ρ β v.cells).toArray := by
  refine SV.den_cells ρ β v ?_
  rw [allB_eq] at h
  cases v with
  | c x =>
    have := SC.plain_one hv (β := β) (h x (by simp [SV.cells]))
    show (x.den ρ β).cells = #[x.den ρ β]
    revert this
    generalize x.den ρ β = y
    intro hy
    cases y <;> first | rfl | (simp [Value.oneCell'] at hy)
  | agg l => trivial

/-- The zeros behind some cells. -/
def spV (ρ : Env) (β : Nat → Nat) : Option (Nat × Nat × List SC) → List Value
  | none => []
  | some (_, _, [.zz n]) => List.replicate (n.I ρ).toNat (.int .u8 0)
  | some (ph, n, z) => (Builtin.zeroCells (dens ρ β z).toArray (β ph - n)).toList
theorem spV_zz {ρ : Env} {β : Nat → Nat} {ph m : Nat} {n : X} : spV ρ β (some (ph, m, [.zz n])) = List.replicate (n.I ρ).toNat (.int .u8 0) := rfl
theorem spV_no {ρ : Env} {β : Nat → Nat} {ph n : Nat} {z : List SC} (h : isZz z = false) : spV ρ β (some (ph, n, z)) = (Builtin.zeroCells (dens ρ β z).toArray (β ph - n)).toList := by
  unfold spV
  split
  · rename_i e; cases e
  · rename_i e; simp only [Option.some.injEq, Prod.mk.injEq] at e; rw [e.2.2] at h; cases h
  · rename_i e; simp only [Option.some.injEq, Prod.mk.injEq] at e; obtain ⟨rfl, rfl, rfl⟩ := e; rfl
theorem isZz_is {z : List SC} (h : isZz z = true) : ∃ n, z = [.zz n] := by
  unfold isZz at h
  split at h
  · exact ⟨_, rfl⟩
  · cases h
@[simp] theorem spV_none (ρ : Env) (β : Nat → Nat) : spV ρ β none = [] := rfl
def Blk.obj (ρ : Env) (β : Nat → Nat) (b : Blk) : Obj := .cells (dens ρ β b.cells ++ spV ρ β b.sp).toArray b.elem (0, 0)

theorem SC.fits_den {ρ : Env} {β β' : Nat → Nat} {n : Nat} (hb : ∀ i, i < n → β' i = β i) {x : SC} (h : x.fits n = true) : x.den ρ β' = x.den ρ β := by
  cases x with
  | cp b o => simp only [SC.fits, Nat.ble_eq] at h; simp only [SC.den, hb b h]
  | csl b o l c => simp only [SC.fits, Nat.ble_eq] at h; simp only [SC.den, hb b h]
  | osl b n => simp only [SC.fits, Nat.ble_eq] at h; simp only [SC.den, hb b (by omega), hb (b + 1) (by omega)]
  | zsl b n => simp only [SC.fits, Nat.ble_eq] at h; simp only [SC.den, hb b (by omega)]
  | cf f caps =>
    simp only [SC.fits, allB_eq, Nat.ble_eq] at h
    simp only [SC.den]
    congr 2
    exact List.map_congr_left fun x hx => by rw [hb x.1 (h x hx)]
  | _ => rfl
theorem dens_fits {ρ : Env} {β β' : Nat → Nat} {n : Nat} (hb : ∀ i, i < n → β' i = β i) {l : List SC} (h : allB (SC.fits n) l = true) : dens ρ β' l = dens ρ β l := by
  rw [allB_eq] at h
  exact List.map_congr_left fun x hx => SC.fits_den hb (h x hx)
theorem SV.fits_den {ρ : Env} {β β' : Nat → Nat} {n : Nat} (hb : ∀ i, i < n → β' i = β i) {x : SV} (h : x.fits n = true) : x.den ρ β' = x.den ρ β := by
  cases x with
  | c x => exact SC.fits_den hb h
  | agg l => simp only [SV.den]; congr 2; exact dens_fits hb h
theorem ST.fits_den {ρ : Env} {β β' : Nat → Nat} {n : Nat} (hb : ∀ i, i < n → β' i = β i) {x : ST} (h : x.fits n = true) : x.den ρ β' = x.den ρ β := by
  induction x with
  | v x => exact SV.fits_den hb h
  | tup l =>
    simp only [ST.fits, allB_eq] at h
    simp only [ST.den]; congr 2
    exact List.map_congr_left fun x hx => SV.fits_den hb (h x hx)
  | ifv c x ih => simp only [ST.den, ih h]
theorem Blk.ok_obj {ρ : Env} {β β' : Nat → Nat} {n : Nat} (hb : ∀ i, i < n → β' i = β i) {b : Blk} (h : b.ok n = true) : b.obj ρ β' = b.obj ρ β := by
  simp only [Blk.ok, Bool.and_eq_true] at h
  unfold Blk.obj; rw [dens_fits hb h.1]
  have h2 := h.2
  cases hs : b.sp with
  | none => rfl
  | some p =>
    obtain ⟨ph, m, z⟩ := p
    cases hz : isZz z with
    | true => obtain ⟨x, rfl⟩ := isZz_is hz; rfl
    | false =>
      simp only [hs, spOk, hz, Bool.false_or, Bool.and_eq_true, Nat.ble_eq] at h2
      rw [spV_no hz, spV_no hz, dens_fits hb h2.2, hb ph h2.1]

theorem SC.fits_mono {n m : Nat} (hnm : n ≤ m) {x : SC} (h : x.fits n = true) : x.fits m = true := by
  cases x with
  | cp b o => simp only [SC.fits, Nat.ble_eq] at h ⊢; omega
  | csl b o l c => simp only [SC.fits, Nat.ble_eq] at h ⊢; omega
  | osl b n => simp only [SC.fits, Nat.ble_eq] at h ⊢; omega
  | zsl b n => simp only [SC.fits, Nat.ble_eq] at h ⊢; omega
  | cf f caps => simp only [SC.fits, allB_eq, Nat.ble_eq] at h ⊢; intro x hx; have := h x hx; omega
  | _ => rfl
theorem SV.fits_mono {n m : Nat} (hnm : n ≤ m) {x : SV} (h : x.fits n = true) : x.fits m = true := by
  cases x with
  | c x => exact SC.fits_mono hnm h
  | agg l => simp only [SV.fits, allB_eq] at h ⊢; exact fun x hx => SC.fits_mono hnm (h x hx)
theorem ST.fits_mono {n m : Nat} (hnm : n ≤ m) {x : ST} (h : x.fits n = true) : x.fits m = true := by
  induction x with
  | v x => exact SV.fits_mono hnm h
  | tup l => simp only [ST.fits, allB_eq] at h ⊢; exact fun x hx => SV.fits_mono hnm (h x hx)
  | ifv c x ih => exact ih h
theorem Blk.ok_mono {n m : Nat} (hnm : n ≤ m) {b : Blk} (h : b.ok n = true) : b.ok m = true := by
  simp only [Blk.ok, Bool.and_eq_true, allB_eq] at h ⊢
  refine ⟨fun x hx => SC.fits_mono hnm (h.1 x hx), ?_⟩
  have h2 := h.2
  cases hs : b.sp with
  | none => rfl
  | some p =>
    obtain ⟨ph, k, z⟩ := p
    simp only [hs, spOk, Bool.or_eq_true, Bool.and_eq_true, Nat.ble_eq, allB_eq] at h2 ⊢
    exact h2.imp id fun h2 => ⟨by omega, fun x hx => SC.fits_mono hnm (h2.2 x hx)⟩

/-! ### States -/
/-- Memory is as a state says; 'wr' is the world that is looked back to. -/
structure Rep (ρ : Env) (β : Nat → Nat) (S : St) (wr w : World) : Prop where
  blk : ∀ (id : Nat) (b : Blk), S.hp[id]? = some (some b) → w.heap[β id]? = some (b.obj ρ β)
  bok : ∀ (id : Nat) (b : Blk), S.hp[id]? = some (some b) → b.ok S.hp.length = true
  old : ∀ (id : Nat) (b : Blk), S.hp[id]? = some (some b) → id < S.base → β id < wr.heap.size
  new : ∀ (id : Nat) (b : Blk), S.hp[id]? = some (some b) → S.base ≤ id → wr.heap.size ≤ β id ∨ ∃ o ∈ S.wr, β id = β o
  inj : ∀ (i j : Nat) (b c : Blk), S.hp[i]? = some (some b) → S.hp[j]? = some (some c) → β i = β j → i = j
  frame : ∀ k, k < wr.heap.size → (∀ id ∈ S.wr, k ≠ β id) → w.heap[k]? = wr.heap[k]?
  size : wr.heap.size ≤ w.heap.size
  os : w.os = wr.os
  tape : w.tape = wr.tape
  output : w.output = wr.output
  wrs : ∀ id ∈ S.wr, id < S.base
  bs : S.base ≤ S.hp.length
  row : ∀ e, ρ.g (rowF e 60) [] = true → w.heap[(ρ.x e).adr.block]? = some (ρ.x e).obj ∧ ∀ (id : Nat) (b : Blk), S.hp[id]? = some (some b) → β id ≠ (ρ.x e).adr.block

/-- The slots are as a state says. -/
structure RepA (ρ : Env) (β : Nat → Nat) (S : St) (a : Act) : Prop where
  sz : a.tmps.size = S.tm.length
  tm : ∀ (t : Nat) (v : ST), S.tm[t]? = some (some v) → a.tmps[t]? = some (v.den ρ β)
  tok : ∀ (t : Nat) (v : ST), S.tm[t]? = some (some v) → v.fits S.hp.length = true
  df : a.defers = []

end Go.Sx
