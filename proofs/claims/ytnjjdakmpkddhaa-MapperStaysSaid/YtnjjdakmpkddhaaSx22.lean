/- Slices among the arguments, as rows from outside. -/
import Derived.Test.YtnjjdakmpkddhaaSx21
import Derived.Deep.Slices
namespace Go.Sx
open Go.ChangeShapes Go.WideShapes Go.ChangeAt Go.RowKit

/-! ### The cells of a type -/
def rep2 (n : Nat) (l : List LK) : List LK := match n with
  | 0 => []
  | n + 1 => l ++ rep2 n l
/-- Fields that follow one another. -/
def flatFs (P : Program) (rec : TypeId → Option (List LK)) : List Field → Nat → Option (List LK)
  | [], _ => some []
  | f :: fs, c => match rec f.type with
    | some ks => if Nat.beq f.offset c && Nat.beq (len ks) (P.cellsOf f.type) then
        match flatFs P rec fs (c + len ks) with
        | some l => some (ks ++ l)
        | none => none
      else none
    | none => none
def flatK (P : Program) : Nat → TypeId → Option (List LK)
  | 0, _ => none
  | d + 1, t => match P.underlying t with
    | some (.int k) => some [.i k]
    | some .bool => some [.b]
    | some (.struct fs) => match flatFs P (flatK P d) fs.toList 0 with
      | some l => if Nat.beq (len l) (P.cellsOf t) then some l else none
      | none => none
    | some (.array n e) => match flatK P d e with
      | some l => if Nat.beq (len l) (P.cellsOf e) && Nat.beq (n * len l) (P.cellsOf t) then some (rep2 n l) else none
      | none => none
    | _ => none

section
variable {H : Type} {enc : TypeId × Value → H} {P : Program} {w : World} {base : Nat} {spare : Nat → Bool} {held : Bool}

theorem rep2_len (n : Nat) (l : List LK) : (rep2 n l).length = n * l.length := by
  induction n with
  | zero => simp [rep2]
  | succ n ih => simp [rep2, ih, Nat.succ_mul, Nat.add_comm]
theorem isAll_rep2 {l : List LK} : ∀ {n : Nat} {vs : List Value}, vs.length = n * l.length → (∀ i, i < n → IsAll l ((vs.drop (i * l.length)).take l.length)) → IsAll (rep2 n l) vs
  | 0, vs, hl, _ => by simp at hl; subst hl; rfl
  | n + 1, vs, hl, h => by
    have h0 := h 0 (by omega)
    simp only [Nat.zero_mul, List.drop_zero] at h0
    rw [show vs = vs.take l.length ++ vs.drop l.length by simp]
    refine h0.append (isAll_rep2 (by simp [hl, Nat.succ_mul]) fun i hi => ?_)
    have := h (i + 1) (by omega)
    rwa [List.drop_drop, show l.length + i * l.length = (i + 1) * l.length by rw [Nat.succ_mul]; omega]
theorem isAll_fs {rec : TypeId → Option (List LK)} : ∀ {fs : List Field} {c : Nat} {l : List LK} {cs : List Value}, flatFs P rec fs c = some l → c + l.length = cs.length →
    (∀ (i : Nat) (f : Field), fs[i]? = some f → ∀ ks, rec f.type = some ks → IsAll ks ((cs.drop f.offset).take (P.cellsOf f.type))) → IsAll l (cs.drop c)
  | [], c, l, cs, h, hl, _ => by
    simp only [flatFs] at h; cases h
    simp only [List.length_nil, Nat.add_zero] at hl
    subst hl; simp [IsAll]
  | f :: fs, c, l, cs, h, hl, hf => by
    simp only [flatFs] at h
    split at h
    · rename_i ks hk
      split at h
      · rename_i hc
        split at h
        · rename_i l' hl'
          cases h
          simp only [Bool.and_eq_true, len_eq] at hc
          have c1 := Nat.eq_of_beq_eq_true hc.1
          have c2 := Nat.eq_of_beq_eq_true hc.2
          have h0 := hf 0 f rfl ks hk
          rw [c1, ← c2] at h0
          have := isAll_fs (cs := cs) hl' (by simp only [List.length_append] at hl; rw [len_eq]; omega) fun i g hg => hf (i + 1) g (by simpa using hg)
          rw [len_eq] at this
          rw [show cs.drop c = (cs.drop c).take ks.length ++ cs.drop (c + ks.length) by have := (List.take_append_drop ks.length (cs.drop c)).symm; rwa [List.drop_drop] at this]
          exact h0.append this
        · cases h
      · cases h
    · cases h
theorem lit_in {k : IntKind} {n : Int} (h : (Lit.int k n).wf = true) : kLo k ≤ n ∧ n ≤ kHi k := by
  cases k <;> simp [Lit.wf, IntKind.min, IntKind.max, IntKind.signed, IntKind.bits] at h <;> simp [kLo, kHi] <;> omega
theorem flat_is : ∀ {d : Nat} {t : TypeId} {ks : List LK} {fuel : Nat} {cs : List Value} {x : DataW H × List MemPlace}, flatK P d t = some ks → DataW.trod enc P w base spare held fuel t cs = some x → IsAll ks cs
  | 0, _, _, _, _, _, h, _ => by simp [flatK] at h
  | d + 1, t, ks, fuel, cs, x, h, ht => by
    simp only [flatK] at h
    split at h
    · rename_i k hu
      cases h
      obtain ⟨n, rfl, _, hw⟩ := DataW.trod_int hu ht
      exact ⟨_, [], rfl, ⟨n, rfl, lit_in hw⟩, rfl⟩
    · rename_i hu
      cases h
      obtain ⟨b, rfl, _⟩ := DataW.trod_bool hu ht
      exact ⟨_, [], rfl, ⟨b, rfl⟩, rfl⟩
    · rename_i fs hu
      split at h
      · rename_i l hl
        split at h
        · rename_i hc
          cases h
          have hc := Nat.eq_of_beq_eq_true hc
          rw [len_eq] at hc
          obtain ⟨xs, n, _, _, hlen, hxl, hf⟩ := DataW.trod_struct hu ht
          have := isAll_fs (cs := cs) hl (by omega) fun i f hif ks' hk' => by
            have h1 := hf i f (by simpa using hif)
            have hlt : i < fs.size := by simpa using (List.getElem?_eq_some_iff.1 hif).1
            rw [List.getElem?_eq_getElem (by omega)] at h1
            exact flat_is hk' h1
          simpa using this
        · cases h
      · cases h
    · rename_i n e hu
      split at h
      · rename_i l hl
        split at h
        · rename_i hc
          cases h
          simp only [Bool.and_eq_true, len_eq] at hc
          have c1 := Nat.eq_of_beq_eq_true hc.1
          have c2 := Nat.eq_of_beq_eq_true hc.2
          obtain ⟨xs, m, _, _, hlen, hxl, hf⟩ := DataW.trod_array hu ht
          refine isAll_rep2 (by omega) fun i hi => ?_
          have h1 := hf i hi
          rw [List.getElem?_eq_getElem (by omega), ← c1] at h1
          exact flat_is hl h1
        · cases h
      · cases h
    · cases h
theorem isAll_get {ks : List LK} : ∀ {vs : List Value} {j : Nat} {k : LK}, IsAll ks vs → ks[j]? = some k → ∃ v, vs[j]? = some v ∧ k.is v := by
  induction ks with
  | nil => intro vs j k _ h; simp at h
  | cons k0 ks ih =>
    intro vs j k h hj
    obtain ⟨v, l, rfl, h1, h2⟩ := h
    cases j with
    | zero => simp at hj; subst hj; exact ⟨v, rfl, h1⟩
    | succ j => simpa using ih h2 (by simpa using hj)
end

/-! ### Arguments with slices -/
def kindN : LK → Nat
  | .i .i8 => 1 | .i .i16 => 2 | .i .i32 => 3 | .i .i64 => 4 | .i .u8 => 5 | .i .u16 => 6 | .i .u32 => 7 | .i .u64 => 8
  | .b => 9
def encK : List LK → Nat
  | [] => 0
  | k :: l => kindN k + 16 * encK l
def lkB : List LK → List LK → Bool
  | [], [] => true
  | k :: l, k' :: l' => Nat.beq (kindN k) (kindN k') && lkB l l'
  | _, _ => false
theorem kindN_inj {a c : LK} (h : kindN a = kindN c) : a = c := by
  cases a with
  | i a => cases c with
    | i c => cases a <;> cases c <;> simp [kindN] at h <;> rfl
    | _ => cases a <;> simp [kindN] at h
  | _ => cases c with
    | i c => cases c <;> simp [kindN] at h
    | _ => rfl
theorem lkB_eq : ∀ {l m : List LK}, lkB l m = true → l = m
  | [], [], _ => rfl
  | k :: l, k' :: l', h => by
    simp only [lkB, Bool.and_eq_true] at h
    rw [kindN_inj (Nat.eq_of_beq_eq_true h.1), lkB_eq h.2]
  | [], _ :: _, h => by simp [lkB] at h
  | _ :: _, [], h => by simp [lkB] at h

/-- A row among the arguments: its number, its length's variable. -/
abbrev RowV := Nat × Nat
def argR (P : Program) (t : TypeId) (c r : Nat) : Option (SV × List LK × Option RowV) :=
  match P.underlying t with
  | some (.slice el) => match flatK P 20 el with
    | some ks =>
      if lkB (ksOf (encK ks * 64 + r)) ks && Nat.beq (P.cellsOf el) (len ks) && Nat.ble (r + 1) 60 && Nat.ble (len ks) 59 && Nat.ble 1 (len ks) then some (.c (.xs (encK ks * 64 + r) (.lit 0) (.iv c) (.iv (c + 1))), [.i .i64, .i .i64], some (encK ks * 64 + r, c)) else none
    | none => none
  | _ => match argT P t c with
    | some (s, ks) => some (s, ks, none)
    | none => none
def argRs (P : Program) : List TypeId → Nat → Nat → Option (List SV × List LK × List RowV)
  | [], _, _ => some ([], [], [])
  | t :: l, c, r => match argR P t c r with
    | some (v, ks, none) => match argRs P l (c + len ks) r with
      | some (vs, ks', rs) => some (v :: vs, ks ++ ks', rs)
      | none => none
    | some (v, ks, some rv) => match argRs P l (c + len ks) (r + 1) with
      | some (vs, ks', rs) => some (v :: vs, ks ++ ks', rv :: rs)
      | none => none
    | none => none

/-- What a row is. -/
structure RowD where
  e : Nat
  ext : Ext
  n : Nat
  nil : Bool
def findR (l : List RowD) (e : Nat) : Option RowD :=
  match l with
  | [] => none
  | r :: l => if r.e = e then some r else findR l e
def rowAt (r : RowD) (j : Nat) (i : Int) : Option Value := cellO r.ext.obj (r.ext.adr.add (i.toNat * (ksOf r.e).length + j))
def fR (rs : List RowD) (f0 : Nat → List Int → Int) (code : Nat) (args : List Int) : Int :=
  if code < 100000 then f0 code args else
    match findR rs ((code - 100000) / 64) with
    | none => 0
    | some r => if (code - 100000) % 64 = 63 then r.n else
      match args with
      | [i] => match rowAt r ((code - 100000) % 64) i with
        | some (.int _ z) => z
        | _ => 0
      | _ => 0
def gR (rs : List RowD) (g0 : Nat → List Int → Bool) (code : Nat) (args : List Int) : Bool :=
  if code < 100000 then g0 code args else
    match findR rs ((code - 100000) / 64) with
    | none => false
    | some r => if (code - 100000) % 64 = 62 then true else if (code - 100000) % 64 = 61 then r.nil else if (code - 100000) % 64 = 60 then decide (0 < r.n) else
      match args with
      | [i] => match rowAt r ((code - 100000) % 64) i with
        | some (.bool z) => z
        | _ => false
      | _ => false
def xR (rs : List RowD) (e : Nat) : Ext := match findR rs e with
  | some r => r.ext
  | none => ⟨⟨0, 0, none⟩, .cells #[] 0 (0, 0)⟩
/-- A row stands in a world. -/
structure RowD.inW (r : RowD) (w : World) : Prop where
  few : (ksOf r.e).length ≤ 59
  mem : 0 < r.n → w.heap[r.ext.adr.block]? = some r.ext.obj ∧ r.nil = false
  cel : ∀ i, i < r.n → ∀ j k, (ksOf r.e)[j]? = some k → ∃ v, cellO r.ext.obj (r.ext.adr.add (i * (ksOf r.e).length + j)) = some v ∧ k.is v
def envR (rs : List RowD) (f0 : Nat → List Int → Int) (g0 : Nat → List Int → Bool) (vs : List Value) : Env :=
  { envOf (fR rs f0) (gR rs g0) vs with x := xR rs }

theorem findR_some : ∀ {l : List RowD} {e : Nat} {r : RowD}, findR l e = some r → r ∈ l ∧ r.e = e
  | [], _, _, h => by simp [findR] at h
  | r0 :: l, e, r, h => by
    simp only [findR] at h
    split at h
    · rename_i he; cases h; exact ⟨List.mem_cons_self, he⟩
    · have := findR_some h; exact ⟨List.mem_cons_of_mem _ this.1, this.2⟩
theorem code_e (e j : Nat) (hj : j < 64) : ¬ rowF e j < 100000 ∧ (rowF e j - 100000) / 64 = e ∧ (rowF e j - 100000) % 64 = j := by
  unfold rowF; omega
theorem fR_len {rs : List RowD} {f0 : Nat → List Int → Int} {e : Nat} {r : RowD} (h : findR rs e = some r) : fR rs f0 (rowF e 63) [] = r.n := by
  obtain ⟨h1, h2, h3⟩ := code_e e 63 (by omega)
  simp [fR, h1, h2, h3, h]
theorem gR_has {rs : List RowD} {g0 : Nat → List Int → Bool} {e : Nat} : gR rs g0 (rowF e 62) [] = true ↔ ∃ r, findR rs e = some r := by
  obtain ⟨h1, h2, h3⟩ := code_e e 62 (by omega)
  simp only [gR, h1, h2, h3, if_false]
  cases findR rs e <;> simp
theorem gR_nil {rs : List RowD} {g0 : Nat → List Int → Bool} {e : Nat} {r : RowD} (h : findR rs e = some r) : gR rs g0 (rowF e 61) [] = r.nil := by
  obtain ⟨h1, h2, h3⟩ := code_e e 61 (by omega)
  simp [gR, h1, h2, h3, h]
theorem gR_mem {rs : List RowD} {g0 : Nat → List Int → Bool} {e : Nat} : gR rs g0 (rowF e 60) [] = true ↔ ∃ r, findR rs e = some r ∧ 0 < r.n := by
  obtain ⟨h1, h2, h3⟩ := code_e e 60 (by omega)
  simp only [gR, h1, h2, h3, if_false]
  cases findR rs e <;> simp
theorem fit_row {rs : List RowD} {f0 : Nat → List Int → Int} {g0 : Nat → List Int → Bool} {vs : List Value} {w : World} (hr : ∀ r ∈ rs, r.inW w) (e : Nat) : ExtOk (envR rs f0 g0 vs) e := by
  intro he i hi
  obtain ⟨r, hf⟩ := gR_has.1 (show gR rs g0 (rowF e 62) [] = true from he)
  obtain ⟨hm, rfl⟩ := findR_some hf
  have hw := hr r hm
  have hi' : i < r.n := by
    have : (i : Int) < fR rs f0 (rowF r.e 63) [] := hi
    rw [fR_len hf] at this; omega
  refine ⟨gR_mem.2 ⟨r, hf, by omega⟩, (gR_nil hf).trans (hw.mem (by omega)).2, fun j k hj => ?_⟩
  obtain ⟨v, hv, hk⟩ := hw.cel i hi' j k hj
  have hj59 : j < 59 := by have := (List.getElem?_eq_some_iff.1 hj).1; have := hw.few; omega
  obtain ⟨h1, h2, h3⟩ := code_e r.e j (by omega)
  have hx : (envR rs f0 g0 vs).x r.e = r.ext := by simp [envR, xR, hf]
  rw [hx, hv]
  cases k with
  | i k =>
    obtain ⟨z, rfl, hz⟩ := hk
    have e1 : (envR rs f0 g0 vs).f (rowF r.e j) [(i : Int)] = z := by
      show fR rs f0 (rowF r.e j) [(i : Int)] = z
      simp only [fR, h1, h2, h3, hf, if_false, if_neg (show ¬ j = 63 by omega), rowAt, Int.toNat_natCast, hv]
    simp only [rowCell, rowFit, e1, true_and]
    cases k <;> exact hz
  | _ =>
    obtain ⟨z, rfl⟩ := hk
    have e1 : (envR rs f0 g0 vs).g (rowF r.e j) [(i : Int)] = z := by
      show gR rs g0 (rowF r.e j) [(i : Int)] = z
      simp only [gR, h1, h2, h3, hf, if_false, if_neg (show ¬ j = 62 by omega), if_neg (show ¬ j = 61 by omega), if_neg (show ¬ j = 60 by omega), rowAt, Int.toNat_natCast, hv]
    simp only [rowCell, rowFit, e1, and_self]
theorem rows_in {rs : List RowD} {f0 : Nat → List Int → Int} {g0 : Nat → List Int → Bool} {vs : List Value} {w : World} (hr : ∀ r ∈ rs, r.inW w) : RowsIn (envR rs f0 g0 vs) w := by
  intro e he
  obtain ⟨r, hf, hn⟩ := gR_mem.1 (show gR rs g0 (rowF e 60) [] = true from he)
  have hx : (envR rs f0 g0 vs).x e = r.ext := by simp [envR, xR, hf]
  rw [hx]; exact ((hr r (findR_some hf).1).mem hn).1

/-- What is known of arguments with rows. -/
def addRows : List RowV → Known → Known
  | [], K => K
  | (e, v) :: l, K => addRows l (((((K.assume (.fb (rowF e 62) .unit) true).assume (.cmp .eql (.iv v) (.fi (rowF e 63) .unit)) true).assume (.cmp .geq (.iv v) (.lit 0)) true).assume (.cmp .geq (.iv (v + 1)) (.lit 0)) true).assume (.cmp .leq (.iv v) (.iv (v + 1))) true)
def RowsFit (ρ : Env) : List RowD → List RowV → Prop
  | [], [] => True
  | r :: l, (e, v) :: m => r.e = e ∧ ρ.i v = r.n ∧ (r.n : Int) ≤ ρ.i (v + 1) ∧ RowsFit ρ l m
  | _, _ => False
def Incr : Nat → List RowD → Prop
  | _, [] => True
  | r, x :: l => x.e % 64 = r ∧ Incr (r + 1) l
theorem incr_ge : ∀ {l : List RowD} {r : Nat}, Incr r l → ∀ x ∈ l, r ≤ x.e % 64
  | [], _, _, x, h => by simp at h
  | y :: l, r, h, x, hx => by
    rcases List.mem_cons.1 hx with rfl | hx
    · exact Nat.le_of_eq h.1.symm
    · exact Nat.le_of_succ_le (incr_ge h.2 x hx)
theorem findR_of : ∀ {l : List RowD} {r : Nat}, Incr r l → ∀ x ∈ l, findR l x.e = some x
  | [], _, _, x, h => by simp at h
  | y :: l, r, h, x, hx => by
    simp only [findR]
    rcases List.mem_cons.1 hx with rfl | hx
    · rw [if_pos rfl]
    · have := incr_ge h.2 x hx
      rw [if_neg (fun e => by have h1 := h.1; rw [e] at h1; omega)]
      exact findR_of h.2 x hx
theorem addRows_ok {ρ : Env} : ∀ {rs : List RowV} {rows : List RowD} {K : Known}, K.ok ρ → RowsFit ρ rows rs → (∀ r ∈ rows, ρ.g (rowF r.e 62) [] = true ∧ ρ.f (rowF r.e 63) [] = r.n) → (addRows rs K).ok ρ
  | [], rows, K, hK, _, _ => hK
  | (e, v) :: rs, [], K, _, h, _ => h.elim
  | (e, v) :: rs, r :: rows, K, hK, h, hh => by
    obtain ⟨rfl, h2, h3, h4⟩ := h
    obtain ⟨g1, g2⟩ := hh r List.mem_cons_self
    refine addRows_ok (rs := rs) ?_ h4 fun x hx => hh x (List.mem_cons_of_mem _ hx)
    refine assume_ok _ true (assume_ok _ true (assume_ok _ true (assume_ok _ true (assume_ok _ true hK g1) ?_) ?_) ?_) ?_
    · simp [X.B, X.I, X.L, cmpI, g2, h2]
    · simp [X.B, X.I, cmpI, h2]
    · simp only [X.B, X.I, cmpI, ge_iff_le, decide_eq_true_eq]; omega
    · simp only [X.B, X.I, cmpI]; exact decide_eq_true (by rw [h2]; exact h3)

section
variable {H : Type} {enc : TypeId × Value → H} {P : Program} {w : World} {r : Reach} {base : Nat}
def OneRow (q : Nat) (o : Option RowV) (rows : List RowD) : Prop :=
  match o with
  | none => rows = []
  | some _ => ∃ x, rows = [x] ∧ x.e % 64 = q
def OneFit (ρ : Env) (rows : List RowD) (o : Option RowV) : Prop :=
  match o with
  | none => True
  | some rv => RowsFit ρ rows [rv]
theorem argR_is {t : TypeId} {c q : Nat} {s : SV} {ks : List LK} {o : Option RowV} (ht : argR P t c q = some (s, ks, o)) {v : Value} {d : DataW H} {p : List MemPlace} (h : Value.okWide P w r base t v) (hd : DataW.Trod enc P w 0 (fun _ => true) true t v d p) :
    ∃ vs rows, IsAll ks vs ∧ (∀ x ∈ rows, RowD.inW x w) ∧ OneRow q o rows ∧
      ∀ (ρ : Env) (β : Nat → Nat), FitAll ρ ks c vs → OneFit ρ rows o ∧ ((∀ x ∈ rows, ρ.x x.e = x.ext ∧ ρ.g (rowF x.e 61) [] = x.nil) → s.den ρ β = v) := by
  unfold argR at ht
  split at ht
  · rename_i el hu
    split at ht
    · rename_i ks' hk
      split at ht
      · rename_i hc
        cases ht
        simp only [Bool.and_eq_true, Nat.ble_eq, len_eq] at hc
        obtain ⟨⟨⟨⟨c1, c2⟩, c3⟩, c4⟩, c5⟩ := hc
        have c1 := lkB_eq c1
        have c2 := Nat.eq_of_beq_eq_true c2
        obtain ⟨a, ln, cp, rfl⟩ := okWide_slice hu h
        obtain ⟨fuel, hf⟩ := hd
        have hfew : (ksOf (encK ks' * 64 + q)).length ≤ 59 := by rw [c1]; exact c4
        rcases Deep.open_slice hu (show DataW.trod enc P w 0 (fun _ => true) true fuel t [.slice a ln cp] = _ from hf) with ⟨h0, _⟩ | ⟨a', len, cap, m, n, D, Pl, h0, _, hlc, hcap, hm, _, hel⟩
        · simp only [List.cons.injEq, Value.slice.injEq, and_true] at h0
          obtain ⟨rfl, rfl, rfl⟩ := h0
          refine ⟨[.int .i64 0, .int .i64 0], [⟨encK ks' * 64 + q, ⟨⟨0, 0, none⟩, .cells #[] 0 (0, 0)⟩, 0, true⟩], ?_, ?_, ⟨_, rfl, by simp only; omega⟩, fun ρ β hfit => ?_⟩
          · exact ⟨_, _, rfl, ⟨0, rfl, by decide, by decide⟩, _, _, rfl, ⟨0, rfl, by decide, by decide⟩, rfl⟩
          · intro x hx
            simp only [List.mem_singleton] at hx
            subst hx
            exact ⟨hfew, fun hh => absurd hh (Nat.lt_irrefl 0), fun i hi => absurd hi (Nat.not_lt_zero i)⟩
          · obtain ⟨v1, l1, e1, f1, v2, l2, e2, f2, e3⟩ := hfit
            simp only [List.cons.injEq] at e1; obtain ⟨rfl, rfl⟩ := e1
            simp only [List.cons.injEq] at e2; obtain ⟨rfl, rfl⟩ := e2
            simp only [LK.fits, Value.int.injEq, true_and] at f1 f2
            refine ⟨⟨rfl, by rw [← f1.1]; rfl, by rw [← f2.1]; simp, trivial⟩, fun hx => ?_⟩
            have := (hx _ (List.mem_singleton.2 rfl)).2
            simp only at this
            simp only [SV.den, SC.den, X.I, this, if_true, ← f1.1, ← f2.1, Int.toNat_zero]
        · simp only [List.cons.injEq, Value.slice.injEq, and_true] at h0
          obtain ⟨rfl, rfl, rfl⟩ := h0
          simp only [if_true] at hm
          subst hm
          have hmax : (ln : Int) ≤ 9223372036854775807 ∧ (m : Int) ≤ 9223372036854775807 := by unfold maxLen at hcap; omega
          refine ⟨[.int .i64 ln, .int .i64 m], [⟨encK ks' * 64 + q, ⟨a', (w.heap[a'.block]?).getD (.cells #[] 0 (0, 0))⟩, ln, false⟩], ?_, ?_, ⟨_, rfl, by simp only; omega⟩, fun ρ β hfit => ?_⟩
          · exact ⟨_, _, rfl, ⟨ln, rfl, by simp only [kLo]; omega, by simp only [kHi]; omega⟩, _, _, rfl, ⟨m, rfl, by simp only [kLo]; omega, by simp only [kHi]; omega⟩, rfl⟩
          · intro x hx
            simp only [List.mem_singleton] at hx
            subst hx
            have cell : ∀ i, i < ln → ∀ j k, ks'[j]? = some k → ∃ v, w.cell? (a'.add (i * ks'.length + j)) = some v ∧ k.is v := by
              intro i hi j k hj
              obtain ⟨cs', h1, h2⟩ := hel i (by omega)
              have hall := flat_is hk h2
              obtain ⟨v, hv, hkv⟩ := isAll_get hall hj
              obtain ⟨_, hcl, hat⟩ := World.cells?_some h1
              have hjl : j < P.cellsOf el := by rw [c2]; exact (List.getElem?_eq_some_iff.1 hj).1
              have := hat j hjl
              rw [Deep.add_add, hv, c2] at this
              exact ⟨v, this, hkv⟩
            have same : ∀ {b : Obj}, w.heap[a'.block]? = some b → ∀ k, cellO b (a'.add k) = w.cell? (a'.add k) := by
              intro b hb k
              have hbk : (a'.add k).block = a'.block := by unfold Addr.add; split <;> rfl
              unfold World.cell?
              rw [hbk, hb]
              unfold cellO
              cases b <;> rfl
            refine ⟨hfew, fun hn => ⟨?_, rfl⟩, fun i hi j k hj => ?_⟩
            · obtain ⟨v, hv, _⟩ := cell 0 hn 0 _ (List.getElem?_eq_getElem (show 0 < ks'.length by omega))
              have hbk : (a'.add (0 * ks'.length + 0)).block = a'.block := by unfold Addr.add; split <;> rfl
              cases hb : w.heap[a'.block]? with
              | none => simp only [World.cell?, hbk, hb] at hv; cases hv
              | some b => rw [Option.getD_some]
            · rw [c1] at hj ⊢
              obtain ⟨v, hv, hkv⟩ := cell i hi j k hj
              refine ⟨v, ?_, hkv⟩
              have hbk : (a'.add (i * ks'.length + j)).block = a'.block := by unfold Addr.add; split <;> rfl
              cases hb : w.heap[a'.block]? with
              | none => simp only [World.cell?, hbk, hb] at hv; cases hv
              | some b => rw [Option.getD_some, same hb]; exact hv
          · obtain ⟨v1, l1, e1, f1, v2, l2, e2, f2, e3⟩ := hfit
            simp only [List.cons.injEq] at e1; obtain ⟨rfl, rfl⟩ := e1
            simp only [List.cons.injEq] at e2; obtain ⟨rfl, rfl⟩ := e2
            simp only [LK.fits, Value.int.injEq, true_and] at f1 f2
            refine ⟨⟨rfl, by rw [← f1.1], by rw [← f2.1]; exact Int.ofNat_le.2 hlc, trivial⟩, fun hx => ?_⟩
            obtain ⟨x1, x2⟩ := hx _ (List.mem_singleton.2 rfl)
            simp only at x1 x2
            simp [SV.den, SC.den, X.I, x1, x2, ← f1.1, ← f2.1, Addr.add]
      · cases ht
    · cases ht
  · split at ht
    · rename_i s' ks' h1
      cases ht
      obtain ⟨vs, a1, a2⟩ := argT_is h1 h
      exact ⟨vs, [], a1, fun x hx => by simp at hx, rfl, fun ρ β hf => ⟨trivial, fun _ => a2 ρ β hf⟩⟩
    · cases ht

theorem rowsFit_append {ρ : Env} : ∀ {a b : List RowD} {c d : List RowV}, RowsFit ρ a c → RowsFit ρ b d → RowsFit ρ (a ++ b) (c ++ d)
  | [], _, [], _, _, h => h
  | [], _, _ :: _, _, h, _ => h.elim
  | _ :: _, _, [], _, h, _ => h.elim
  | _ :: _, _, (_, _) :: _, _, h, k => ⟨h.1, h.2.1, h.2.2.1, rowsFit_append h.2.2.2 k⟩
theorem argRs_is : ∀ {ts : List TypeId} {c q : Nat} {ss : List SV} {ks : List LK} {rs : List RowV}, argRs P ts c q = some (ss, ks, rs) → ∀ {vs : List Value} {ds : List (DataW H)} {p : List MemPlace}, (∀ (j : Nat) (t : TypeId) (v : Value), ts[j]? = some t → vs[j]? = some v → Value.okWide P w r base t v) →
    DataW.TrodAll enc P w 0 (fun _ => true) true ts vs ds p →
    ∃ cells rows, IsAll ks cells ∧ (∀ x ∈ rows, RowD.inW x w) ∧ Incr q rows ∧
      ∀ (ρ : Env) (β : Nat → Nat), FitAll ρ ks c cells → RowsFit ρ rows rs ∧ ((∀ x ∈ rows, ρ.x x.e = x.ext ∧ ρ.g (rowF x.e 61) [] = x.nil) → ss.map (SV.den ρ β) = vs)
  | [], c, q, ss, ks, rs, h, vs, ds, p, _, hd => by
    simp only [argRs] at h; cases h
    obtain ⟨rfl, _, _⟩ := trodAll_nil hd
    exact ⟨[], [], rfl, fun x hx => by simp at hx, trivial, fun ρ β _ => ⟨trivial, fun _ => rfl⟩⟩
  | t :: ts, c, q, ss, ks, rs, h, vs, ds, p, hv, hd => by
    obtain ⟨v, vs', d, ds', p1, p2, rfl, rfl, rfl, h1, h2⟩ := trodAll_cons hd
    simp only [argRs] at h
    split at h
    · rename_i s ks1 hs
      split at h
      · rename_i ss2 ks2 rs2 hr
        cases h
        obtain ⟨c1, r1, a1, a2, a3, a4⟩ := argR_is hs (hv 0 t v rfl rfl) h1
        obtain ⟨c2, r2, b1, b2, b3, b4⟩ := argRs_is hr (vs := vs') (fun j u x hu hx => hv (j + 1) u x (by simpa using hu) (by simpa using hx)) h2
        simp only [OneRow] at a3
        subst a3
        refine ⟨c1 ++ c2, r2, a1.append b1, b2, b3, fun ρ β hf => ?_⟩
        obtain ⟨v1, v2, e, f1, f2⟩ := hf.split
        have hlen : v1.length = c1.length := by rw [f1.len, a1.len]
        obtain ⟨rfl, rfl⟩ := List.append_inj e hlen.symm
        rw [len_eq] at b4
        obtain ⟨g1, g2⟩ := b4 ρ β f2
        exact ⟨g1, fun hx => by simp only [List.map_cons, (a4 ρ β f1).2 (fun x hx => by simp at hx), g2 hx]⟩
      · cases h
    · rename_i s ks1 rv hs
      split at h
      · rename_i ss2 ks2 rs2 hr
        cases h
        obtain ⟨c1, r1, a1, a2, a3, a4⟩ := argR_is hs (hv 0 t v rfl rfl) h1
        obtain ⟨c2, r2, b1, b2, b3, b4⟩ := argRs_is hr (vs := vs') (fun j u x hu hx => hv (j + 1) u x (by simpa using hu) (by simpa using hx)) h2
        simp only [OneRow] at a3
        obtain ⟨x0, rfl, hx0⟩ := a3
        refine ⟨c1 ++ c2, x0 :: r2, a1.append b1, fun x hx => ?_, ⟨hx0, b3⟩, fun ρ β hf => ?_⟩
        · rcases List.mem_cons.1 hx with rfl | hx
          · exact a2 _ (List.mem_singleton.2 rfl)
          · exact b2 x hx
        obtain ⟨v1, v2, e, f1, f2⟩ := hf.split
        have hlen : v1.length = c1.length := by rw [f1.len, a1.len]
        obtain ⟨rfl, rfl⟩ := List.append_inj e hlen.symm
        rw [len_eq] at b4
        obtain ⟨g1, g2⟩ := b4 ρ β f2
        obtain ⟨k1, k2⟩ := a4 ρ β f1
        refine ⟨rowsFit_append (a := [x0]) (c := [rv]) k1 g1, fun hx => ?_⟩
        simp only [List.map_cons, k2 (fun x h => by rw [List.mem_singleton.1 h]; exact hx x0 List.mem_cons_self), g2 fun x h => hx x (List.mem_cons_of_mem _ h)]
      · cases h
    · cases h

/-- The environment of a call with rows. -/
theorem rows_env {ts : List TypeId} {ss : List SV} {ks : List LK} {rs : List RowV} (hts : argRs P ts 0 0 = some (ss, ks, rs)) (f0 : List RowD → Nat → List Int → Int) (g0 : List RowD → Nat → List Int → Bool) {vs : List Value} {ds : List (DataW H)} {p : List MemPlace}
    (hv : ∀ (j : Nat) (t : TypeId) (v : Value), ts[j]? = some t → vs[j]? = some v → Value.okWide P w r base t v) (hd : DataW.TrodAll enc P w 0 (fun _ => true) true ts vs ds p) :
    ∃ rows cells, (∀ x ∈ rows, RowD.inW x w) ∧ Incr 0 rows ∧ (addRows rs ⟨ks.map LK.rg, []⟩).ok (envR rows (f0 rows) (g0 rows) cells) ∧ RowsIn (envR rows (f0 rows) (g0 rows) cells) w ∧ ∀ β, ss.map (SV.den (envR rows (f0 rows) (g0 rows) cells) β) = vs := by
  obtain ⟨cells, rows, h1, h2, h3, h4⟩ := argRs_is hts hv hd
  have hf0 := fitAll_env (fR rows (f0 rows)) (gR rows (g0 rows)) (pre := []) h1
  simp only [List.nil_append, List.length_nil] at hf0
  have fit2 : ∀ {ks : List LK} {c : Nat} {vs : List Value}, FitAll (envOf (fR rows (f0 rows)) (gR rows (g0 rows)) cells) ks c vs → FitAll (envR rows (f0 rows) (g0 rows) cells) ks c vs := by
    intro ks
    induction ks with
    | nil => intro c vs h; exact h
    | cons k ks ih =>
      intro c vs h
      obtain ⟨v, l, e, a1, a2⟩ := h
      exact ⟨v, l, e, by cases k <;> exact a1, ih a2⟩
  have hf := fit2 hf0
  have hk := known_env (ρ := envR rows (f0 rows) (g0 rows) cells) ⟨fun n => rfl, fun e => fit_row h2 e⟩ hf
  obtain ⟨g1, g2⟩ := h4 _ (fun _ => 0) hf
  have hfind : ∀ x ∈ rows, findR rows x.e = some x := fun x hx => findR_of h3 x hx
  refine ⟨rows, cells, h2, h3, addRows_ok hk g1 fun x hx => ⟨gR_has.2 ⟨x, hfind x hx⟩, fR_len (hfind x hx)⟩, rows_in h2, fun β => (h4 _ β hf).2 fun x hx => ⟨by simp [envR, xR, hfind x hx], gR_nil (hfind x hx)⟩⟩

/-- A function with slices among its arguments that answers true, whatever they are; case by case. -/
theorem rows_plan (hm : P.follows .mixedOrders = true) {sums : List Sm} (hS : SumsOk P sums) {fn : FuncId} {ts : List TypeId} {ss : List SV} {ks : List LK} {rs : List RowV} (hts : argRs P ts 0 0 = some (ss, ks, rs)) {q fuel big n : Nat}
    (hp : ∀ ρ, (addRows rs ⟨ks.map LK.rg, []⟩).ok ρ → ∃ K d, K.ok ρ ∧ (tree P q (sumsIn sums) fuel fn ss bare d K).prove big n K = true)
    {args : Array Value} {ds : List (DataW H)} {p : List MemPlace} (hv : ∀ (j : Nat) (t : TypeId) (v : Value), ts[j]? = some t → args[j]? = some v → Value.okWide P w r base t v)
    (hd : DataW.TrodAll enc P w 0 (fun _ => true) true ts args.toList ds p) :
    Calls P fn args w fun e w' => (∃ v, e = .returned v ∧ v = .bool true) ∧ RowKit.Below w.heap.size w w' := by
  obtain ⟨rows, cells, _, _, hk, hin, ha⟩ := rows_env hts (fun _ _ _ => 0) (fun _ _ _ => false) (fun j t v ht hv' => hv j t v ht (by simpa using hv')) hd
  obtain ⟨K, d, hK, ht⟩ := hp _ hk
  have := tree_ok hm (hS _) (q := q) (fuel := fuel) (f := fn) (args := ss) w hin d K hK (Tree.free_of_prove ht)
  rw [ha] at this
  exact Calls.mono this fun e w' h => ⟨⟨_, h.1, Tree.prove_ok hK ht⟩, h.2⟩
end
end Go.Sx
