/- Slices among the arguments, as rows from outside. -/
import Derived.Test.YtdgjenlejalgeaaSx21
import Derived.Deep.Slices
namespace Go.Sx
open Go.ChangeShapes Go.WideShapes Go.ChangeAt Go.RowKit

/-! ### The cells of a type -/
def rep2 (n : Nat) (l : List LK) : List LK := match n with
  | 0 => []
  | n + 1 => l ++ rep2 n l
/-- Fields that follow one another. -/
def flatFs (P : Program) (rec : TypeId → Option (List LK)) : List Field → Nat → Option (List LK)
  | [], _ => some []
  | f :: fs, c => match rec f.type with
    | some ks => if Nat.beq f.offset c && Nat.beq (len ks) (P.cellsOf f.type) then
        match flatFs P rec fs (c + len ks) with
        | some l => some (ks ++ l)
        | none => none
      else none
    | none => none
def flatK (P : Program) : Nat → TypeId → Option (List LK)
  | 0, _ => none
  | d + 1, t => match P.underlying t with
    | some (.int k) => some [.i k]
    | some .bool => some [.b]
    | some (.struct fs) => match flatFs P (flatK P d) fs.toList 0 with
      | some l => if Nat.beq (len l) (P.cellsOf t) then some l else none
      | none => none
    | some (.array n e) => match flatK P d e with
      | some l => if Nat.beq (len l) (P.cellsOf e) && Nat.beq (n * len l) (P.cellsOf t) then some (rep2 n l) else none
      | none => none
    | _ => none

section
variable {H : Type} {enc : TypeId × Value → H} {P : Program} {w : World} {base : Nat} {spare : Nat → Bool} {held : Bool}

theorem rep2_len (n : Nat) (l : List LK) : (rep2 n l).length = n * l.length := by
  induction n with
  | zero => simp [rep2]
  | succ n ih => simp [rep2, ih, Nat.succ_mul, Nat.add_comm]
theorem isAll_rep2 {l : List LK} : ∀ {n : Nat} {vs : List Value}, vs.length = n * l.length → (∀ i, i < n → IsAll l ((vs.drop (i * l.length)).take l.length)) → IsAll (rep2 n l) vs
  | 0, vs, hl, _ => by simp at hl; subst hl; rfl
  | n + 1, vs, hl, h => by
    have h0 := h 0 (by omega)
    simp only [Nat.zero_mul, List.drop_zero] at h0
    rw [show vs = vs.take l.length ++ vs.drop l.length by simp]
    refine h0.append (isAll_rep2 (by simp [hl, Nat.succ_mul]) fun i hi => ?_)
    have := h (i + 1) (by omega)
    rwa [List.drop_drop, show l.length + i * l.length = (i + 1) * l.length by rw [Nat.succ_mul]; omega]
theorem isAll_fs {rec : TypeId → Option (List LK)} : ∀ {fs : List Field} {c : Nat} {l : List LK} {cs : List Value}, flatFs P rec fs c = some l → c + l.length = cs.length →
    (∀ (i : Nat) (f : Field), fs[i]? = some f → ∀ ks, rec f.type = some ks → IsAll ks ((cs.drop f.offset).take (P.cellsOf f.type))) → IsAll l (cs.drop c)
  | [], c, l, cs, h, hl, _ => by
    simp only [flatFs] at h; cases h
    simp only [List.length_nil, Nat.add_zero] at hl
    subst hl; simp [IsAll]
  | f :: fs, c, l, cs, h, hl, hf => by
    simp only [flatFs] at h
    split at h
    · rename_i ks hk
      split at h
      · rename_i hc
        split at h
        · rename_i l' hl'
          cases h
          simp only [Bool.and_eq_true, len_eq] at hc
          have c1 := Nat.eq_of_beq_eq_true hc.1
          have c2 := Nat.eq_of_beq_eq_true hc.2
          have h0 := hf 0 f rfl ks hk
          rw [c1, ← c2] at h0
          have := isAll_fs (cs := cs) hl' (by simp only [List.length_append] at hl; rw [len_eq]; omega) fun i g hg => hf (i + 1) g (by simpa using hg)
          rw [len_eq] at this
          rw [show cs.drop c = (cs.drop c).take ks.length ++ cs.drop (c + ks.length) by have := (List.take_append_drop ks.length (cs.drop c)).symm; rwa [List.drop_drop] at this]
          exact h0.append this
        · cases h
      · cases h
    · cases h
theorem lit_in {k : IntKind} {n : Int} (h : (Lit.int k n).wf = true) : kLo k ≤ n ∧ n ≤ kHi k := by
  cases k <;> simp [Lit.wf, IntKind.min, IntKind.max, IntKind.signed, IntKind.bits] at h <;> simp [kLo, kHi] <;> omega
theorem flat_is : ∀ {d : Nat} {t : TypeId} {ks : List LK} {fuel : Nat} {cs : List Value} {x : DataW H × List MemPlace}, flatK P d t = some ks → DataW.trod enc P w base spare held fuel t cs = some x → IsAll ks cs
  | 0, _, _, _, _, _, h, _ => by simp [flatK] at h
  | d + 1, t, ks, fuel, cs, x, h, ht => by
    simp only [flatK] at h
    split at h
    · rename_i k hu
      cases h
      obtain ⟨n, rfl, _, hw⟩ := DataW.trod_int hu ht
      exact ⟨_, [], rfl, ⟨n, rfl, lit_in hw⟩, rfl⟩
    · rename_i hu
      cases h
      obtain ⟨b, rfl, _⟩ := DataW.trod_bool hu ht
      exact ⟨_, [], rfl, ⟨b, rfl⟩, rfl⟩
    · rename_i fs hu
      split at h
      · rename_i l hl
        split at h
        · rename_i hc
          cases h
          have hc := Nat.eq_of_beq_eq_true hc
          rw [len_eq] at hc
          obtain ⟨xs, n, _, _, hlen, hxl, hf⟩ := DataW.trod_struct hu ht
          have := isAll_fs (cs := cs) hl (by omega) fun i f hif ks' hk' => by
            have h1 := hf i f (by simpa using hif)
            have hlt : i < fs.size := by simpa using (List.getElem?_eq_some_iff.1 hif).1
            rw [List.getElem?_eq_getElem (by omega)] at h1
            exact flat_is hk' h1
          simpa using this
        · cases h
      · cases h
    · rename_i n e hu
      split at h
      · rename_i l hl
        split at h
        · rename_i hc
          cases h
          simp only [Bool.and_eq_true, len_eq] at hc
          have c1 := Nat.eq_of_beq_eq_true hc.1
          have c2 := Nat.eq_of_beq_eq_true hc.2
          obtain ⟨xs, m, _, _, hlen, hxl, hf⟩ := DataW.trod_array hu ht
          refine isAll_rep2 (by omega) fun i hi => ?_
          have h1 := hf i hi
          rw [List.getElem?_eq_getElem (by omega), ← c1] at h1
          exact flat_is hl h1
        · cases h
      · cases h
    · cases h
theorem isAll_get {ks : List LK} : ∀ {vs : List Value} {j : Nat} {k : LK}, IsAll ks vs → ks[j]? = some k → ∃ v, vs[j]? = some v ∧ k.is v := by
  induction ks with
  | nil => intro vs j k _ h; simp at h
  | cons k0 ks ih =>
    intro vs j k h hj
    obtain ⟨v, l, rfl, h1, h2⟩ := h
    cases j with
    | zero => simp at hj; subst hj; exact ⟨v, rfl, h1⟩
    | succ j => simpa using ih h2 (by simpa using hj)
end

/-! ### Arguments with slices -/
def kindN : LK → Nat
  | .i .i8 => 1 | .i .i16 => 2 | .i .i32 => 3 | .i .i64 => 4 | .i .u8 => 5 | .i .u16 => 6 | .i .u32 => 7 | .i .u64 => 8
  | .b => 9
def encK : List LK → Nat
  | [] => 0
  | k :: l => kindN k + 16 * encK l
def lkB : List LK → List LK → Bool
  | [], [] => true
  | k :: l, k' :: l' => Nat.beq (kindN k) (kindN k') && lkB l l'
  | _, _ => false
theorem kindN_inj {a c : LK} (h : kindN a = kindN c) : a = c := by
  cases a with
  | i a => cases c with
    | i c => cases a <;> cases c <;> simp [kindN] at h <;> rfl
    | _ => cases a <;> simp [kindN] at h
  | _ => cases c with
    | i c => cases c <;> simp [kindN] at h
    | _ => rfl
theorem lkB_eq : ∀ {l m : List LK}, lkB l m = true → l = m
  | [], [], _ => rfl
  | k :: l, k' :: l', h => by
    simp only [lkB, Bool.and_eq_true] at h
    rw [kindN_inj (Nat.eq_of_beq_eq_true h.1), lkB_eq h.2]
  | [], _ :: _, h => by simp [lkB] at h
  | _ :: _, [], h => by simp [lkB] at h

/-- A row among the arguments: its number, its length's variable. -/
abbrev RowV := Nat × Nat
/-- Is a row a text? -/
def isTxt (e : Nat) : Bool := Nat.beq (e / 64) 10
abbrev FA := List SC × List LK × List RowV
def seqA (P : Program) (rec : TypeId → Nat → Nat → Option FA) : List Field → Nat → Nat → Nat → Option FA
  | [], _, _, _ => some ([], [], [])
  | f :: fs, o, c, r => match rec f.type c r with
    | some (x, ks, rs) => if Nat.beq f.offset o && Nat.beq (len x) (P.cellsOf f.type) then
        match seqA P rec fs (o + len x) (c + len ks) (r + len rs) with
        | some (y, ks', rs') => some (x ++ y, ks ++ ks', rs ++ rs')
        | none => none
      else none
    | none => none
def repA (rec : Nat → Nat → Option FA) (m : Nat) : Nat → Nat → Nat → Option FA
  | 0, _, _ => some ([], [], [])
  | n + 1, c, r => match rec c r with
    | some (x, ks, rs) => if Nat.beq (len x) m then
        match repA rec m n (c + len ks) (r + len rs) with
        | some (y, ks', rs') => some (x ++ y, ks ++ ks', rs ++ rs')
        | none => none
      else none
    | none => none
def flatA (P : Program) : Nat → TypeId → Nat → Nat → Option FA
  | 0, _, _, _ => none
  | d + 1, t, c, r => match P.underlying t with
    | some (.int k) => some ([.ci k (.iv c)], [.i k], [])
    | some .bool => some ([.cb (.bv c)], [.b], [])
    | some .string => if Nat.ble (r + 1) 60 then some ([.str [.xt (640 + r) (.lit 0) (.iv c)]], [.i .i64], [(640 + r, c)]) else none
    | some (.slice el) => match flatK P 20 el with
      | some ks =>
        if lkB (ksOf (encK ks * 64 + r)) ks && Nat.beq (P.cellsOf el) (len ks) && Nat.ble (r + 1) 60 && Nat.ble (len ks) 59 && Nat.ble 1 (len ks) && !isTxt (encK ks * 64 + r) then
          some ([.xs (encK ks * 64 + r) (.lit 0) (.iv c) (.iv (c + 1))], [.i .i64, .i .i64], [(encK ks * 64 + r, c)]) else none
      | none => none
    | some (.struct fs) => match seqA P (flatA P d) fs.toList 0 c r with
      | some (x, ks, rs) => if Nat.beq (len x) (P.cellsOf t) then some (x, ks, rs) else none
      | none => none
    | some (.array n e) => match repA (flatA P d e) (P.cellsOf e) n c r with
      | some (x, ks, rs) => if Nat.beq (len x) (P.cellsOf t) then some (x, ks, rs) else none
      | none => none
    | _ => none
def argR (P : Program) (t : TypeId) (c r : Nat) : Option (SV × List LK × List RowV) :=
  match flatA P 20 t c r with
  | some (x, ks, rs) => match P.underlying t with
    | some (.struct _) => some (.agg x, ks, rs)
    | some (.array _ _) => some (.agg x, ks, rs)
    | some (.int _) => match x with
      | [y] => some (.c y, ks, rs)
      | _ => none
    | some .bool => match x with
      | [y] => some (.c y, ks, rs)
      | _ => none
    | some .string => match x with
      | [y] => some (.c y, ks, rs)
      | _ => none
    | some (.slice _) => match x with
      | [y] => some (.c y, ks, rs)
      | _ => none
    | _ => none
  | none => none
def argRs (P : Program) : List TypeId → Nat → Nat → Option (List SV × List LK × List RowV)
  | [], _, _ => some ([], [], [])
  | t :: l, c, r => match argR P t c r with
    | some (v, ks, rv) => match argRs P l (c + len ks) (r + len rv) with
      | some (vs, ks', rs) => some (v :: vs, ks ++ ks', rv ++ rs)
      | none => none
    | none => none

/-- What a row is. -/
structure RowD where
  e : Nat
  ext : Ext
  n : Nat
  nil : Bool
def findR (l : List RowD) (e : Nat) : Option RowD :=
  match l with
  | [] => none
  | r :: l => if r.e = e then some r else findR l e
def rowAt (r : RowD) (j : Nat) (i : Int) : Option Value := cellO r.ext.obj (r.ext.adr.add (i.toNat * (ksOf r.e).length + j))
def fR (rs : List RowD) (f0 : Nat → List Int → Int) (code : Nat) (args : List Int) : Int :=
  if code < 100000 then f0 code args else
    match findR rs ((code - 100000) / 64) with
    | none => 0
    | some r => if (code - 100000) % 64 = 63 then r.n else
      match args with
      | [i] => match rowAt r ((code - 100000) % 64) i with
        | some (.int _ z) => z
        | _ => 0
      | _ => 0
def gR (rs : List RowD) (g0 : Nat → List Int → Bool) (code : Nat) (args : List Int) : Bool :=
  if code < 100000 then g0 code args else
    match findR rs ((code - 100000) / 64) with
    | none => false
    | some r => if (code - 100000) % 64 = 62 then !isTxt r.e else if (code - 100000) % 64 = 61 then r.nil else if (code - 100000) % 64 = 60 then (!isTxt r.e && decide (0 < r.n)) else
      match args with
      | [i] => match rowAt r ((code - 100000) % 64) i with
        | some (.bool z) => z
        | _ => false
      | _ => false
def xR (rs : List RowD) (e : Nat) : Ext := match findR rs e with
  | some r => r.ext
  | none => ⟨⟨0, 0, none⟩, .cells #[] 0 (0, 0)⟩
/-- A row stands in a world. -/
structure RowD.inW (r : RowD) (w : World) : Prop where
  few : isTxt r.e = false → (ksOf r.e).length ≤ 59
  mem : isTxt r.e = false → 0 < r.n → w.heap[r.ext.adr.block]? = some r.ext.obj ∧ r.nil = false
  cel : isTxt r.e = false → ∀ i, i < r.n → ∀ j k, (ksOf r.e)[j]? = some k → ∃ v, cellO r.ext.obj (r.ext.adr.add (i * (ksOf r.e).length + j)) = some v ∧ k.is v
def envR (rs : List RowD) (f0 : Nat → List Int → Int) (g0 : Nat → List Int → Bool) (vs : List Value) : Env :=
  { envOf (fR rs f0) (gR rs g0) vs with x := xR rs }

theorem findR_some : ∀ {l : List RowD} {e : Nat} {r : RowD}, findR l e = some r → r ∈ l ∧ r.e = e
  | [], _, _, h => by simp [findR] at h
  | r0 :: l, e, r, h => by
    simp only [findR] at h
    split at h
    · rename_i he; cases h; exact ⟨List.mem_cons_self, he⟩
    · have := findR_some h; exact ⟨List.mem_cons_of_mem _ this.1, this.2⟩
theorem code_e (e j : Nat) (hj : j < 64) : ¬ rowF e j < 100000 ∧ (rowF e j - 100000) / 64 = e ∧ (rowF e j - 100000) % 64 = j := by
  unfold rowF; omega
theorem fR_len {rs : List RowD} {f0 : Nat → List Int → Int} {e : Nat} {r : RowD} (h : findR rs e = some r) : fR rs f0 (rowF e 63) [] = r.n := by
  obtain ⟨h1, h2, h3⟩ := code_e e 63 (by omega)
  simp [fR, h1, h2, h3, h]
theorem gR_has {rs : List RowD} {g0 : Nat → List Int → Bool} {e : Nat} : gR rs g0 (rowF e 62) [] = true ↔ ∃ r, findR rs e = some r ∧ isTxt r.e = false := by
  obtain ⟨h1, h2, h3⟩ := code_e e 62 (by omega)
  simp only [gR, h1, h2, h3, if_false]
  cases findR rs e <;> simp
theorem gR_nil {rs : List RowD} {g0 : Nat → List Int → Bool} {e : Nat} {r : RowD} (h : findR rs e = some r) : gR rs g0 (rowF e 61) [] = r.nil := by
  obtain ⟨h1, h2, h3⟩ := code_e e 61 (by omega)
  simp [gR, h1, h2, h3, h]
theorem gR_mem {rs : List RowD} {g0 : Nat → List Int → Bool} {e : Nat} : gR rs g0 (rowF e 60) [] = true ↔ ∃ r, findR rs e = some r ∧ isTxt r.e = false ∧ 0 < r.n := by
  obtain ⟨h1, h2, h3⟩ := code_e e 60 (by omega)
  simp only [gR, h1, h2, h3, if_false]
  cases findR rs e <;> simp
theorem fit_row {rs : List RowD} {f0 : Nat → List Int → Int} {g0 : Nat → List Int → Bool} {vs : List Value} {w : World} (hr : ∀ r ∈ rs, r.inW w) (e : Nat) : ExtOk (envR rs f0 g0 vs) e := by
  intro he i hi
  obtain ⟨r, hf, ht⟩ := gR_has.1 (show gR rs g0 (rowF e 62) [] = true from he)
  obtain ⟨hm, rfl⟩ := findR_some hf
  have hw := hr r hm
  have hi' : i < r.n := by
    have : (i : Int) < fR rs f0 (rowF r.e 63) [] := hi
    rw [fR_len hf] at this; omega
  refine ⟨gR_mem.2 ⟨r, hf, ht, by omega⟩, (gR_nil hf).trans (hw.mem ht (by omega)).2, fun j k hj => ?_⟩
  obtain ⟨v, hv, hk⟩ := hw.cel ht i hi' j k hj
  have hj59 : j < 59 := by have := (List.getElem?_eq_some_iff.1 hj).1; have := hw.few ht; omega
  obtain ⟨h1, h2, h3⟩ := code_e r.e j (by omega)
  have hx : (envR rs f0 g0 vs).x r.e = r.ext := by simp [envR, xR, hf]
  rw [hx, hv]
  cases k with
  | i k =>
    obtain ⟨z, rfl, hz⟩ := hk
    have e1 : (envR rs f0 g0 vs).f (rowF r.e j) [(i : Int)] = z := by
      show fR rs f0 (rowF r.e j) [(i : Int)] = z
      simp only [fR, h1, h2, h3, hf, if_false, if_neg (show ¬ j = 63 by omega), rowAt, Int.toNat_natCast, hv]
    simp only [rowCell, rowFit, e1, true_and]
    cases k <;> exact hz
  | _ =>
    obtain ⟨z, rfl⟩ := hk
    have e1 : (envR rs f0 g0 vs).g (rowF r.e j) [(i : Int)] = z := by
      show gR rs g0 (rowF r.e j) [(i : Int)] = z
      simp only [gR, h1, h2, h3, hf, if_false, if_neg (show ¬ j = 62 by omega), if_neg (show ¬ j = 61 by omega), if_neg (show ¬ j = 60 by omega), rowAt, Int.toNat_natCast, hv]
    simp only [rowCell, rowFit, e1, and_self]
theorem rows_in {rs : List RowD} {f0 : Nat → List Int → Int} {g0 : Nat → List Int → Bool} {vs : List Value} {w : World} (hr : ∀ r ∈ rs, r.inW w) : RowsIn (envR rs f0 g0 vs) w := by
  intro e he
  obtain ⟨r, hf, ht, hn⟩ := gR_mem.1 (show gR rs g0 (rowF e 60) [] = true from he)
  have hx : (envR rs f0 g0 vs).x e = r.ext := by simp [envR, xR, hf]
  rw [hx]; exact ((hr r (findR_some hf).1).mem ht hn).1

/-- What is known of arguments with rows. -/
def addRows : List RowV → Known → Known
  | [], K => K
  | (e, v) :: l, K => if isTxt e then addRows l (K.assume (.cmp .geq (.iv v) (.lit 0)) true) else
    addRows l (((((K.assume (.fb (rowF e 62) .unit) true).assume (.cmp .eql (.iv v) (.fi (rowF e 63) .unit)) true).assume (.cmp .geq (.iv v) (.lit 0)) true).assume (.cmp .geq (.iv (v + 1)) (.lit 0)) true).assume (.cmp .leq (.iv v) (.iv (v + 1))) true)
def RowsFit (ρ : Env) : List RowD → List RowV → Prop
  | [], [] => True
  | r :: l, (e, v) :: m => r.e = e ∧ ρ.i v = r.n ∧ (isTxt e = false → (r.n : Int) ≤ ρ.i (v + 1)) ∧ RowsFit ρ l m
  | _, _ => False
def Incr : Nat → List RowD → Prop
  | _, [] => True
  | r, x :: l => x.e % 64 = r ∧ Incr (r + 1) l
theorem incr_ge : ∀ {l : List RowD} {r : Nat}, Incr r l → ∀ x ∈ l, r ≤ x.e % 64
  | [], _, _, x, h => by simp at h
  | y :: l, r, h, x, hx => by
    rcases List.mem_cons.1 hx with rfl | hx
    · exact Nat.le_of_eq h.1.symm
    · exact Nat.le_of_succ_le (incr_ge h.2 x hx)
theorem findR_of : ∀ {l : List RowD} {r : Nat}, Incr r l → ∀ x ∈ l, findR l x.e = some x
  | [], _, _, x, h => by simp at h
  | y :: l, r, h, x, hx => by
    simp only [findR]
    rcases List.mem_cons.1 hx with rfl | hx
    · rw [if_pos rfl]
    · have := incr_ge h.2 x hx
      rw [if_neg (fun e => by have h1 := h.1; rw [e] at h1; omega)]
      exact findR_of h.2 x hx
theorem addRows_ok {ρ : Env} : ∀ {rs : List RowV} {rows : List RowD} {K : Known}, K.ok ρ → RowsFit ρ rows rs → (∀ r ∈ rows, (isTxt r.e = false → ρ.g (rowF r.e 62) [] = true) ∧ ρ.f (rowF r.e 63) [] = r.n) → (addRows rs K).ok ρ
  | [], rows, K, hK, _, _ => hK
  | (e, v) :: rs, [], K, _, h, _ => h.elim
  | (e, v) :: rs, r :: rows, K, hK, h, hh => by
    obtain ⟨rfl, h2, h3, h4⟩ := h
    obtain ⟨g1, g2⟩ := hh r List.mem_cons_self
    simp only [addRows]
    cases ht : isTxt r.e with
    | true =>
      simp only [if_true]
      refine addRows_ok (rs := rs) (assume_ok _ true hK ?_) h4 fun x hx => hh x (List.mem_cons_of_mem _ hx)
      simp [X.B, X.I, cmpI, h2]
    | false =>
    simp only [Bool.false_eq_true, if_false]
    have g1 := g1 ht
    have h3 := h3 ht
    refine addRows_ok (rs := rs) ?_ h4 fun x hx => hh x (List.mem_cons_of_mem _ hx)
    refine assume_ok _ true (assume_ok _ true (assume_ok _ true (assume_ok _ true (assume_ok _ true hK g1) ?_) ?_) ?_) ?_
    · simp [X.B, X.I, X.L, cmpI, g2, h2]
    · simp [X.B, X.I, cmpI, h2]
    · simp only [X.B, X.I, cmpI, ge_iff_le, decide_eq_true_eq]; omega
    · simp only [X.B, X.I, cmpI]; exact decide_eq_true (by rw [h2]; exact h3)

section
variable {H : Type} {enc : TypeId × Value → H} {P : Program} {w : World} {r : Reach} {base : Nat}
/-- What an environment says of a row. -/
def RowEnv (ρ : Env) (x : RowD) : Prop :=
  ρ.x x.e = x.ext ∧ ρ.g (rowF x.e 61) [] = x.nil ∧ ∀ i : Nat, ρ.f (rowF x.e 0) [(i : Int)] = match rowAt x 0 i with
    | some (.int _ z) => z
    | _ => 0
def FlatOk (w : World) (c q : Nat) (x : FA) (cs : List Value) : Prop :=
  ∃ vs rows, IsAll x.2.1 vs ∧ (∀ y ∈ rows, RowD.inW y w) ∧ Incr q rows ∧ rows.length = x.2.2.length ∧
    ∀ (ρ : Env) (β : Nat → Nat), FitAll ρ x.2.1 c vs → RowsFit ρ rows x.2.2 ∧ ((∀ y ∈ rows, RowEnv ρ y) → x.1.map (SC.den ρ β) = cs)
theorem rowsFit_append {ρ : Env} : ∀ {a b : List RowD} {c d : List RowV}, RowsFit ρ a c → RowsFit ρ b d → RowsFit ρ (a ++ b) (c ++ d)
  | [], _, [], _, _, h => h
  | [], _, _ :: _, _, h, _ => h.elim
  | _ :: _, _, [], _, h, _ => h.elim
  | _ :: _, _, (_, _) :: _, _, h, k => ⟨h.1, h.2.1, h.2.2.1, rowsFit_append h.2.2.2 k⟩
theorem incr_append : ∀ {a b : List RowD} {q : Nat}, Incr q a → Incr (q + a.length) b → Incr q (a ++ b)
  | [], b, q, _, h => by simpa using h
  | x :: a, b, q, h, k => ⟨h.1, incr_append h.2 (by rw [show q + 1 + a.length = q + (x :: a).length by simp only [List.length_cons]; omega]; exact k)⟩
theorem FlatOk.nil (c q : Nat) : FlatOk w c q ([], [], []) [] :=
  ⟨[], [], rfl, fun x hx => by simp at hx, trivial, rfl, fun ρ β _ => ⟨trivial, fun _ => rfl⟩⟩
theorem FlatOk.append {c q : Nat} {x y : FA} {cs ds : List Value} (h : FlatOk w c q x cs) (k : FlatOk w (c + x.2.1.length) (q + x.2.2.length) y ds) : FlatOk w c q (x.1 ++ y.1, x.2.1 ++ y.2.1, x.2.2 ++ y.2.2) (cs ++ ds) := by
  obtain ⟨v1, r1, a1, a2, a3, a4, a5⟩ := h
  obtain ⟨v2, r2, b1, b2, b3, b4, b5⟩ := k
  refine ⟨v1 ++ v2, r1 ++ r2, a1.append b1, fun z hz => ?_, incr_append a3 (by rw [a4]; exact b3), by simp [a4, b4], fun ρ β hf => ?_⟩
  · rcases List.mem_append.1 hz with hz | hz
    · exact a2 z hz
    · exact b2 z hz
  · obtain ⟨u1, u2, e, f1, f2⟩ := hf.split
    have hlen : u1.length = v1.length := by rw [f1.len, a1.len]
    obtain ⟨rfl, rfl⟩ := List.append_inj e hlen.symm
    obtain ⟨g1, g2⟩ := a5 ρ β f1
    obtain ⟨k1, k2⟩ := b5 ρ β f2
    refine ⟨rowsFit_append g1 k1, fun hx => ?_⟩
    simp only [List.map_append]
    rw [g2 fun z hz => hx z (List.mem_append_left _ hz), k2 fun z hz => hx z (List.mem_append_right _ hz)]

theorem text_ok {c q : Nat} (hq : q + 1 ≤ 60) (s : ByteArray) (hs : s.size ≤ maxLen) : FlatOk w c q ([.str [.xt (640 + q) (.lit 0) (.iv c)]], [.i .i64], [(640 + q, c)]) [.string s] := by
  have ht : isTxt (640 + q) = true := by
    have : (640 + q) / 64 = 10 := by omega
    simp [isTxt, this]
  refine ⟨[.int .i64 s.size], [⟨640 + q, ⟨⟨0, 0, none⟩, .cells (s.data.toList.map fun b => Value.int .u8 (b.toNat : Int)).toArray 0 (0, 0)⟩, s.size, false⟩], ?_, ?_, ⟨by simp only; omega, trivial⟩, rfl, ?_⟩
  · have : (s.size : Int) ≤ 9223372036854775807 := by unfold maxLen at hs; omega
    exact ⟨_, _, rfl, ⟨s.size, rfl, by simp only [kLo]; omega, by simp only [kHi]; omega⟩, rfl⟩
  · intro y hy
    simp only [List.mem_singleton] at hy
    subst hy
    have no : ∀ {p : Prop}, isTxt (640 + q) = false → p := fun h => absurd (ht.symm.trans h) (by decide)
    exact ⟨fun h => no h, fun h => no h, fun h => no h⟩
  · intro ρ β hf
    obtain ⟨v1, l1, e1, f1, e3⟩ := hf
    simp only [List.cons.injEq] at e1; obtain ⟨rfl, rfl⟩ := e1
    simp only [LK.fits, Value.int.injEq, true_and] at f1
    refine ⟨⟨rfl, by rw [← f1.1], (fun h => absurd (ht.symm.trans h) (by decide)), trivial⟩, fun hx => ?_⟩
    obtain ⟨x1, x2, x3⟩ := hx _ (List.mem_singleton.2 rfl)
    simp only at x3
    have hk : (ksOf (640 + q)).length = 1 := by
      have : (640 + q) / 64 = 10 := by omega
      unfold ksOf; rw [this]; rfl
    have key : ∀ i : Nat, i < s.size → b8 (ρ.f (rowF (640 + q) 0) [(0 : Int) + (i : Int)]) = s.data.toList.getD i 0 := by
      intro i hi
      have hi' : i < s.data.toList.length := by simpa using hi
      have hadd : (⟨0, 0, none⟩ : Addr).add i = ⟨0, i, none⟩ := by rw [addr_add]; simp
      rw [Int.zero_add, x3 i]
      simp only [rowAt, hk, Int.toNat_natCast, Nat.mul_one, Nat.add_zero, hadd, cellO]
      have : (s.data.toList.map fun b => Value.int .u8 (b.toNat : Int)).toArray[i]? = some (.int .u8 ((s.data.toList[i]'hi').toNat : Int)) := by
        rw [List.getElem?_toArray, List.getElem?_map, List.getElem?_eq_getElem hi']; rfl
      simp only [Option.isSome_none, Bool.false_eq_true, if_false, this]
      rw [show ((s.data.toList[i]'hi').toNat : Int) = Int.ofNat (s.data.toList[i]'hi').toNat from rfl, b8_of]
      rw [List.getD_eq_getElem?_getD, List.getElem?_eq_getElem hi']; rfl
    simp only [List.map_cons, List.map_nil, SC.den, segsD, Seg.den, X.I, ← f1.1, Int.toNat_natCast, List.append_nil, List.cons.injEq, and_true]
    have e : (List.range s.size).map (fun (i : Nat) => b8 (ρ.f (rowF (640 + q) 0) [(0 : Int) + (i : Int)])) = s.data.toList := by
      apply List.ext_getElem?
      intro i
      by_cases hi : i < s.size
      · have hi' : i < s.data.toList.length := by simpa using hi
        rw [List.getElem?_map, List.getElem?_range hi, Option.map_some, key i hi, List.getD_eq_getElem?_getD, List.getElem?_eq_getElem hi']
        rfl
      · rw [List.getElem?_eq_none (by simp only [List.length_map, List.length_range]; omega), List.getElem?_eq_none (by simp; simpa using hi)]
    rw [e]

theorem slice_ok {el : TypeId} {ks' : List LK} {c q : Nat} (hk : flatK P 20 el = some ks') (c1 : ksOf (encK ks' * 64 + q) = ks') (c2 : P.cellsOf el = ks'.length) (c3 : q + 1 ≤ 60) (c4 : ks'.length ≤ 59) (c5 : 1 ≤ ks'.length)
    {t : TypeId} (hu : P.underlying t = some (.slice el)) {fuel : Nat} {cs : List Value} {x : DataW H × List MemPlace} (hf : DataW.trod enc P w 0 (fun _ => true) true fuel t cs = some x) :
    FlatOk w c q ([.xs (encK ks' * 64 + q) (.lit 0) (.iv c) (.iv (c + 1))], [.i .i64, .i .i64], [(encK ks' * 64 + q, c)]) cs := by
  have hfew : (ksOf (encK ks' * 64 + q)).length ≤ 59 := by rw [c1]; exact c4
  rcases Deep.open_slice hu hf with ⟨h0, _⟩ | ⟨a', len, cap, m, n, D, Pl, h0, _, hlc, hcap, hm, _, hel⟩
  · subst h0
    refine ⟨[.int .i64 0, .int .i64 0], [⟨encK ks' * 64 + q, ⟨⟨0, 0, none⟩, .cells #[] 0 (0, 0)⟩, 0, true⟩], ?_, ?_, ⟨by simp only; omega, trivial⟩, rfl, fun ρ β hfit => ?_⟩
    · exact ⟨_, _, rfl, ⟨0, rfl, by decide, by decide⟩, _, _, rfl, ⟨0, rfl, by decide, by decide⟩, rfl⟩
    · intro x hx
      simp only [List.mem_singleton] at hx
      subst hx
      exact ⟨fun _ => hfew, fun _ hh => absurd hh (Nat.lt_irrefl 0), fun _ i hi => absurd hi (Nat.not_lt_zero i)⟩
    · obtain ⟨v1, l1, e1, f1, v2, l2, e2, f2, e3⟩ := hfit
      simp only [List.cons.injEq] at e1; obtain ⟨rfl, rfl⟩ := e1
      simp only [List.cons.injEq] at e2; obtain ⟨rfl, rfl⟩ := e2
      simp only [LK.fits, Value.int.injEq, true_and] at f1 f2
      refine ⟨⟨rfl, by rw [← f1.1]; rfl, fun _ => by rw [← f2.1]; simp, trivial⟩, fun hx => ?_⟩
      have := (hx _ (List.mem_singleton.2 rfl)).2.1
      simp only at this
      simp only [List.map_cons, List.map_nil, SC.den, X.I, this, if_true, ← f1.1, ← f2.1, Int.toNat_zero]
  · subst h0
    simp only [if_true] at hm
    subst hm
    have hmax : (len : Int) ≤ 9223372036854775807 ∧ (m : Int) ≤ 9223372036854775807 := by unfold maxLen at hcap; omega
    refine ⟨[.int .i64 len, .int .i64 m], [⟨encK ks' * 64 + q, ⟨a', (w.heap[a'.block]?).getD (.cells #[] 0 (0, 0))⟩, len, false⟩], ?_, ?_, ⟨by simp only; omega, trivial⟩, rfl, fun ρ β hfit => ?_⟩
    · exact ⟨_, _, rfl, ⟨len, rfl, by simp only [kLo]; omega, by simp only [kHi]; omega⟩, _, _, rfl, ⟨m, rfl, by simp only [kLo]; omega, by simp only [kHi]; omega⟩, rfl⟩
    · intro x hx
      simp only [List.mem_singleton] at hx
      subst hx
      have cell : ∀ i, i < len → ∀ j k, ks'[j]? = some k → ∃ v, w.cell? (a'.add (i * ks'.length + j)) = some v ∧ k.is v := by
        intro i hi j k hj
        obtain ⟨cs', h1, h2⟩ := hel i (by omega)
        have hall := flat_is hk h2
        obtain ⟨v, hv, hkv⟩ := isAll_get hall hj
        obtain ⟨_, hcl, hat⟩ := World.cells?_some h1
        have hjl : j < P.cellsOf el := by rw [c2]; exact (List.getElem?_eq_some_iff.1 hj).1
        have := hat j hjl
        rw [Deep.add_add, hv, c2] at this
        exact ⟨v, this, hkv⟩
      have same : ∀ {b : Obj}, w.heap[a'.block]? = some b → ∀ k, cellO b (a'.add k) = w.cell? (a'.add k) := by
        intro b hb k
        have hbk : (a'.add k).block = a'.block := by unfold Addr.add; split <;> rfl
        unfold World.cell?
        rw [hbk, hb]
        unfold cellO
        cases b <;> rfl
      refine ⟨fun _ => hfew, fun _ hn => ⟨?_, rfl⟩, fun _ i hi j k hj => ?_⟩
      · obtain ⟨v, hv, _⟩ := cell 0 hn 0 _ (List.getElem?_eq_getElem (show 0 < ks'.length by omega))
        have hbk : (a'.add (0 * ks'.length + 0)).block = a'.block := by unfold Addr.add; split <;> rfl
        cases hb : w.heap[a'.block]? with
        | none => simp only [World.cell?, hbk, hb] at hv; cases hv
        | some b => rw [Option.getD_some]
      · rw [c1] at hj ⊢
        obtain ⟨v, hv, hkv⟩ := cell i hi j k hj
        refine ⟨v, ?_, hkv⟩
        have hbk : (a'.add (i * ks'.length + j)).block = a'.block := by unfold Addr.add; split <;> rfl
        cases hb : w.heap[a'.block]? with
        | none => simp only [World.cell?, hbk, hb] at hv; cases hv
        | some b => rw [Option.getD_some, same hb]; exact hv
    · obtain ⟨v1, l1, e1, f1, v2, l2, e2, f2, e3⟩ := hfit
      simp only [List.cons.injEq] at e1; obtain ⟨rfl, rfl⟩ := e1
      simp only [List.cons.injEq] at e2; obtain ⟨rfl, rfl⟩ := e2
      simp only [LK.fits, Value.int.injEq, true_and] at f1 f2
      refine ⟨⟨rfl, by rw [← f1.1], fun _ => by rw [← f2.1]; exact Int.ofNat_le.2 hlc, trivial⟩, fun hx => ?_⟩
      obtain ⟨x1, x2, _⟩ := hx _ (List.mem_singleton.2 rfl)
      simp only at x1 x2
      simp [SC.den, X.I, x1, x2, ← f1.1, ← f2.1, Addr.add]

theorem seqA_ok {rec : TypeId → Nat → Nat → Option FA} {cs : List Value} : ∀ {fs : List Field} {o c q : Nat} {x : FA}, seqA P rec fs o c q = some x → o + x.1.length = cs.length →
    (∀ (i : Nat) (f : Field), fs[i]? = some f → ∀ c q y, rec f.type c q = some y → FlatOk w c q y ((cs.drop f.offset).take (P.cellsOf f.type))) → FlatOk w c q x (cs.drop o)
  | [], o, c, q, x, h, hl, _ => by
    simp only [seqA] at h; cases h
    simp only [List.length_nil, Nat.add_zero] at hl
    subst hl
    rw [List.drop_length]; exact FlatOk.nil c q
  | f :: fs, o, c, q, x, h, hl, hf => by
    simp only [seqA] at h
    split at h
    · rename_i x1 ks rs h1
      split at h
      · rename_i hc
        split at h
        · rename_i y ks' rs' h2
          cases h
          simp only [Bool.and_eq_true, len_eq] at hc h2
          have e1 := Nat.eq_of_beq_eq_true hc.1
          have e2 := Nat.eq_of_beq_eq_true hc.2
          have h0 := hf 0 f rfl c q _ h1
          rw [e1, ← e2] at h0
          have := seqA_ok (cs := cs) h2 (by simp only [List.length_append] at hl ⊢; omega) fun i g hg => hf (i + 1) g (by simpa using hg)
          rw [show cs.drop o = (cs.drop o).take x1.length ++ cs.drop (o + x1.length) by have := (List.take_append_drop x1.length (cs.drop o)).symm; rwa [List.drop_drop] at this]
          exact FlatOk.append (x := (x1, ks, rs)) (y := (y, ks', rs')) h0 this
        · cases h
      · cases h
    · cases h
theorem repA_ok {rec : Nat → Nat → Option FA} {m : Nat} {cs : List Value} : ∀ {n j c q : Nat} {x : FA}, repA rec m n c q = some x → j * m + x.1.length = cs.length →
    (∀ i, i < n → ∀ c q y, rec c q = some y → FlatOk w c q y ((cs.drop ((j + i) * m)).take m)) → FlatOk w c q x (cs.drop (j * m))
  | 0, j, c, q, x, h, hl, _ => by
    simp only [repA] at h; cases h
    simp only [List.length_nil, Nat.add_zero] at hl
    rw [hl, List.drop_length]; exact FlatOk.nil c q
  | n + 1, j, c, q, x, h, hl, hf => by
    simp only [repA] at h
    split at h
    · rename_i x1 ks rs h1
      split at h
      · rename_i hc
        split at h
        · rename_i y ks' rs' h2
          cases h
          simp only [len_eq] at hc h2
          have e1 := Nat.eq_of_beq_eq_true hc
          have h0 := hf 0 (by omega) c q _ h1
          rw [Nat.add_zero] at h0
          have := repA_ok (cs := cs) (j := j + 1) h2 (by simp only [List.length_append] at hl ⊢; rw [Nat.add_mul]; omega) fun i hi c q y hy => by
            have := hf (i + 1) (by omega) c q y hy
            rwa [show j + 1 + i = j + (i + 1) by omega]
          rw [show cs.drop (j * m) = (cs.drop (j * m)).take m ++ cs.drop ((j + 1) * m) by have := (List.take_append_drop m (cs.drop (j * m))).symm; rw [List.drop_drop] at this; rwa [Nat.add_mul, Nat.one_mul]]
          exact FlatOk.append (x := (x1, ks, rs)) (y := (y, ks', rs')) h0 this
        · cases h
      · cases h
    · cases h

theorem flatA_is : ∀ {d : Nat} {t : TypeId} {c q : Nat} {y : FA} {fuel : Nat} {cs : List Value} {x : DataW H × List MemPlace}, flatA P d t c q = some y → DataW.trod enc P w 0 (fun _ => true) true fuel t cs = some x → FlatOk w c q y cs
  | 0, _, _, _, _, _, _, _, h, _ => by simp [flatA] at h
  | d + 1, t, c, q, y, fuel, cs, x, h, ht => by
    simp only [flatA] at h
    split at h
    · rename_i k hu
      cases h
      obtain ⟨n, rfl, _, hw⟩ := DataW.trod_int hu ht
      refine ⟨[.int k n], [], ⟨_, [], rfl, ⟨n, rfl, lit_in hw⟩, rfl⟩, fun x hx => by simp at hx, trivial, rfl, fun ρ β hf => ⟨trivial, fun _ => ?_⟩⟩
      obtain ⟨v1, l1, e1, f1, _⟩ := hf
      cases e1
      simp only [LK.fits] at f1
      rw [f1.1]; rfl
    · rename_i hu
      cases h
      obtain ⟨b, rfl, _⟩ := DataW.trod_bool hu ht
      refine ⟨[.bool b], [], ⟨_, [], rfl, ⟨b, rfl⟩, rfl⟩, fun x hx => by simp at hx, trivial, rfl, fun ρ β hf => ⟨trivial, fun _ => ?_⟩⟩
      obtain ⟨v1, l1, e1, f1, _⟩ := hf
      cases e1
      simp only [LK.fits] at f1
      rw [f1]; rfl
    · rename_i hu
      split at h
      · rename_i hq
        cases h
        simp only [Nat.ble_eq] at hq
        obtain ⟨s, rfl, _, hs⟩ := DataW.trod_string hu ht
        exact text_ok hq s hs
      · cases h
    · rename_i el hu
      split at h
      · rename_i ks' hk
        split at h
        · rename_i hc
          cases h
          simp only [Bool.and_eq_true, Nat.ble_eq, len_eq, Bool.not_eq_true'] at hc
          obtain ⟨⟨⟨⟨⟨c1, c2⟩, c3⟩, c4⟩, c5⟩, c6⟩ := hc
          exact slice_ok hk (lkB_eq c1) (Nat.eq_of_beq_eq_true c2) c3 c4 c5 hu ht
        · cases h
      · cases h
    · rename_i fs hu
      split at h
      · rename_i x1 ks rs h1
        split at h
        · rename_i hc
          cases h
          have hc := Nat.eq_of_beq_eq_true hc
          rw [len_eq] at hc
          obtain ⟨xs, n, _, _, hlen, hxl, hf⟩ := DataW.trod_struct hu ht
          have := seqA_ok (w := w) (cs := cs) h1 (by simp only; omega) fun i f hif c q y hy => by
            have h2 := hf i f (by simpa using hif)
            have hlt : i < fs.size := by simpa using (List.getElem?_eq_some_iff.1 hif).1
            rw [List.getElem?_eq_getElem (by omega)] at h2
            exact flatA_is hy h2
          simpa using this
        · cases h
      · cases h
    · rename_i n e hu
      split at h
      · rename_i x1 ks rs h1
        split at h
        · rename_i hc
          cases h
          have hc := Nat.eq_of_beq_eq_true hc
          rw [len_eq] at hc
          obtain ⟨xs, m, _, _, hlen, hxl, hf⟩ := DataW.trod_array hu ht
          have := repA_ok (w := w) (cs := cs) (j := 0) h1 (by simp only; omega) fun i hi c q y hy => by
            have h2 := hf i hi
            rw [List.getElem?_eq_getElem (by omega)] at h2
            rw [Nat.zero_add]
            exact flatA_is hy h2
          simpa using this
        · cases h
      · cases h
    · cases h

theorem argR_is {t : TypeId} {c q : Nat} {s : SV} {ks : List LK} {rs : List RowV} (ht : argR P t c q = some (s, ks, rs)) {v : Value} {d : DataW H} {p : List MemPlace} (h : Value.okWide P w r base t v) (hd : DataW.Trod enc P w 0 (fun _ => true) true t v d p) :
    ∃ vs rows, IsAll ks vs ∧ (∀ x ∈ rows, RowD.inW x w) ∧ Incr q rows ∧ rows.length = rs.length ∧
      ∀ (ρ : Env) (β : Nat → Nat), FitAll ρ ks c vs → RowsFit ρ rows rs ∧ ((∀ x ∈ rows, RowEnv ρ x) → s.den ρ β = v) := by
  unfold argR at ht
  split at ht
  · rename_i x ks' rs' hx
    obtain ⟨fuel, hf⟩ := hd
    obtain ⟨vs, rows, a1, a2, a3, a4, a5⟩ := flatA_is hx hf
    have agg : (∃ cs, v = .agg cs) → s = .agg x → ks = ks' → rs = rs' → ∃ vs rows, IsAll ks vs ∧ (∀ x ∈ rows, RowD.inW x w) ∧ Incr q rows ∧ rows.length = rs.length ∧
        ∀ (ρ : Env) (β : Nat → Nat), FitAll ρ ks c vs → RowsFit ρ rows rs ∧ ((∀ x ∈ rows, RowEnv ρ x) → s.den ρ β = v) := by
      rintro ⟨cs, rfl⟩ rfl rfl rfl
      refine ⟨vs, rows, a1, a2, a3, a4, fun ρ β hf => ⟨(a5 ρ β hf).1, fun hx => ?_⟩⟩
      have := (a5 ρ β hf).2 hx
      simp only [Value.cells] at this
      simp only [SV.den, this]
    have one : ∀ {y : SC} {s0 : SV}, v.cells = #[v] → x = [y] → s0 = .c y → s = s0 → ks = ks' → rs = rs' → ∃ vs rows, IsAll ks vs ∧ (∀ x ∈ rows, RowD.inW x w) ∧ Incr q rows ∧ rows.length = rs.length ∧
        ∀ (ρ : Env) (β : Nat → Nat), FitAll ρ ks c vs → RowsFit ρ rows rs ∧ ((∀ x ∈ rows, RowEnv ρ x) → s.den ρ β = v) := by
      rintro y s0 hv rfl rfl rfl rfl rfl
      refine ⟨vs, rows, a1, a2, a3, a4, fun ρ β hf => ⟨(a5 ρ β hf).1, fun hx => ?_⟩⟩
      have := (a5 ρ β hf).2 hx
      rw [hv] at this
      simpa [SV.den] using this
    split at ht
    · rename_i fs hu
      cases ht
      simp only [Value.okWide, hu] at h
      obtain ⟨cs, rfl, _⟩ := h
      exact agg ⟨cs, rfl⟩ rfl rfl rfl
    · rename_i n e hu
      cases ht
      simp only [Value.okWide, hu] at h
      obtain ⟨cs, rfl, _⟩ := h
      exact agg ⟨cs, rfl⟩ rfl rfl rfl
    · rename_i k hu
      split at ht
      · cases ht
        obtain ⟨n, rfl⟩ := okWide_int hu h
        exact one rfl rfl rfl rfl rfl rfl
      · cases ht
    · rename_i hu
      split at ht
      · cases ht
        obtain ⟨n, rfl⟩ := okWide_bool hu h
        exact one rfl rfl rfl rfl rfl rfl
      · cases ht
    · rename_i hu
      split at ht
      · cases ht
        obtain ⟨s, rfl⟩ := okWide_string hu h
        exact one rfl rfl rfl rfl rfl rfl
      · cases ht
    · rename_i el hu
      split at ht
      · cases ht
        obtain ⟨a, ln, cp, rfl⟩ := okWide_slice hu h
        exact one rfl rfl rfl rfl rfl rfl
      · cases ht
    · cases ht
  · cases ht

theorem argRs_is : ∀ {ts : List TypeId} {c q : Nat} {ss : List SV} {ks : List LK} {rs : List RowV}, argRs P ts c q = some (ss, ks, rs) → ∀ {vs : List Value} {ds : List (DataW H)} {p : List MemPlace}, (∀ (j : Nat) (t : TypeId) (v : Value), ts[j]? = some t → vs[j]? = some v → Value.okWide P w r base t v) →
    DataW.TrodAll enc P w 0 (fun _ => true) true ts vs ds p →
    ∃ cells rows, IsAll ks cells ∧ (∀ x ∈ rows, RowD.inW x w) ∧ Incr q rows ∧ rows.length = rs.length ∧
      ∀ (ρ : Env) (β : Nat → Nat), FitAll ρ ks c cells → RowsFit ρ rows rs ∧ ((∀ x ∈ rows, RowEnv ρ x) → ss.map (SV.den ρ β) = vs)
  | [], c, q, ss, ks, rs, h, vs, ds, p, _, hd => by
    simp only [argRs] at h; cases h
    obtain ⟨rfl, _, _⟩ := trodAll_nil hd
    exact ⟨[], [], rfl, fun x hx => by simp at hx, trivial, rfl, fun ρ β _ => ⟨trivial, fun _ => rfl⟩⟩
  | t :: ts, c, q, ss, ks, rs, h, vs, ds, p, hv, hd => by
    obtain ⟨v, vs', d, ds', p1, p2, rfl, rfl, rfl, h1, h2⟩ := trodAll_cons hd
    simp only [argRs] at h
    split at h
    · rename_i s ks1 rv hs
      split at h
      · rename_i ss2 ks2 rs2 hr
        cases h
        simp only [len_eq] at hr
        obtain ⟨c1, r1, a1, a2, a3, a4, a5⟩ := argR_is hs (hv 0 t v rfl rfl) h1
        obtain ⟨c2, r2, b1, b2, b3, b4, b5⟩ := argRs_is hr (vs := vs') (fun j u x hu hx => hv (j + 1) u x (by simpa using hu) (by simpa using hx)) h2
        refine ⟨c1 ++ c2, r1 ++ r2, a1.append b1, fun x hx => ?_, incr_append a3 (by rw [a4]; exact b3), by simp [a4, b4], fun ρ β hf => ?_⟩
        · rcases List.mem_append.1 hx with hx | hx
          · exact a2 x hx
          · exact b2 x hx
        · obtain ⟨v1, v2, e, f1, f2⟩ := hf.split
          have hlen : v1.length = c1.length := by rw [f1.len, a1.len]
          obtain ⟨rfl, rfl⟩ := List.append_inj e hlen.symm
          obtain ⟨g1, g2⟩ := b5 ρ β f2
          obtain ⟨k1, k2⟩ := a5 ρ β f1
          refine ⟨rowsFit_append k1 g1, fun hx => ?_⟩
          simp only [List.map_cons, k2 (fun x h => hx x (List.mem_append_left _ h)), g2 fun x h => hx x (List.mem_append_right _ h)]
      · cases h
    · cases h

/-- The environment of a call with rows. -/
theorem rows_env {ts : List TypeId} {ss : List SV} {ks : List LK} {rs : List RowV} (hts : argRs P ts 0 0 = some (ss, ks, rs)) (f0 : List RowD → Nat → List Int → Int) (g0 : List RowD → Nat → List Int → Bool) {vs : List Value} {ds : List (DataW H)} {p : List MemPlace}
    (hv : ∀ (j : Nat) (t : TypeId) (v : Value), ts[j]? = some t → vs[j]? = some v → Value.okWide P w r base t v) (hd : DataW.TrodAll enc P w 0 (fun _ => true) true ts vs ds p) :
    ∃ rows cells, (∀ x ∈ rows, RowD.inW x w) ∧ Incr 0 rows ∧ (addRows rs ⟨ks.map LK.rg, []⟩).ok (envR rows (f0 rows) (g0 rows) cells) ∧ RowsIn (envR rows (f0 rows) (g0 rows) cells) w ∧ ∀ β, ss.map (SV.den (envR rows (f0 rows) (g0 rows) cells) β) = vs := by
  obtain ⟨cells, rows, h1, h2, h3, _, h4⟩ := argRs_is hts hv hd
  have hf0 := fitAll_env (fR rows (f0 rows)) (gR rows (g0 rows)) (pre := []) h1
  simp only [List.nil_append, List.length_nil] at hf0
  have fit2 : ∀ {ks : List LK} {c : Nat} {vs : List Value}, FitAll (envOf (fR rows (f0 rows)) (gR rows (g0 rows)) cells) ks c vs → FitAll (envR rows (f0 rows) (g0 rows) cells) ks c vs := by
    intro ks
    induction ks with
    | nil => intro c vs h; exact h
    | cons k ks ih =>
      intro c vs h
      obtain ⟨v, l, e, a1, a2⟩ := h
      exact ⟨v, l, e, by cases k <;> exact a1, ih a2⟩
  have hf := fit2 hf0
  have hk := known_env (ρ := envR rows (f0 rows) (g0 rows) cells) ⟨fun n => rfl, fun e => fit_row h2 e⟩ hf
  obtain ⟨g1, g2⟩ := h4 _ (fun _ => 0) hf
  have hfind : ∀ x ∈ rows, findR rows x.e = some x := fun x hx => findR_of h3 x hx
  refine ⟨rows, cells, h2, h3, addRows_ok hk g1 fun x hx => ⟨fun ht => gR_has.2 ⟨x, hfind x hx, ht⟩, fR_len (hfind x hx)⟩, rows_in h2, fun β => (h4 _ β hf).2 fun x hx => ⟨by simp [envR, xR, hfind x hx], gR_nil (hfind x hx), fun i => ?_⟩⟩
  obtain ⟨k1, k2, k3⟩ := code_e x.e 0 (by omega)
  show fR rows (f0 rows) (rowF x.e 0) [(i : Int)] = _
  simp only [fR, k1, k2, k3, hfind x hx, if_false, if_neg (show ¬ (0 : Nat) = 63 by omega)]

/-- A function with slices among its arguments that answers true, whatever they are; case by case. -/
theorem rows_plan (hm : P.follows .mixedOrders = true) {sums : List Sm} (hS : SumsOk P sums) {fn : FuncId} {ts : List TypeId} {ss : List SV} {ks : List LK} {rs : List RowV} (hts : argRs P ts 0 0 = some (ss, ks, rs)) {q fuel big n : Nat}
    (hp : ∀ ρ, (addRows rs ⟨ks.map LK.rg, []⟩).ok ρ → ∃ K d, K.ok ρ ∧ (tree P q (sumsIn sums) fuel fn ss bare d K).prove big n K = true)
    {args : Array Value} {ds : List (DataW H)} {p : List MemPlace} (hv : ∀ (j : Nat) (t : TypeId) (v : Value), ts[j]? = some t → args[j]? = some v → Value.okWide P w r base t v)
    (hd : DataW.TrodAll enc P w 0 (fun _ => true) true ts args.toList ds p) :
    Calls P fn args w fun e w' => (∃ v, e = .returned v ∧ v = .bool true) ∧ RowKit.Below w.heap.size w w' := by
  obtain ⟨rows, cells, _, _, hk, hin, ha⟩ := rows_env hts (fun _ _ _ => 0) (fun _ _ _ => false) (fun j t v ht hv' => hv j t v ht (by simpa using hv')) hd
  obtain ⟨K, d, hK, ht⟩ := hp _ hk
  have := tree_ok hm (hS _) (q := q) (fuel := fuel) (f := fn) (args := ss) w hin d K hK (Tree.free_of_prove ht)
  rw [ha] at this
  exact Calls.mono this fun e w' h => ⟨⟨_, h.1, Tree.prove_ok hK ht⟩, h.2⟩
end
end Go.Sx
