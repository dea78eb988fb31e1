import Derived.Test.YtdgjenlejalgeaaBl6
namespace Go.Proofs.Ytdgjenlejalgeaa
open Go.RowKit Go.Sx
def bv (x : Int) : BitVec 8 := BitVec.ofInt 8 x
theorem u8w (z : BitVec 8) : IntKind.u8.wrap (z.toNat : Int) = (z.toNat : Int) := by
  have := z.isLt
  unfold IntKind.wrap
  simp [IntKind.signed, IntKind.bits]
  omega
theorem bits_a (x y : Int) : bits BinOp.and IntKind.u8 x y = ((bv x &&& bv y).toNat : Int) := u8w _
theorem bits_o (x y : Int) : bits BinOp.or IntKind.u8 x y = ((bv x ||| bv y).toNat : Int) := u8w _
theorem bits_n (x y : Int) : bits BinOp.andNot IntKind.u8 x y = ((bv x &&& ~~~ bv y).toNat : Int) := u8w _
theorem bv_nat (z : BitVec 8) : bv (z.toNat : Int) = z := by unfold bv; simp
theorem nat_inj {y z : BitVec 8} : ((y.toNat : Int) = (z.toNat : Int)) ↔ y = z := by
  constructor
  · intro h; exact BitVec.eq_of_toNat_eq (by omega)
  · rintro rfl; rfl
def AB (x y : By) : Prop := x.s = y.s ∧ (x.s = true ∨ x.v = y.v)
def AF (f g : Fl) : Prop := f.s = g.s ∧ N8 f.p f.s = N8 g.p g.s
theorem af_bit {f g : Fl} (h : AF f g) (i : Nat) : ((bv f.p).getLsbD i && !(bv f.s).getLsbD i) = ((bv g.p).getLsbD i && !(bv g.s).getLsbD i) := by
  obtain ⟨h1, h2⟩ := h
  unfold N8 at h2
  rw [bits_n, bits_n, nat_inj] at h2
  have := congrArg (fun z => z.getLsbD i) h2
  by_cases hi : i < 8
  · simpa [hi] using this
  · have e : ∀ z : BitVec 8, z.getLsbD i = false := fun z => BitVec.getLsbD_of_ge z i (by omega)
    simp [e]
theorem af_of {p s p' s' : Int} (hs : s = s') (h : ∀ i, ((bv p).getLsbD i && !(bv s).getLsbD i) = ((bv p').getLsbD i && !(bv s').getLsbD i)) : AF ⟨p, s⟩ ⟨p', s'⟩ := by
  refine ⟨hs, ?_⟩
  show N8 p s = N8 p' s'
  unfold N8
  rw [bits_n, bits_n, nat_inj]
  apply BitVec.eq_of_getLsbD_eq
  intro i hi
  simpa [hi] using h i
theorem put_bit (p bit : Int) (is : Bool) (i : Nat) : (bv (putI p bit is)).getLsbD i = (((bv p).getLsbD i && !((bv bit).getLsbD i && (bv 207).getLsbD i)) || (is && ((bv bit).getLsbD i && (bv 207).getLsbD i))) := by
  have big : ∀ z : BitVec 8, ¬ i < 8 → z.getLsbD i = false := fun z h => BitVec.getLsbD_of_ge z i (by omega)
  unfold putI
  cases is
  · rw [if_neg (by simp)]
    unfold N8 A8
    rw [bits_n, bits_a, bv_nat, bv_nat]
    by_cases hi : i < 8
    · simp [hi]
    · simp [big _ hi]
  · rw [if_pos rfl]
    unfold O8 N8 A8
    rw [bits_o, bits_n, bits_a, bv_nat, bv_nat, bv_nat]
    by_cases hi : i < 8
    · simp [hi]
    · simp [big _ hi]
theorem and_bit (p q : Int) (i : Nat) : (bv (A8 p q)).getLsbD i = ((bv p).getLsbD i && (bv q).getLsbD i) := by
  unfold A8
  rw [bits_a, bv_nat]
  simp
theorem ni_set {f g : Fl} {x y : By} (bit : Int) (hf : AF f g) (hx : AB x y) : AF (setF f bit x) (setF g bit y) := by
  obtain ⟨fp, fs⟩ := f
  obtain ⟨gp, gs⟩ := g
  obtain ⟨hs, hb⟩ := hf
  simp only at hs
  subst hs
  obtain ⟨x1, x2⟩ := hx
  unfold setF
  refine af_of ?_ fun i => ?_
  · simp only [x1]
  · have h := af_bit (f := ⟨fp, fs⟩) (g := ⟨gp, fs⟩) ⟨rfl, hb⟩ i
    simp only at h ⊢
    rw [put_bit, put_bit, put_bit, put_bit, and_bit, and_bit, and_bit, ← x1]
    generalize (bv fp).getLsbD i = a at *
    generalize (bv gp).getLsbD i = b at *
    generalize (bv fs).getLsbD i = c at *
    generalize (bv bit).getLsbD i = d at *
    generalize (bv 207).getLsbD i = e at *
    rcases x2 with x2 | x2
    · rw [x2]
      generalize (x.v != 0) = u at *
      generalize (y.v != 0) = v at *
      revert h; cases a <;> cases b <;> cases c <;> cases d <;> cases e <;> cases u <;> cases v <;> decide
    · rw [x2]
      generalize (y.v != 0) = v at *
      generalize x.s = u at *
      revert h; cases a <;> cases b <;> cases c <;> cases d <;> cases e <;> cases u <;> cases v <;> decide
theorem pos_iff (p q : Int) : decide (0 < A8 p q) = true ↔ ∃ i, ((bv p).getLsbD i && (bv q).getLsbD i) = true := by
  rw [decide_eq_true_eq]
  have e : A8 p q = ((bv p &&& bv q).toNat : Int) := bits_a p q
  rw [e]
  constructor
  · intro h
    have hne : bv p &&& bv q ≠ 0#8 := by
      intro h0; rw [h0] at h; simp at h
    apply Classical.byContradiction
    intro hn
    apply hne
    apply BitVec.eq_of_getLsbD_eq
    intro i hi
    have := fun h' => hn ⟨i, h'⟩
    simpa using this
  · rintro ⟨i, hi⟩
    have hne : bv p &&& bv q ≠ 0#8 := by
      intro h0
      have := congrArg (fun z => z.getLsbD i) h0
      simp only [BitVec.getLsbD_and, hi] at this
      simp at this
    have : (bv p &&& bv q).toNat ≠ 0 := fun h => hne (BitVec.eq_of_toNat_eq (by simpa using h))
    omega
theorem pos_of {p p' q : Int} (h : ∀ i, (bv q).getLsbD i = true → (bv p).getLsbD i = (bv p').getLsbD i) : decide (0 < A8 p q) = decide (0 < A8 p' q) := by
  rw [Bool.eq_iff_iff, pos_iff, pos_iff]
  constructor
  · rintro ⟨i, hi⟩
    rw [Bool.and_eq_true] at hi
    exact ⟨i, by rw [← h i hi.2, hi.1, hi.2]; rfl⟩
  · rintro ⟨i, hi⟩
    rw [Bool.and_eq_true] at hi
    exact ⟨i, by rw [h i hi.2, hi.1, hi.2]; rfl⟩
theorem pos_false {p q : Int} (h : decide (0 < A8 p q) = false) (i : Nat) (hi : (bv q).getLsbD i = true) : (bv p).getLsbD i = false := by
  cases hp : (bv p).getLsbD i with
  | false => rfl
  | true =>
    have : decide (0 < A8 p q) = true := (pos_iff p q).2 ⟨i, by rw [hp, hi]; rfl⟩
    rw [this] at h; cases h
theorem low_bits {f g : Fl} (hf : AF f g) {q : Int} (h : decide (0 < A8 f.s q) = false) (i : Nat) (hi : (bv q).getLsbD i = true) : (bv f.p).getLsbD i = (bv g.p).getLsbD i := by
  have h1 := af_bit hf i
  have h2 := pos_false h i hi
  rw [← hf.1, h2] at h1
  simpa using h1
theorem ni_get {f g : Fl} (bit : Int) (hf : AF f g) : AB (getF f bit) (getF g bit) := by
  unfold getF
  refine ⟨by simp only [hf.1], ?_⟩
  simp only
  cases h : decide (0 < A8 f.s (A8 bit 207)) with
  | true => exact .inl rfl
  | false =>
    right
    rw [pos_of (fun i hi => low_bits hf h i hi)]
theorem ab_iff {x y : By} (h : AB x y) : x.s = y.s ∧ (x.s = false → x.v = y.v) := ⟨h.1, fun e => h.2.resolve_left (by rw [e]; simp)⟩
theorem any1 {x y : By} (h : AB x y) : anyB [x] = anyB [y] ∧ (anyB [x] = true ∨ x.v = y.v) := by
  obtain ⟨h1, h2⟩ := h
  simp only [anyB, List.any_cons, List.any_nil, Bool.or_false]
  exact ⟨h1, h2⟩
theorem any2 {x y x' y' : By} (h : AB x y) (h' : AB x' y') : anyB [x, x'] = anyB [y, y'] ∧ (anyB [x, x'] = true ∨ (x.v = y.v ∧ x'.v = y'.v)) := by
  obtain ⟨h1, h2⟩ := h
  obtain ⟨k1, k2⟩ := h'
  simp only [anyB, List.any_cons, List.any_nil, Bool.or_false]
  refine ⟨by rw [h1, k1], ?_⟩
  cases hx : x.s
  · cases hx' : x'.s
    · rw [hx] at h2; rw [hx'] at k2
      exact .inr ⟨h2.resolve_left (by simp), k2.resolve_left (by simp)⟩
    · exact .inl rfl
  · exact .inl rfl
theorem any3 {x y x' y' x'' y'' : By} (h : AB x y) (h' : AB x' y') (h'' : AB x'' y'') : anyB [x, x', x''] = anyB [y, y', y''] ∧ (anyB [x, x', x''] = true ∨ (x.v = y.v ∧ x'.v = y'.v ∧ x''.v = y''.v)) := by
  obtain ⟨h1, h2⟩ := h
  obtain ⟨k1, k2⟩ := any2 h' h''
  have e : ∀ (u : By) (l : List By), anyB (u :: l) = (u.s || anyB l) := fun u l => rfl
  rw [e, e y, k1, h1]
  refine ⟨rfl, ?_⟩
  cases hx : y.s
  · rw [h1, hx] at h2
    rcases k2 with k2 | k2
    · left; rw [← k1, k2]; rfl
    · exact .inr ⟨h2.resolve_left (by simp), k2⟩
  · exact .inl rfl
theorem ni_tr {c c' : Bool} {s s' : Bool} (hs : s = s') (h : s = true ∨ c = c') : AB ⟨trI c, s⟩ ⟨trI c', s'⟩ := ⟨hs, h.imp id fun e => by show trI c = trI c'; rw [e]⟩
theorem ni_nz {f g : Fl} {x y : By} (hf : AF f g) (hx : AB x y) : AF (nzF f x) (nzF g y) := by
  have h1 := any1 hx
  unfold nzF
  exact ni_set 2 (ni_set 128 hf (ni_tr h1.1 (h1.2.imp id fun e => by rw [e]))) (ni_tr h1.1 (h1.2.imp id fun e => by rw [e]))
theorem ni_lb {x y : By} (q : Int → Int) (hx : AB x y) : AB (lbF x (q x.v)) (lbF y (q y.v)) := by
  have h1 := any1 hx
  exact ⟨h1.1, h1.2.imp id fun e => by show A8 (q x.v) 1 = A8 (q y.v) 1; rw [e]⟩
theorem ni_sh {f g : Fl} {c d x y : By} (hf : AF f g) (hc : AB c d) (hx : AB x y) : AF (shF f c x) (shF g d y) := ni_nz (ni_set 1 hf hc) hx
theorem ni_asl {x y : By} (hx : AB x y) : AB (aslB x) (aslB y) := by
  have h1 := any1 hx
  exact ⟨h1.1, h1.2.imp id fun e => by show IntKind.u8.wrap (x.v * 2) = IntKind.u8.wrap (y.v * 2); rw [e]⟩
theorem ni_lsr {x y : By} (hx : AB x y) : AB (lsrB x) (lsrB y) := by
  have h1 := any1 hx
  exact ⟨h1.1, h1.2.imp id fun e => by show x.v / 2 = y.v / 2; rw [e]⟩
theorem ni_rol {f g : Fl} {x y : By} (hf : AF f g) (hx : AB x y) : AB (rolB f x) (rolB g y) := by
  have h1 := any2 hx (ni_get 1 hf)
  exact ⟨h1.1, h1.2.imp id fun e => by simp only [rolB, shB, e.1, e.2]⟩
theorem ni_ror {f g : Fl} {x y : By} (hf : AF f g) (hx : AB x y) : AB (rorB f x) (rorB g y) := by
  have h1 := any2 hx (ni_get 1 hf)
  exact ⟨h1.1, h1.2.imp id fun e => by simp only [rorB, shB, e.1, e.2]⟩
theorem ni_and {x y x' y' : By} (h : AB x y) (h' : AB x' y') : AB (andB x x') (andB y y') := by
  have h1 := any2 h h'
  exact ⟨h1.1, h1.2.imp id fun e => by simp only [andB, e.1, e.2]⟩
theorem ni_xor {x y x' y' : By} (h : AB x y) (h' : AB x' y') : AB (xorB x x') (xorB y y') := by
  have h1 := any2 h h'
  exact ⟨h1.1, h1.2.imp id fun e => by simp only [xorB, e.1, e.2]⟩
theorem ni_adcB {f g : Fl} {x y x' y' : By} (hf : AF f g) (h : AB x y) (h' : AB x' y') : AB (adcB f x x') (adcB g y y') := by
  have h1 := any3 h h' (ni_get 1 hf)
  refine ⟨h1.1, h1.2.imp id fun e => ?_⟩
  unfold adcB
  simp only [e.1, e.2.1, e.2.2]
theorem ni_adcF {f g : Fl} {x y x' y' : By} (hf : AF f g) (h : AB x y) (h' : AB x' y') : AF (adcF f x x') (adcF g y y') := by
  have h1 := any3 h h' (ni_get 1 hf)
  have hB := ni_adcB hf h h'
  have h2 := any1 hB
  have e : anyB [adcB f x x'] = anyB [x, x', getF f 1] := by simp only [anyB, adcB, List.any_cons, List.any_nil, Bool.or_false]
  unfold adcF
  refine ni_nz (ni_set 64 (ni_set 1 hf (ni_tr h2.1 ?_)) (ni_tr h2.1 ?_)) hB
  · rw [e]; exact h1.2.imp id fun e => by rw [e.1, e.2.1, e.2.2]
  · rw [e]; exact h1.2.imp id fun e => by rw [e.1, e.2.1, e.2.2]
theorem ni_sbxB {x y x' y' : By} (h : AB x y) (h' : AB x' y') : AB (sbxB x x') (sbxB y y') := by
  have h1 := any2 h h'
  refine ⟨h1.1, h1.2.imp id fun e => ?_⟩
  show (x.v - x'.v) % 256 = (y.v - y'.v) % 256
  rw [e.1, e.2]
theorem ni_sbxF {f g : Fl} {x y x' y' : By} (hf : AF f g) (h : AB x y) (h' : AB x' y') : AF (sbxF f x x') (sbxF g y y') := by
  have h1 := any2 h h'
  exact ni_nz (ni_set 1 hf (ni_tr h1.1 (h1.2.imp id fun e => by rw [e.1, e.2]))) (ni_sbxB h h')
theorem ni_bitF {f g : Fl} {x y x' y' : By} (hf : AF f g) (h : AB x y) (h' : AB x' y') : AF (bitF f x x') (bitF g y y') := by
  have hA := ni_and h h'
  have h1 := any1 hA
  exact ni_set 64 (ni_set 128 (ni_set 2 hf (ni_tr h1.1 (h1.2.imp id fun e => by rw [e]))) (ni_lb (fun q => q / 128) h')) (ni_lb (fun q => q / 64) h')
theorem ni_arrF {f g : Fl} {x y x' y' : By} (hf : AF f g) (h : AB x y) (h' : AB x' y') : AF (arrF f x x') (arrF g y y') := by
  have hA := ni_and h h'
  have hR := ni_ror hf hA
  exact ni_set 64 (ni_set 1 (ni_sh hf (ni_lb (fun q => q) hA) hR) (ni_lb (fun q => q / 64) hR)) (ni_xor (ni_lb (fun q => q / 64) hR) (ni_lb (fun q => q / 32) hR))
theorem ni_push {f g : Fl} (brk : Bool) (hf : AF f g) : AB (pushB f brk) (pushB g brk) := by
  unfold pushB
  refine ⟨by simp only [hf.1], ?_⟩
  simp only
  cases h : decide (0 < A8 f.s 207) with
  | true => exact .inl rfl
  | false =>
    right
    have e : A8 f.p 207 = A8 g.p 207 := by
      unfold A8
      rw [bits_a, bits_a, nat_inj]
      apply BitVec.eq_of_getLsbD_eq
      intro i hi
      rw [BitVec.getLsbD_and, BitVec.getLsbD_and]
      cases hq : (bv 207).getLsbD i with
      | false => simp
      | true => rw [low_bits hf h i hq]
    rw [e]
theorem ni_pull {x y : By} (h : AB x y) : AF (pullF x) (pullF y) := by
  unfold pullF
  obtain ⟨h1, h2⟩ := h
  rw [← h1]
  refine af_of rfl fun i => ?_
  rcases h2 with h2 | h2
  · rw [if_pos h2, and_bit, and_bit]
    generalize (bv x.v).getLsbD i = a
    generalize (bv y.v).getLsbD i = b
    generalize (bv 207).getLsbD i = c
    cases a <;> cases b <;> cases c <;> decide
  · rw [h2]
end Go.Proofs.Ytdgjenlejalgeaa
