/- Tables are right. -/
import Derived.Test.YtdgjenlejalgeaaSx1t
namespace Go.Sx

section
variable {j full : Nat}

def RB (j : Nat) (t : TB) (v : Bool) : Prop :=
  match t with
  | some a => a.testBit j = v
  | none => True
theorem RB.cast {t : TB} {v u : Bool} (h : RB j t v) (e : v = u) : RB j t u := e ▸ h

theorem RB.zero : RB j (some 0) false := by simp [RB]
theorem RB.fullT (hF : full.testBit j = true) : RB j (some full) true := hF
theorem RB.zero_eq {v : Bool} (h : RB j (some 0) v) : v = false := by simpa [RB] using h.symm

theorem tnot_ok (hF : full.testBit j = true) {t : TB} {v : Bool} (h : RB j t v) : RB j (tnot full t) (!v) := by
  cases t with
  | none => trivial
  | some a =>
    show (full ^^^ a).testBit j = !v
    have h : a.testBit j = v := h
    rw [Nat.testBit_xor, hF, h]; cases v <;> rfl
theorem tand_ok {a b : TB} {x y : Bool} (ha : RB j a x) (hb : RB j b y) : RB j (tand a b) (x && y) := by
  cases a with
  | some a =>
    have ha : a.testBit j = x := ha
    cases b with
    | some b =>
      have hb : b.testBit j = y := hb
      show (a &&& b).testBit j = (x && y)
      rw [Nat.testBit_and, ha, hb]
    | none =>
      simp only [tand]
      split
      · next h =>
        have h := Nat.eq_of_beq_eq_true h
        subst h
        rw [Nat.zero_testBit] at ha; subst ha
        exact RB.zero
      · trivial
  | none =>
    cases b with
    | some b =>
      have hb : b.testBit j = y := hb
      simp only [tand]
      split
      · next h =>
        have h := Nat.eq_of_beq_eq_true h
        subst h
        rw [Nat.zero_testBit] at hb; subst hb
        rw [Bool.and_false]
        exact RB.zero
      · trivial
    | none => trivial
theorem tor_ok (hF : full.testBit j = true) {a b : TB} {x y : Bool} (ha : RB j a x) (hb : RB j b y) : RB j (tor full a b) (x || y) := by
  cases a with
  | some a =>
    have ha : a.testBit j = x := ha
    cases b with
    | some b =>
      have hb : b.testBit j = y := hb
      show (a ||| b).testBit j = (x || y)
      rw [Nat.testBit_or, ha, hb]
    | none =>
      simp only [tor]
      split
      · next h =>
        have h := Nat.eq_of_beq_eq_true h
        subst h
        rw [hF] at ha; subst ha
        exact hF
      · trivial
  | none =>
    cases b with
    | some b =>
      have hb : b.testBit j = y := hb
      simp only [tor]
      split
      · next h =>
        have h := Nat.eq_of_beq_eq_true h
        subst h
        rw [hF] at hb; subst hb
        rw [Bool.or_true]
        exact hF
      · trivial
    | none => trivial
theorem txor_ok {a b : TB} {x y : Bool} (ha : RB j a x) (hb : RB j b y) : RB j (txor a b) (x ^^ y) := by
  cases a with
  | some a =>
    cases b with
    | some b =>
      have ha : a.testBit j = x := ha
      have hb : b.testBit j = y := hb
      show (a ^^^ b).testBit j = (x ^^ y)
      rw [Nat.testBit_xor, ha, hb]
    | none => trivial
  | none => trivial
theorem tsame_eq {a b : TB} (h : tsame a b = true) : ∃ t, a = some t ∧ b = some t := by
  cases a <;> cases b <;> simp only [tsame, Bool.false_eq_true] at h
  exact ⟨_, rfl, by rw [Nat.eq_of_beq_eq_true h]⟩
theorem tmux_ok (hF : full.testBit j = true) {c a b : TB} {v x y : Bool} (hc : RB j c v) (ha : RB j a x) (hb : RB j b y) : RB j (tmux full c a b) (if v then x else y) := by
  cases c with
  | some c =>
    have hc : c.testBit j = v := hc
    simp only [tmux]
    split
    · next h =>
      have h := Nat.eq_of_beq_eq_true h
      subst h
      rw [Nat.zero_testBit] at hc; subst hc
      exact hb
    · split
      · next h =>
        have h := Nat.eq_of_beq_eq_true h
        subst h
        rw [hF] at hc; subst hc
        exact ha
      · split
        · next a b =>
          have ha : a.testBit j = x := ha
          have hb : b.testBit j = y := hb
          split
          · next h =>
            have h := Nat.eq_of_beq_eq_true h
            subst h
            rw [ha] at hb; subst hb
            show a.testBit j = _
            rw [ha]; simp
          · show ((c &&& a) ||| ((full ^^^ c) &&& b)).testBit j = _
            rw [Nat.testBit_or, Nat.testBit_and, Nat.testBit_and, Nat.testBit_xor, hc, ha, hb, hF]
            cases v <;> simp
        · trivial
  | none =>
    simp only [tmux]
    split
    · next h =>
      obtain ⟨t, rfl, rfl⟩ := tsame_eq h
      have ha : t.testBit j = x := ha
      have hb : t.testBit j = y := hb
      show t.testBit j = _
      rw [ha] at hb; subst hb
      rw [ha]; simp
    · trivial
def majB (x y c : Bool) : Bool := (x && y) || (c && (x || y))
theorem tmaj_ok (hF : full.testBit j = true) {a b c : TB} {x y z : Bool} (ha : RB j a x) (hb : RB j b y) (hc : RB j c z) : RB j (tmaj full a b c) (majB x y z) :=
  tor_ok hF (tand_ok ha hb) (tand_ok hc (tor_ok hF ha hb))

def Num (j : Nat) : List TB → TB → Int → Prop
  | [], s, z => RB j s (decide (z < 0)) ∧ (z = 0 ∨ z = -1)
  | b :: l, s, z => RB j b (decide (z % 2 = 1)) ∧ Num j l s (z / 2)

theorem num_hd {l : List TB} {s : TB} {z : Int} (h : Num j l s z) : RB j (hdT s l) (decide (z % 2 = 1)) ∧ Num j (tlT l) s (z / 2) := by
  cases l with
  | nil =>
    obtain ⟨h, rfl | rfl⟩ := h
    · exact ⟨h, h, by omega⟩
    · exact ⟨h, h, by omega⟩
  | cons b l => exact h
theorem num_sign : ∀ {l : List TB} {s : TB} {z : Int}, Num j l s z → RB j s (decide (z < 0))
  | [], _, _, h => h.1
  | _ :: l, s, z, h => (num_sign (l := l) h.2).cast (by rw [decide_eq_decide]; omega)
theorem num_bd : ∀ {l : List TB} {s : TB} {z : Int}, Num j l s z → -(2 : Int) ^ l.length ≤ z ∧ z < 2 ^ l.length
  | [], _, _, h => by rcases h.2 with rfl | rfl <;> simp
  | _ :: l, s, z, h => by
    have := num_bd (l := l) h.2
    simp only [List.length_cons, Int.pow_succ]
    generalize (2 : Int) ^ l.length = p at *
    omega
theorem num_pos {l : List TB} {s : TB} {z : Int} (h : Num j l s z) (hz : isZ s = true) : 0 ≤ z := by
  have := num_sign h
  unfold isZ at hz
  split at hz
  · next a =>
    rw [Nat.eq_of_beq_eq_true hz] at this
    have := RB.zero_eq this
    simpa using this
  · cases hz
theorem isZ_eq {s : TB} (h : isZ s = true) : s = some 0 := by
  unfold isZ at h
  split at h
  · rw [Nat.eq_of_beq_eq_true h]
  · cases h

def bi (b : Bool) : Int := if b then 1 else 0
theorem fa (x y : Int) (c : Bool) : ((decide (x % 2 = 1)) ^^ ((decide (y % 2 = 1)) ^^ c)) = decide ((x + y + bi c) % 2 = 1) ∧
    (x + y + bi c) / 2 = x / 2 + y / 2 + bi (majB (decide (x % 2 = 1)) (decide (y % 2 = 1)) c) := by
  have hx : x % 2 = 0 ∨ x % 2 = 1 := by omega
  have hy : y % 2 = 0 ∨ y % 2 = 1 := by omega
  rcases hx with hx | hx <;> rcases hy with hy | hy <;> cases c <;> simp [hx, hy, bi, majB] <;> omega

theorem pushT_num {b : TB} {r : TI} {z : Int} (hb : RB j b (decide (z % 2 = 1))) (h : Num j r.1 r.2 (z / 2)) : Num j (pushT b r).1 (pushT b r).2 z := ⟨hb, h⟩

theorem addS_ok (hF : full.testBit j = true) {sx sy : TB} {x : Int} (hx : Num j [] sx x) : ∀ {ys : List TB} {y : Int} {c : TB} {v : Bool}, Num j ys sy y → RB j c v →
    Num j (addS full sx sy ys c).1 (addS full sx sy ys c).2 (x + y + bi v)
  | [], y, c, v, hy, hc => by
    obtain ⟨hx1, hx2⟩ := hx
    obtain ⟨hy1, hy2⟩ := hy
    simp only [addS, Num]
    have h1 := txor_ok hx1 (txor_ok hy1 hc)
    have h2 := tor_ok hF (tand_ok hx1 hy1) (tand_ok (tor_ok hF hx1 hy1) (tnot_ok hF hc))
    refine ⟨h1.cast ?_, h2.cast ?_, ?_⟩
    · rcases hx2 with rfl | rfl <;> rcases hy2 with rfl | rfl <;> cases v <;> rfl
    · rcases hx2 with rfl | rfl <;> rcases hy2 with rfl | rfl <;> cases v <;> rfl
    · rcases hx2 with rfl | rfl <;> rcases hy2 with rfl | rfl <;> cases v <;> decide
  | yb :: ys, y, c, v, hy, hc => by
    have hx' := num_hd hx
    simp only [hdT, tlT] at hx'
    have hxx : x / 2 = x := by rcases hx.2 with rfl | rfl <;> rfl
    have f := fa x y v
    refine pushT_num ((txor_ok hx'.1 (txor_ok hy.1 hc)).cast f.1) ?_
    rw [f.2, hxx]
    exact addS_ok hF hx hy.2 (tmaj_ok hF hx'.1 hy.1 hc)
theorem addL_ok (hF : full.testBit j = true) {sx sy : TB} : ∀ {xs ys : List TB} {x y : Int} {c : TB} {v : Bool}, Num j xs sx x → Num j ys sy y → RB j c v →
    Num j (addL full sx sy xs ys c).1 (addL full sx sy xs ys c).2 (x + y + bi v)
  | [], ys, x, y, c, v, hx, hy, hc => addS_ok hF hx hy hc
  | xb :: xs, ys, x, y, c, v, hx, hy, hc => by
    have hy' := num_hd hy
    have f := fa x y v
    refine pushT_num ((txor_ok hx.1 (txor_ok hy'.1 hc)).cast f.1) ?_
    rw [f.2]
    exact addL_ok hF hx.2 hy'.2 (tmaj_ok hF hx.1 hy'.1 hc)

theorem trimL_ok {s : TB} : ∀ {l : List TB} {z : Int}, Num j l s z → Num j (trimL s l) s z
  | [], _, h => h
  | b :: l, z, h => by
    have ih := trimL_ok (l := l) h.2
    simp only [trimL]
    split
    · next e =>
      rw [e] at ih
      split
      · next hs =>
        obtain ⟨t, rfl, rfl⟩ := tsame_eq hs
        have h1 : t.testBit j = decide (z % 2 = 1) := h.1
        have h2 : t.testBit j = decide (z / 2 < 0) := ih.1
        rw [h1, decide_eq_decide] at h2
        have h3 := ih.2
        exact ⟨show t.testBit j = _ from by rw [h1, decide_eq_decide]; omega, by omega⟩
      · exact ⟨h.1, ih⟩
    · next r _ => exact ⟨h.1, ih⟩
theorem trimI_ok {x : TI} {z : Int} (h : Num j x.1 x.2 z) : Num j (trimI x).1 (trimI x).2 z := trimL_ok h

theorem notL_ok (hF : full.testBit j = true) {s : TB} : ∀ {l : List TB} {z : Int}, Num j l s z → Num j (l.map (tnot full)) (tnot full s) (-1 - z)
  | [], z, h => ⟨(tnot_ok hF h.1).cast (by rcases h.2 with rfl | rfl <;> rfl), by have := h.2; omega⟩
  | b :: l, z, h => by
    refine ⟨(tnot_ok hF h.1).cast ?_, ?_⟩
    · rw [← decide_not, decide_eq_decide]; omega
    · rw [show (-1 - z) / 2 = -1 - z / 2 by omega]
      exact notL_ok hF h.2
theorem addI_ok (hF : full.testBit j = true) {a b : TI} {x y : Int} (ha : Num j a.1 a.2 x) (hb : Num j b.1 b.2 y) : Num j (addI full a b).1 (addI full a b).2 (x + y) := by
  have := addL_ok hF ha hb (RB.zero (j := j))
  simp only [bi, Bool.false_eq_true, if_false, Int.add_zero] at this
  exact trimI_ok (x := addL full a.2 b.2 a.1 b.1 (some 0)) this
theorem subI'_ok (hF : full.testBit j = true) {a b : TI} {x y : Int} (ha : Num j a.1 a.2 x) (hb : Num j b.1 b.2 y) : Num j (subI' full a b).1 (subI' full a b).2 (x - y) := by
  have := addL_ok hF ha (notL_ok hF hb) (RB.fullT hF)
  simp only [bi, if_true] at this
  rw [show x + (-1 - y) + 1 = x - y by omega] at this
  exact trimI_ok (x := addL full a.2 (tnot full b.2) a.1 (b.1.map (tnot full)) (some full)) this
theorem andI_ok {b : TB} {v : Bool} (hb : RB j b v) : ∀ {l : List TB} {s : TB} {z : Int}, Num j l s z → Num j (andI b (l, s)).1 (andI b (l, s)).2 (if v then z else 0)
  | [], s, z, h => by
    refine ⟨(tand_ok hb h.1).cast ?_, ?_⟩
    · cases v <;> simp
    · cases v <;> simp [h.2]
  | c :: l, s, z, h => by
    have ih := andI_ok hb (l := l) h.2
    refine ⟨(tand_ok hb h.1).cast ?_, ?_⟩
    · cases v <;> simp
    · have e : (if v = true then z else 0) / 2 = if v = true then z / 2 else 0 := by cases v <;> simp
      rw [e]; exact ih
theorem num_zero : Num j zeroI.1 zeroI.2 0 := ⟨RB.zero, .inl rfl⟩
theorem mulL_ok (hF : full.testBit j = true) {sx : TB} {b : TI} {y : Int} (hb : Num j b.1 b.2 y) : ∀ {xs : List TB} {x : Int}, Num j xs sx x → Num j (mulL full sx b xs).1 (mulL full sx b xs).2 (x * y)
  | [], x, h => by
    have := subI'_ok hF (num_zero (j := j)) (andI_ok h.1 hb)
    simp only [mulL]
    rcases h.2 with rfl | rfl
    · simpa using this
    · simpa using this
  | c :: xs, x, h => by
    have ih := mulL_ok hF hb (xs := xs) h.2
    have h1 := andI_ok h.1 hb
    have h2 : Num j (pushT (some 0) (mulL full sx b xs)).1 (pushT (some 0) (mulL full sx b xs)).2 (2 * (x / 2 * y)) :=
      pushT_num (RB.zero.cast (by simp)) (by rw [show 2 * (x / 2 * y) / 2 = x / 2 * y by omega]; exact ih)
    have := addI_ok hF h1 h2
    have e : (if decide (x % 2 = 1) = true then y else 0) + 2 * (x / 2 * y) = x * y := by
      have hx : x = 2 * (x / 2) + x % 2 := by omega
      have e2 : x * y = 2 * (x / 2 * y) + x % 2 * y := by
        calc x * y = (2 * (x / 2) + x % 2) * y := by rw [← hx]
          _ = _ := by rw [Int.add_mul, Int.mul_assoc]
      rw [e2]
      have : x % 2 = 0 ∨ x % 2 = 1 := by omega
      rcases this with h | h <;> simp [h] <;> omega
    rw [e] at this
    exact this

theorem muxS_ok (hF : full.testBit j = true) {c sx sy : TB} {v : Bool} (hc : RB j c v) {x : Int} (hx : Num j [] sx x) : ∀ {ys : List TB} {y : Int}, Num j ys sy y → Num j (muxS full c sx ys) (tmux full c sx sy) (if v then x else y)
  | [], y, hy => by
    refine ⟨(tmux_ok hF hc hx.1 hy.1).cast (by cases v <;> rfl), ?_⟩
    cases v
    · exact hy.2
    · exact hx.2
  | b :: ys, y, hy => by
    have hx' := num_hd hx
    have hxx : x / 2 = x := by rcases hx.2 with rfl | rfl <;> rfl
    refine ⟨(tmux_ok hF hc hx'.1 hy.1).cast (by cases v <;> rfl), ?_⟩
    have e : (if v = true then x else y) / 2 = if v = true then x else y / 2 := by cases v <;> simp [hxx]
    rw [e]
    exact muxS_ok hF hc hx hy.2
theorem muxL_ok (hF : full.testBit j = true) {c sx sy : TB} {v : Bool} (hc : RB j c v) : ∀ {xs ys : List TB} {x y : Int}, Num j xs sx x → Num j ys sy y → Num j (muxL full c sx sy xs ys) (tmux full c sx sy) (if v then x else y)
  | [], ys, x, y, hx, hy => muxS_ok hF hc hx hy
  | b :: xs, ys, x, y, hx, hy => by
    have hy' := num_hd hy
    refine ⟨(tmux_ok hF hc hx.1 hy'.1).cast (by cases v <;> rfl), ?_⟩
    have e : (if v = true then x else y) / 2 = if v = true then x / 2 else y / 2 := by cases v <;> rfl
    rw [e]
    exact muxL_ok hF hc hx.2 hy'.2
theorem muxI_ok (hF : full.testBit j = true) {c : TB} {v : Bool} (hc : RB j c v) {a b : TI} {x y : Int} (ha : Num j a.1 a.2 x) (hb : Num j b.1 b.2 y) : Num j (muxI full c a b).1 (muxI full c a b).2 (if v then x else y) :=
  trimI_ok (x := (muxL full c a.2 b.2 a.1 b.1, tmux full c a.2 b.2)) (muxL_ok hF hc ha hb)

/-! ### Powers -/
theorem emod_pow_succ (z : Int) (n : Nat) : z % 2 ^ (n + 1) % 2 = z % 2 ∧ z % 2 ^ (n + 1) / 2 = z / 2 % 2 ^ n := by
  have hp : (0 : Int) < 2 ^ n := Int.pow_pos (by omega)
  rw [Int.pow_succ]
  generalize (2 : Int) ^ n = p at *
  have h1 := Int.emod_add_mul_ediv z (p * 2)
  have h2 := Int.emod_nonneg z (show p * 2 ≠ 0 by omega)
  have h3 := Int.emod_lt_of_pos z (show 0 < p * 2 by omega)
  rw [Int.mul_comm p 2, Int.mul_assoc] at h1
  rw [Int.mul_comm p 2] at *
  generalize z / (2 * p) = q at *
  generalize z % (2 * p) = r at *
  have h4 : z / 2 = r / 2 + p * q := by omega
  refine ⟨by omega, ?_⟩
  rw [h4, Int.add_mul_emod_self_left, Int.emod_eq_of_lt (by omega) (by omega)]
theorem ediv_pow_succ (z : Int) (n : Nat) : z / 2 ^ (n + 1) = z / 2 / 2 ^ n := by
  rw [Int.pow_succ, Int.mul_comm, Int.ediv_ediv_of_nonneg (by omega)]

theorem takeE_ok {s : TB} : ∀ {n : Nat} {l : List TB} {z : Int}, Num j l s z → Num j (takeE s n l) (some 0) (z % 2 ^ n)
  | 0, l, z, h => by simp only [takeE, Num]; exact ⟨by simp [RB, Int.emod_one], .inl (by simp [Int.emod_one])⟩
  | n + 1, l, z, h => by
    have e := emod_pow_succ z n
    have h' := num_hd h
    have ih := takeE_ok (n := n) h'.2
    cases l with
    | nil => simp only [takeE, Num]; rw [e.1, e.2]; exact ⟨h'.1, ih⟩
    | cons b l => simp only [takeE, Num]; rw [e.1, e.2]; exact ⟨h'.1, ih⟩
theorem nthE_ok {s : TB} : ∀ {n : Nat} {l : List TB} {z : Int}, Num j l s z → RB j (nthE s n l) (decide (z / 2 ^ n % 2 = 1))
  | 0, l, z, h => by
    have h' := num_hd h
    cases l with
    | nil => simpa [nthE, hdT] using h'.1
    | cons b l => simpa [nthE, hdT] using h'.1
  | n + 1, l, z, h => by
    have h' := num_hd h
    rw [ediv_pow_succ]
    have ih := nthE_ok (n := n) h'.2
    cases l with
    | nil => cases n <;> exact ih
    | cons b l => exact ih
theorem dropN_ok {s : TB} : ∀ {n : Nat} {l : List TB} {z : Int}, Num j l s z → Num j (dropN n l) s (z / 2 ^ n)
  | 0, l, z, h => by simpa [dropN] using h
  | n + 1, l, z, h => by
    have h' := num_hd h
    rw [ediv_pow_succ]
    have ih := dropN_ok (n := n) h'.2
    cases l with
    | nil => cases n <;> exact ih
    | cons b l => exact ih

def wv : Nat → Int → Int
  | 0, z => -(z % 2)
  | n + 1, z => z % 2 + 2 * wv n (z / 2)
theorem wv_eq : ∀ (n : Nat) (z : Int), wv n z = z % 2 ^ n - 2 ^ n * (z / 2 ^ n % 2)
  | 0, z => by simp [wv, Int.emod_one]
  | n + 1, z => by
    simp only [wv, wv_eq n (z / 2), ediv_pow_succ]
    have e := emod_pow_succ z n
    rw [Int.pow_succ] at *
    have h1 : z % (2 ^ n * 2) = z % 2 + 2 * (z / 2 % 2 ^ n) := by omega
    rw [h1]
    generalize z / 2 / 2 ^ n % 2 = q
    have : (2 : Int) ^ n * 2 * q = 2 * (2 ^ n * q) := by rw [Int.mul_comm (2 ^ n) 2, Int.mul_assoc]
    rw [this]
    omega
theorem takeS_ok {s : TB} : ∀ {n : Nat} {l : List TB} {z : Int}, Num j l s z → Num j (takeE s n l) (nthE s n l) (wv n z)
  | 0, l, z, h => by
    have h' := nthE_ok (n := 0) h
    simp only [takeE, wv, Num]
    exact ⟨h'.cast (by rw [decide_eq_decide]; simp; omega), by omega⟩
  | n + 1, l, z, h => by
    have h' := num_hd h
    have ih := takeS_ok (n := n) h'.2
    have e1 : wv (n + 1) z % 2 = z % 2 := by simp only [wv]; omega
    have e2 : wv (n + 1) z / 2 = wv n (z / 2) := by simp only [wv]; omega
    cases l with
    | nil =>
      simp only [takeE, Num]; rw [e1, e2]
      refine ⟨h'.1, ?_⟩
      have : nthE s (n + 1) ([] : List TB) = nthE s n [] := by cases n <;> rfl
      rw [this]; exact ih
    | cons b l => simp only [takeE, Num]; rw [e1, e2]; exact ⟨h'.1, ih⟩

theorem wrap_emod (k : IntKind) (hk : k.signed = false) (z : Int) : k.wrap z = z % 2 ^ k.bits := by
  simp only [IntKind.wrap, hk]; simp
theorem wrap_wv (k : IntKind) (hk : k.signed = true) (z : Int) : k.wrap z = wv (k.bits - 1) z := by
  rw [wv_eq]
  cases k <;> simp [IntKind.signed] at hk <;> simp [IntKind.wrap, IntKind.signed, IntKind.bits] <;> (try split) <;> omega
theorem kLo_pow (k : IntKind) (hk : k.signed = true) : kLo k = -(2 : Int) ^ (k.bits - 1) ∧ kHi k = 2 ^ (k.bits - 1) - 1 := by
  cases k <;> simp [IntKind.signed] at hk <;> simp [kLo, kHi, IntKind.bits]
theorem kHi_pow (k : IntKind) (hk : k.signed = false) : kLo k = 0 ∧ kHi k = 2 ^ k.bits - 1 := by
  cases k <;> simp [IntKind.signed] at hk <;> simp [kLo, kHi, IntKind.bits]
theorem pow_mono {a b : Nat} (h : a ≤ b) : (2 : Int) ^ a ≤ 2 ^ b := by
  have : (2 : Nat) ^ a ≤ 2 ^ b := Nat.pow_le_pow_right (by omega) h
  exact_mod_cast this

theorem wrapI_ok {k : IntKind} {x : TI} {z : Int} (h : Num j x.1 x.2 z) : Num j (wrapI k x).1 (wrapI k x).2 (k.wrap z) := by
  obtain ⟨l, s⟩ := x
  simp only [wrapI]
  have hb := num_bd h
  cases hk : k.signed with
  | true =>
    simp only [if_true]
    split
    · next hl =>
      rw [Nat.ble_eq, len_eq'] at hl
      have h1 := kLo_pow k hk
      have h2 := pow_mono (a := l.length) (b := k.bits - 1) (by omega)
      rw [wrap_id (by simp only at hb; omega) (by simp only at hb; omega)]
      exact h
    · rw [wrap_wv k hk]
      exact trimI_ok (x := (takeE s (k.bits - 1) l, nthE s (k.bits - 1) l)) (takeS_ok h)
  | false =>
    simp only [Bool.false_eq_true, if_false]
    split
    · next hl =>
      simp only [Bool.and_eq_true, Nat.ble_eq, len_eq'] at hl
      have h1 := kHi_pow k hk
      have h2 := pow_mono hl.2
      have h3 := num_pos h hl.1
      rw [wrap_id (by omega) (by simp only at hb; omega)]
      exact h
    · rw [wrap_emod k hk]
      exact trimI_ok (x := (takeE s k.bits l, some 0)) (takeE_ok h)
where
  len_eq' {α : Type} : ∀ (l : List α), len l = l.length
    | [] => rfl
    | a :: l => by simp [len, len_eq' l]
end
end Go.Sx
