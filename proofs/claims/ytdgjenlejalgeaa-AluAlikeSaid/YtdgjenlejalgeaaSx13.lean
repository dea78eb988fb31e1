/- A small machine that reads straight Go code as trees, and its truth. -/
import Derived.Test.YtdgjenlejalgeaaSx12
namespace Go.Sx

theorem hd_getD (f : List Bool) : f.headD false = f.getD 0 false := by cases f <;> rfl
theorem tl_getD (f : List Bool) (k : Nat) : f.tail.getD k false = f.getD (k + 1) false := by cases f <;> rfl

/-- An operation that has not been carried out: its blocks are not known. -/
def Rec.skip (r : Rec) (T : St) : St := { T with hp := T.hp ++ List.replicate (r.S1.hp.length - r.n0) none }
/-- Those operations that have been carried out, in the order of the text. -/
def after : List Rec → List Bool → St → St
  | [], _, T => T
  | r :: l, f, T => after l f.tail (if f.headD false then r.upd T else r.skip T)
/-- All of them. -/
def allOf : List Rec → St → St
  | [], T => T
  | r :: l, T => allOf l (r.upd T)

/-- A record fits a state: it has as many blocks as it says, and writes blocks that were there. -/
def Rec.at (r : Rec) (n m : Nat) : Prop := r.n0 = n ∧ n ≤ r.S1.hp.length ∧ (∀ id ∈ r.S1.wr, id < n) ∧ ∀ t, r.d = some t → t < m
theorem Rec.upd_len {r : Rec} {T : St} {m : Nat} (h : r.at T.hp.length m) : (r.upd T).hp.length = r.S1.hp.length := by
  obtain ⟨h1, h2, _⟩ := h
  simp only [Rec.upd, List.length_append, copyHp_len, dropN_eq, List.length_drop]; omega
theorem Rec.skip_len {r : Rec} {T : St} {m : Nat} (h : r.at T.hp.length m) : (r.skip T).hp.length = r.S1.hp.length := by
  obtain ⟨h1, h2, _⟩ := h
  simp only [Rec.skip, List.length_append, List.length_replicate]; omega
theorem Rec.upd_tm_len (r : Rec) (T : St) : (r.upd T).tm.length = T.tm.length := by
  simp only [Rec.upd]; split <;> simp [setAt_eq]

/-- The slots that a record writes. -/
def Rec.slot (r : Rec) (t : Nat) : Prop := r.d = some t
/-- The blocks that a record writes or makes. -/
def Rec.blks (r : Rec) (id : Nat) : Prop := id ∈ r.S1.wr ∨ (r.n0 ≤ id ∧ id < r.S1.hp.length)

theorem Rec.upd_tm {r : Rec} {T : St} (h : r.at T.hp.length T.tm.length) (t : Nat) : (r.slot t → at2 (r.upd T).tm t = at2 r.S1.tm t) ∧ (¬ r.slot t → at2 (r.upd T).tm t = at2 T.tm t) := by
  unfold Rec.slot
  simp only [Rec.upd]
  split
  · rename_i hd; simp [hd]
  · rename_i u hd
    rw [at2_set _ _ _ _ (h.2.2.2 u hd)]
    constructor
    · intro e; rw [hd] at e; cases e; simp
    · intro e; rw [if_neg (fun e' => e (by rw [hd, e']))]
theorem Rec.upd_hp {r : Rec} {T : St} (h : r.at T.hp.length T.tm.length) (id : Nat) : (r.blks id → at2 (r.upd T).hp id = at2 r.S1.hp id) ∧ (¬ r.blks id → at2 (r.upd T).hp id = at2 T.hp id) := by
  obtain ⟨h1, h2, h3, _⟩ := h
  simp only [Rec.upd, at2_append, copyHp_len, at2_drop]
  rw [copyHp_at _ _ _ _ h3]
  unfold Rec.blks
  constructor
  · rintro (h | h)
    · rw [if_pos (h3 id h), if_pos h]
    · rw [if_neg (by omega), h1]; congr 1; omega
  · intro h
    split
    · rw [if_neg (fun e => h (.inl e))]
    · rename_i hn
      rw [at2_len (show T.hp.length ≤ id by omega), at2_len]
      have : ¬ (r.n0 ≤ id ∧ id < r.S1.hp.length) := fun e => h (.inr e)
      omega
theorem Rec.skip_hp {r : Rec} {T : St} (id : Nat) : at2 (r.skip T).hp id = at2 T.hp id := by
  simp only [Rec.skip, at2_append, at2_rep]
  split
  · rfl
  · rw [at2_len (by omega)]

/-- Records, each of which fits where it stands. -/
def Chain : List Rec → Nat → Nat → Prop
  | [], _, _ => True
  | r :: l, n, m => r.at n m ∧ Chain l r.S1.hp.length m

theorem step_len {r : Rec} {T : St} {b : Bool} (h : r.at T.hp.length T.tm.length) : (if b then r.upd T else r.skip T).hp.length = r.S1.hp.length ∧ (if b then r.upd T else r.skip T).tm.length = T.tm.length ∧ (if b then r.upd T else r.skip T).base = T.base := by
  cases b
  · exact ⟨Rec.skip_len h, rfl, rfl⟩
  · exact ⟨Rec.upd_len h, Rec.upd_tm_len r T, rfl⟩

/-- Two ways on from two states that agree at a place: if each record that writes there is on both ways or on none, they agree there. -/
theorem after_same_tm {t : Nat} : ∀ {l : List Rec} {f g : List Bool} {T U : St}, Chain l T.hp.length T.tm.length → T.hp.length = U.hp.length → T.tm.length = U.tm.length → at2 T.tm t = at2 U.tm t →
    (∀ (k : Nat) (r : Rec), l[k]? = some r → r.slot t → f.getD k false = g.getD k false) → at2 (after l f T).tm t = at2 (after l g U).tm t
  | [], f, g, T, U, _, _, _, h, _ => h
  | r :: l, f, g, T, U, hc, h1, h2, h, hk => by
    have hU : r.at U.hp.length U.tm.length := by rw [← h1, ← h2]; exact hc.1
    obtain ⟨a1, a2, a3⟩ := step_len (b := f.headD false) hc.1
    obtain ⟨b1, b2, b3⟩ := step_len (b := g.headD false) hU
    rw [after, after]
    refine after_same_tm (by rw [a1, a2]; exact hc.2) (by rw [a1, b1]) (by rw [a2, b2, h2]) ?_ (fun k r' hr' hs => ?_)
    · have e : r.slot t → f.headD false = g.headD false := fun hs => by
        have := hk 0 r rfl hs
        simpa [List.headD_eq_head?_getD, List.head?_eq_getElem?, List.getD_eq_getElem?_getD] using this
      by_cases hs : r.slot t
      · rw [← e hs]
        cases f.headD false
        · exact h
        · simp only [if_true]
          rw [(Rec.upd_tm hc.1 t).1 hs, (Rec.upd_tm hU t).1 hs]
      · cases f.headD false <;> cases g.headD false <;> simp only [Bool.false_eq_true, if_false, if_true]
        · exact h
        · rw [(Rec.upd_tm hU t).2 hs]; exact h
        · rw [(Rec.upd_tm hc.1 t).2 hs]; exact h
        · rw [(Rec.upd_tm hc.1 t).2 hs, (Rec.upd_tm hU t).2 hs]; exact h
    · have := hk (k + 1) r' (by simpa using hr') hs
      rw [tl_getD, tl_getD]; exact this

theorem after_same_hp {id : Nat} : ∀ {l : List Rec} {f g : List Bool} {T U : St}, Chain l T.hp.length T.tm.length → T.hp.length = U.hp.length → T.tm.length = U.tm.length → at2 T.hp id = at2 U.hp id →
    (∀ (k : Nat) (r : Rec), l[k]? = some r → r.blks id → f.getD k false = g.getD k false) → at2 (after l f T).hp id = at2 (after l g U).hp id
  | [], f, g, T, U, _, _, _, h, _ => h
  | r :: l, f, g, T, U, hc, h1, h2, h, hk => by
    have hU : r.at U.hp.length U.tm.length := by rw [← h1, ← h2]; exact hc.1
    obtain ⟨a1, a2, a3⟩ := step_len (b := f.headD false) hc.1
    obtain ⟨b1, b2, b3⟩ := step_len (b := g.headD false) hU
    rw [after, after]
    refine after_same_hp (by rw [a1, a2]; exact hc.2) (by rw [a1, b1]) (by rw [a2, b2, h2]) ?_ (fun k r' hr' hs => ?_)
    · have e : r.blks id → f.headD false = g.headD false := fun hs => by
        have := hk 0 r rfl hs
        simpa [List.headD_eq_head?_getD, List.head?_eq_getElem?, List.getD_eq_getElem?_getD] using this
      by_cases hs : r.blks id
      · rw [← e hs]
        cases f.headD false
        · simp only [Bool.false_eq_true, if_false, Rec.skip_hp]; exact h
        · simp only [if_true]
          rw [(Rec.upd_hp hc.1 id).1 hs, (Rec.upd_hp hU id).1 hs]
      · cases f.headD false <;> cases g.headD false <;> simp only [Bool.false_eq_true, if_false, if_true, Rec.skip_hp]
        · exact h
        · rw [(Rec.upd_hp hU id).2 hs]; exact h
        · rw [(Rec.upd_hp hc.1 id).2 hs]; exact h
        · rw [(Rec.upd_hp hc.1 id).2 hs, (Rec.upd_hp hU id).2 hs]; exact h
    · have := hk (k + 1) r' (by simpa using hr') hs
      rw [tl_getD, tl_getD]; exact this

theorem after_len : ∀ {l : List Rec} {f : List Bool} {T : St}, Chain l T.hp.length T.tm.length → (after l f T).tm.length = T.tm.length ∧ T.hp.length ≤ (after l f T).hp.length ∧ (after l f T).base = T.base ∧
    ∀ g, (after l g T).hp.length = (after l f T).hp.length
  | [], f, T, _ => ⟨rfl, Nat.le_refl _, rfl, fun _ => rfl⟩
  | r :: l, f, T, hc => by
    obtain ⟨a1, a2, a3⟩ := step_len (b := f.headD false) hc.1
    obtain ⟨c1, c2, c3, c4⟩ := after_len (l := l) (f := f.tail) (T := if f.headD false then r.upd T else r.skip T) (by rw [a1, a2]; exact hc.2)
    refine ⟨by rw [after, c1, a2], ?_, by rw [after, c3, a3], fun g => ?_⟩
    · rw [after]; have := hc.1.2.1; omega
    · rw [after, after]
      obtain ⟨b1, b2, b3⟩ := step_len (b := g.headD false) hc.1
      have lens : ∀ {l : List Rec} {f g : List Bool} {T U : St}, Chain l T.hp.length T.tm.length → T.hp.length = U.hp.length → T.tm.length = U.tm.length → (after l f T).hp.length = (after l g U).hp.length := by
        intro l
        induction l with
        | nil => intro f g T U _ h _; exact h
        | cons r l ih =>
          intro f g T U hc h1 h2
          have hU : r.at U.hp.length U.tm.length := by rw [← h1, ← h2]; exact hc.1
          obtain ⟨a1, a2, a3⟩ := step_len (b := f.headD false) hc.1
          obtain ⟨b1, b2, b3⟩ := step_len (b := g.headD false) hU
          exact ih (by rw [a1, a2]; exact hc.2) (by rw [a1, b1]) (by rw [a2, b2, h2])
      exact (lens (by rw [a1, a2]; exact hc.2) (by rw [a1, b1]) (by rw [a2, b2])).symm

/-- Where a record that has been carried out wrote last, there stands what it wrote. -/
theorem after_at_tm {t : Nat} : ∀ {l : List Rec} {f : List Bool} {T : St} {i : Nat} {r : Rec}, Chain l T.hp.length T.tm.length → l[i]? = some r → f.getD i false = true → r.slot t →
    (∀ (k : Nat) (r' : Rec), l[k]? = some r' → i < k → r'.slot t → f.getD k false = false) → at2 (after l f T).tm t = at2 r.S1.tm t
  | [], f, T, i, r, _, h, _, _, _ => by simp at h
  | q :: l, f, T, i, r, hc, h, hf, hs, hk => by
    obtain ⟨a1, a2, a3⟩ := step_len (b := f.headD false) hc.1
    cases i with
    | succ i =>
      rw [after]
      refine after_at_tm (i := i) (by rw [a1, a2]; exact hc.2) (by simpa using h) (by rw [tl_getD]; exact hf) hs fun k r' hr' hik hs' => ?_
      have := hk (k + 1) r' (by simpa using hr') (by omega) hs'
      rw [tl_getD]; exact this
    | zero =>
      simp at h; subst h
      have hh : f.headD false = true := by rw [hd_getD]; exact hf
      rw [after, hh]
      simp only [if_true]
      rw [hh] at a1 a2
      simp only [if_true] at a1 a2
      have := after_same_tm (t := t) (l := l) (f := f.tail) (g := []) (T := q.upd T) (U := q.upd T) (by rw [a1, a2]; exact hc.2) rfl rfl rfl fun k r' hr' hs' => by
        have := hk (k + 1) r' (by simpa using hr') (by omega) hs'
        rw [tl_getD]; simpa using this
      rw [this]
      have none_ : ∀ {l : List Rec} {T : St}, (after l [] T).tm = T.tm := by
        intro l
        induction l with
        | nil => intro T; rfl
        | cons r l ih => intro T; rw [after]; simp only [List.headD_nil, Bool.false_eq_true, if_false, List.tail_nil]; rw [ih]; rfl
      rw [none_]
      exact (Rec.upd_tm hc.1 t).1 hs

theorem after_none_hp (id : Nat) : ∀ {l : List Rec} {T : St}, at2 (after l [] T).hp id = at2 T.hp id
  | [], T => rfl
  | r :: l, T => by rw [after]; simp only [List.headD_nil, Bool.false_eq_true, if_false, List.tail_nil]; rw [after_none_hp id, Rec.skip_hp]
theorem after_none_tm : ∀ {l : List Rec} {T : St}, (after l [] T).tm = T.tm ∧ (after l [] T).wr = T.wr
  | [], T => ⟨rfl, rfl⟩
  | r :: l, T => by rw [after]; simp only [List.headD_nil, Bool.false_eq_true, if_false, List.tail_nil]; exact after_none_tm (T := r.skip T)

theorem after_at_hp {id : Nat} : ∀ {l : List Rec} {f : List Bool} {T : St} {i : Nat} {r : Rec}, Chain l T.hp.length T.tm.length → l[i]? = some r → f.getD i false = true → r.blks id →
    (∀ (k : Nat) (r' : Rec), l[k]? = some r' → i < k → r'.blks id → f.getD k false = false) → at2 (after l f T).hp id = at2 r.S1.hp id
  | [], f, T, i, r, _, h, _, _, _ => by simp at h
  | q :: l, f, T, i, r, hc, h, hf, hs, hk => by
    obtain ⟨a1, a2, a3⟩ := step_len (b := f.headD false) hc.1
    cases i with
    | succ i =>
      rw [after]
      refine after_at_hp (i := i) (by rw [a1, a2]; exact hc.2) (by simpa using h) (by rw [tl_getD]; exact hf) hs fun k r' hr' hik hs' => ?_
      have := hk (k + 1) r' (by simpa using hr') (by omega) hs'
      rw [tl_getD]; exact this
    | zero =>
      simp at h; subst h
      have hh : f.headD false = true := by rw [hd_getD]; exact hf
      rw [after, hh]
      simp only [if_true]
      rw [hh] at a1 a2
      simp only [if_true] at a1 a2
      have := after_same_hp (id := id) (l := l) (f := f.tail) (g := []) (T := q.upd T) (U := q.upd T) (by rw [a1, a2]; exact hc.2) rfl rfl rfl fun k r' hr' hs' => by
        have := hk (k + 1) r' (by simpa using hr') (by omega) hs'
        rw [tl_getD]; simpa using this
      rw [this, after_none_hp]
      exact (Rec.upd_hp hc.1 id).1 hs

/-- What is known comes from the beginning, or from a record that has been carried out. -/
theorem after_from_tm {t : Nat} {v : ST} : ∀ {l : List Rec} {f : List Bool} {T : St}, Chain l T.hp.length T.tm.length → at2 (after l f T).tm t = some v →
    at2 T.tm t = some v ∨ ∃ (k : Nat) (r : Rec), l[k]? = some r ∧ f.getD k false = true ∧ r.slot t ∧ at2 r.S1.tm t = some v
  | [], f, T, _, h => .inl h
  | r :: l, f, T, hc, h => by
    obtain ⟨a1, a2, a3⟩ := step_len (b := f.headD false) hc.1
    rw [after] at h
    rcases after_from_tm (l := l) (by rw [a1, a2]; exact hc.2) h with h | ⟨k, r', h1, h2, h3, h4⟩
    · cases hh : f.headD false with
      | false => rw [hh] at h; exact .inl h
      | true =>
        rw [hh] at h
        simp only [if_true] at h
        by_cases hs : r.slot t
        · rw [(Rec.upd_tm hc.1 t).1 hs] at h
          exact .inr ⟨0, r, rfl, by rw [← hd_getD]; exact hh, hs, h⟩
        · rw [(Rec.upd_tm hc.1 t).2 hs] at h
          exact .inl h
    · exact .inr ⟨k + 1, r', by simpa using h1, by rw [← tl_getD]; exact h2, h3, h4⟩
theorem after_from_hp {id : Nat} {v : Blk} : ∀ {l : List Rec} {f : List Bool} {T : St}, Chain l T.hp.length T.tm.length → at2 (after l f T).hp id = some v →
    at2 T.hp id = some v ∨ ∃ (k : Nat) (r : Rec), l[k]? = some r ∧ f.getD k false = true ∧ r.blks id ∧ at2 r.S1.hp id = some v
  | [], f, T, _, h => .inl h
  | r :: l, f, T, hc, h => by
    obtain ⟨a1, a2, a3⟩ := step_len (b := f.headD false) hc.1
    rw [after] at h
    rcases after_from_hp (l := l) (by rw [a1, a2]; exact hc.2) h with h | ⟨k, r', h1, h2, h3, h4⟩
    · cases hh : f.headD false with
      | false => rw [hh] at h; simp only [Bool.false_eq_true, if_false, Rec.skip_hp] at h; exact .inl h
      | true =>
        rw [hh] at h
        simp only [if_true] at h
        by_cases hs : r.blks id
        · rw [(Rec.upd_hp hc.1 id).1 hs] at h
          exact .inr ⟨0, r, rfl, by rw [← hd_getD]; exact hh, hs, h⟩
        · rw [(Rec.upd_hp hc.1 id).2 hs] at h
          exact .inl h
    · exact .inr ⟨k + 1, r', by simpa using h1, by rw [← tl_getD]; exact h2, h3, h4⟩
theorem after_wr {x : Nat} : ∀ {l : List Rec} {f : List Bool} {T : St}, x ∈ (after l f T).wr ↔ x ∈ T.wr ∨ ∃ (k : Nat) (r : Rec), l[k]? = some r ∧ f.getD k false = true ∧ x ∈ r.S1.wr ∧ x < T.base
  | [], f, T => by simp [after]
  | r :: l, f, T => by
    rw [after, after_wr (l := l)]
    have hb : (if f.headD false then r.upd T else r.skip T).base = T.base := by cases f.headD false <;> rfl
    have hw : x ∈ (if f.headD false then r.upd T else r.skip T).wr ↔ x ∈ T.wr ∨ (f.headD false = true ∧ x ∈ r.S1.wr ∧ x < T.base) := by
      cases f.headD false
      · simp [Rec.skip]
      · simp [Rec.upd, addWr_mem]
    rw [hb, hw]
    constructor
    · rintro ((h | ⟨h1, h2⟩) | ⟨k, r', h1, h2, h3⟩)
      · exact .inl h
      · exact .inr ⟨0, r, rfl, by rw [← hd_getD]; exact h1, h2⟩
      · exact .inr ⟨k + 1, r', by simpa using h1, by rw [← tl_getD]; exact h2, h3⟩
    · rintro (h | ⟨k, r', h1, h2, h3⟩)
      · exact .inl (.inl h)
      · cases k with
        | zero => simp at h1; subst h1; exact .inl (.inr ⟨by rw [hd_getD]; exact h2, h3⟩)
        | succ k => exact .inr ⟨k, r', by simpa using h1, by rw [tl_getD]; exact h2, h3⟩
end Go.Sx
