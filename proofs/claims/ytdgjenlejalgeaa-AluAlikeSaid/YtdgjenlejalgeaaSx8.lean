/- A small machine that reads straight Go code as trees, and its truth. -/
import Derived.Test.YtdgjenlejalgeaaSx7d
import Derived.Below
import Derived.Orders
namespace Go.Sx

section
variable {P : Program} {A : Known} {ρ : Env} {β β' : Nat → Nat} {S S1 : St} {wr w w' : World} {a : Act}

theorem Rep.lt (hR : Rep ρ β S wr w) {id : Nat} {b : Blk} (h : S.hp[id]? = some (some b)) : β id < w.heap.size :=
  (Array.getElem?_eq_some_iff.1 (hR.blk id b h)).1

/-- The same memory by another naming that agrees. -/
theorem Rep.agree (hR : Rep ρ β S wr w) (hb : ∀ i, i < S.hp.length → β' i = β i) : Rep ρ β' S wr w := by
  have lt : ∀ {id : Nat} {b : Blk}, S.hp[id]? = some (some b) → id < S.hp.length := fun h => (List.getElem?_eq_some_iff.1 h).1
  refine ⟨fun id b h => ?_, hR.bok, fun id b h => ?_, fun id b h => ?_, fun i j b c h k => ?_, fun k hk h => ?_, hR.size, hR.os, hR.tape, hR.output, hR.wrs, hR.bs, fun e he => ⟨(hR.row e he).1, fun id b h => by rw [hb id (lt h)]; exact (hR.row e he).2 id b h⟩⟩
  · rw [hb id (lt h), Blk.ok_obj hb (hR.bok id b h)]; exact hR.blk id b h
  · rw [hb id (lt h)]; exact hR.old id b h
  · intro hbs
    rw [hb id (lt h)]
    rcases hR.new id b h hbs with h1 | ⟨o, ho, h1⟩
    · exact .inl h1
    · exact .inr ⟨o, ho, by rw [hb o (Nat.lt_of_lt_of_le (hR.wrs o ho) hR.bs)]; exact h1⟩
  · rw [hb i (lt h), hb j (lt k)]; exact hR.inj i j b c h k
  · exact hR.frame k hk fun id hid => by rw [← hb id (Nat.lt_of_lt_of_le (hR.wrs id hid) hR.bs)]; exact h id hid
theorem RepA.agree (hT : RepA ρ β S a) (hb : ∀ i, i < S.hp.length → β' i = β i) : RepA ρ β' S a :=
  ⟨hT.sz, fun t v h => by rw [ST.fits_den hb (hT.tok t v h)]; exact hT.tm t v h, hT.tok, hT.df⟩

/-- Memory that has only grown. -/
theorem Rep.below (hR : Rep ρ β S wr w) (hb : RowKit.Below w.heap.size w w') : Rep ρ β S wr w' := by
  refine ⟨fun id b h => ?_, hR.bok, hR.old, hR.new, hR.inj, fun k hk h => ?_, Nat.le_trans hR.size hb.size, hb.os.trans hR.os, hb.tape.trans hR.tape, hb.output.trans hR.output, hR.wrs, hR.bs, fun e he => ⟨?_, (hR.row e he).2⟩⟩
  · rw [hb.block _ (hR.lt h)]; exact hR.blk id b h
  · rw [hb.block k (Nat.lt_of_lt_of_le hk hR.size)]; exact hR.frame k hk h
  · rw [hb.block _ (Array.getElem?_eq_some_iff.1 (hR.row e he).1).1]; exact (hR.row e he).1

/-- Looked back to from here. -/
theorem Rep.here (hR : Rep ρ β S wr w) : Rep ρ β { S with base := len S.hp, wr := [] } w w := by
  refine ⟨hR.blk, hR.bok, fun id b h _ => hR.lt h, fun id b h hb => ?_, hR.inj, fun _ _ _ => rfl, Nat.le_refl _, rfl, rfl, rfl, fun id h => by simp at h, by simp [len_eq], hR.row⟩
  have h1 := (List.getElem?_eq_some_iff.1 h).1
  simp only [len_eq] at hb
  exact absurd h1 (Nat.not_lt_of_le hb)

theorem Rep.belowOf (hR : Rep ρ β S wr w) (h : S.wr = []) : RowKit.Below wr.heap.size wr w :=
  ⟨hR.os, hR.tape, hR.output, hR.size, fun k hk => hR.frame k hk fun id hid => by rw [h] at hid; simp at hid⟩

theorem nth_len {α : Type} {l : List α} {n : Nat} {x : α} (h : l[n]? = some x) : n < l.length := (List.getElem?_eq_some_iff.1 h).1

/-- An effect. -/
theorem eff_ok {e : Ef} (hR : Rep ρ β S wr w) (he : EffOk ρ S e w w' β β') (h : S.eff e = .ok S1) :
    Rep ρ β' S1 wr w' ∧ (∀ i, i < S.hp.length → β' i = β i) ∧ S.hp.length ≤ S1.hp.length ∧ S1.base = S.base ∧ S1.tm = S.tm := by
  cases e with
  | none =>
    simp only [St.eff] at h; cases h
    obtain ⟨rfl, rfl⟩ := he
    exact ⟨hR, fun _ _ => rfl, Nat.le_refl _, rfl, rfl⟩
  | new b =>
    simp only [St.eff] at h
    split at h
    · rename_i hok
      cases h
      obtain ⟨rfl, hβ⟩ := he
      rw [len_eq] at hok
      have hag : ∀ i, i < S.hp.length → β' i = β i := by
        intro i hi; rw [hβ]; simp only; rw [if_neg (by omega)]
      have hnew : β' S.hp.length = w.heap.size := by rw [hβ]; simp only [if_true]
      clear hβ
      have get : ∀ {id : Nat} {c : Blk}, (S.hp ++ [some b])[id]? = some (some c) → (id < S.hp.length ∧ S.hp[id]? = some (some c)) ∨ (id = S.hp.length ∧ c = b) := by
        intro id c hc
        rw [List.getElem?_append] at hc
        split at hc
        · rename_i hlt; exact .inl ⟨hlt, hc⟩
        · rename_i hge
          have hi : id - S.hp.length < 1 := by simpa using nth_len hc
          have hid : id = S.hp.length := by omega
          subst hid
          simp at hc
          exact .inr ⟨rfl, hc.symm⟩
      have hgrow : RowKit.Below w.heap.size w (w.alloc (b.obj ρ β)) := (RowKit.Below.refl _ _).alloc (Nat.le_refl _) _
      refine ⟨⟨?_, ?_, ?_, ?_, ?_, ?_, ?_, hR.os, hR.tape, hR.output, hR.wrs, ?_, ?_⟩, hag, by simp, rfl, rfl⟩
      · intro id c hc
        rcases get hc with ⟨h1, h2⟩ | ⟨rfl, rfl⟩
        · rw [hag id h1, Blk.ok_obj hag (hR.bok id c h2), hgrow.block _ (hR.lt h2)]; exact hR.blk id c h2
        · rw [hnew, Blk.ok_obj hag hok]
          show ((w.heap.push _)[w.heap.size]?) = _
          rw [Array.getElem?_push_size]
      · intro id c hc
        simp only [List.length_append, List.length_cons, List.length_nil]
        rcases get hc with ⟨h1, h2⟩ | ⟨rfl, rfl⟩
        · exact Blk.ok_mono (by omega) (hR.bok id c h2)
        · exact Blk.ok_mono (by omega) hok
      · intro id c hc hb
        rcases get hc with ⟨h1, h2⟩ | ⟨rfl, rfl⟩
        · rw [hag id h1]; exact hR.old id c h2 hb
        · have := hR.bs; simp only at hb; omega
      · intro id c hc hb
        rcases get hc with ⟨h1, h2⟩ | ⟨rfl, rfl⟩
        · rw [hag id h1]
          rcases hR.new id c h2 hb with h3 | ⟨o, ho, h3⟩
          · exact .inl h3
          · exact .inr ⟨o, ho, by rw [hag o (Nat.lt_of_lt_of_le (hR.wrs o ho) hR.bs)]; exact h3⟩
        · rw [hnew]; exact .inl hR.size
      · intro i j c d hi hj hij
        rcases get hi with ⟨h1, h2⟩ | ⟨rfl, rfl⟩ <;> rcases get hj with ⟨h3, h4⟩ | ⟨rfl, rfl⟩
        · rw [hag i h1, hag j h3] at hij; exact hR.inj i j c d h2 h4 hij
        · rw [hag i h1, hnew] at hij; have := hR.lt h2; omega
        · rw [hag j h3, hnew] at hij; have := hR.lt h4; omega
        · rfl
      · intro k hk h
        rw [hgrow.block k (Nat.lt_of_lt_of_le hk hR.size)]
        refine hR.frame k hk fun id hid => ?_
        have := hag id (Nat.lt_of_lt_of_le (hR.wrs id hid) hR.bs)
        rw [← this]; exact h id hid
      · exact Nat.le_trans hR.size hgrow.size
      · simp only [List.length_append, List.length_cons, List.length_nil]; have := hR.bs; omega
      · intro e he
        have hlt := (Array.getElem?_eq_some_iff.1 (hR.row e he).1).1
        refine ⟨by rw [hgrow.block _ hlt]; exact (hR.row e he).1, fun id c hc => ?_⟩
        rcases get hc with ⟨h1, h2⟩ | ⟨rfl, rfl⟩
        · rw [hag id h1]; exact (hR.row e he).2 id c h2
        · rw [hnew]; exact Nat.ne_of_gt hlt
    · cases h
  | upd id b =>
    simp only [St.eff] at h
    split at h
    · rename_i hok
      cases h
      obtain ⟨rfl, rfl, old, hold, helem, hspe⟩ := he
      rw [len_eq] at hok
      have hlt := nth_len hold
      have hrow : (putBlk w (β' id) b ρ β').heap[β' id]? = some (b.obj ρ β') := by
        have := hR.blk id old hold
        simp only [Blk.obj] at this ⊢
        unfold putBlk
        rw [setRow_heap w (β' id) _ _ _ _ this, helem]
      have hoth : ∀ k, k ≠ β' id → (putBlk w (β' id) b ρ β').heap[k]? = w.heap[k]? := fun k hk => setRow_other w _ k _ hk
      have hsz : (putBlk w (β' id) b ρ β').heap.size = w.heap.size := setRow_size _ _ _
      have get : ∀ {j : Nat} {c : Blk}, (S.hp.set id (some b))[j]? = some (some c) → (j = id ∧ c = b) ∨ (j ≠ id ∧ S.hp[j]? = some (some c)) := by
        intro j c hc
        rw [List.getElem?_set] at hc
        split at hc
        · rename_i hji; subst hji; simp only [Option.some.injEq] at hc; exact .inl ⟨rfl, hc.symm⟩
        · rename_i hji; exact .inr ⟨fun e => hji e.symm, hc⟩
      have hwr : ∀ x, x ∈ (if Nat.ble S.base id then S.wr else id :: S.wr) ↔ (x ∈ S.wr ∨ (x = id ∧ id < S.base)) := by
        intro x
        cases hb : Nat.ble S.base id with
        | true =>
          simp only [Nat.ble_eq] at hb
          simp only [if_true]
          constructor
          · exact .inl
          · rintro (h | h); exact h; omega
        | false =>
          have : ¬ S.base ≤ id := by intro h; rw [← Nat.ble_eq, hb] at h; cases h
          simp only [Bool.false_eq_true, if_false, List.mem_cons]
          constructor
          · rintro (h | h); exact .inr ⟨h, by omega⟩; exact .inl h
          · rintro (h | h); exact .inr h; exact .inl h.1
      refine ⟨⟨?_, ?_, ?_, ?_, ?_, ?_, ?_, hR.os, hR.tape, hR.output, ?_, ?_, ?_⟩, fun _ _ => rfl, by simp [setAt_eq], rfl, rfl⟩
      all_goals (try simp only [setAt_eq, List.length_set])
      · intro j c hc
        rcases get hc with ⟨rfl, rfl⟩ | ⟨h1, h2⟩
        · exact hrow
        · rw [hoth _ fun e => h1 (hR.inj j id c old h2 hold e)]; exact hR.blk j c h2
      · intro j c hc
        rcases get hc with ⟨rfl, rfl⟩ | ⟨h1, h2⟩
        · exact hok
        · exact hR.bok j c h2
      · intro j c hc
        rcases get hc with ⟨rfl, rfl⟩ | ⟨h1, h2⟩
        · exact hR.old j old hold
        · exact hR.old j c h2
      · intro j c hc
        intro hbs
        have up : ∀ {x}, (wr.heap.size ≤ β' x ∨ ∃ o ∈ S.wr, β' x = β' o) → (wr.heap.size ≤ β' x ∨ ∃ o ∈ (if Nat.ble S.base id then S.wr else id :: S.wr), β' x = β' o) := by
          rintro x (h3 | ⟨o, ho, h3⟩)
          · exact .inl h3
          · exact .inr ⟨o, (hwr o).2 (.inl ho), h3⟩
        rcases get hc with ⟨rfl, rfl⟩ | ⟨h1, h2⟩
        · exact up (hR.new j old hold hbs)
        · exact up (hR.new j c h2 hbs)
      · intro i j c d hi hj
        rcases get hi with ⟨rfl, rfl⟩ | ⟨h1, h2⟩ <;> rcases get hj with ⟨rfl, rfl⟩ | ⟨h3, h4⟩
        · exact fun _ => rfl
        · exact hR.inj _ _ _ _ hold h4
        · exact hR.inj _ _ _ _ h2 hold
        · exact hR.inj _ _ _ _ h2 h4
      · intro k hk h
        have hne : k ≠ β' id := by
          by_cases hb : id < S.base
          · exact h id ((hwr id).2 (.inr ⟨rfl, hb⟩))
          · rcases hR.new id old hold (by omega) with h3 | ⟨o, ho, h3⟩
            · omega
            · rw [h3]; exact h o ((hwr o).2 (.inl ho))
        rw [hoth k hne]
        exact hR.frame k hk fun x hx => h x ((hwr x).2 (.inl hx))
      · rw [hsz]; exact hR.size
      · intro x hx
        rcases (hwr x).1 hx with h | ⟨rfl, h⟩
        · exact hR.wrs x h
        · exact h
      · exact hR.bs
      · intro e he
        refine ⟨by rw [hoth _ fun k => (hR.row e he).2 id old hold k.symm]; exact (hR.row e he).1, fun j c hc => ?_⟩
        rcases get hc with ⟨rfl, rfl⟩ | ⟨h1, h2⟩
        · exact (hR.row e he).2 _ old hold
        · exact (hR.row e he).2 j c h2
    · cases h
  | app old b =>
    obtain ⟨g, cap, hβ, hg, hoth, hsz, hos, htp, hout, hfrom⟩ := he
    have main : ∀ (hp0 : List (Option Blk)) (wr0 : List Nat), hp0.length = S.hp.length → (∀ (j : Nat) (c : Blk), hp0[j]? = some (some c) → S.hp[j]? = some (some c) ∧ ∀ o, old = some o → j ≠ o) →
        (∀ x, x ∈ wr0 ↔ x ∈ S.wr ∨ (old = some x ∧ x < S.base)) →
        b.ok (S.hp.length + 2) = true → S1 = { S with hp := hp0 ++ [some b, none], wr := wr0 } →
        Rep ρ β' S1 wr w' ∧ (∀ i, i < S.hp.length → β' i = β i) ∧ S.hp.length ≤ S1.hp.length ∧ S1.base = S.base ∧ S1.tm = S.tm := by
      intro hp0 wr0 hl hget hwr hok hS
      subst hS
      have hag : ∀ i, i < S.hp.length → β' i = β i := by
        intro i hi; rw [hβ]; simp only; rw [if_neg (by omega), if_neg (by omega)]
      have hbs := hR.bs
      have hnew : β' S.hp.length = g := by rw [hβ]; simp only [if_true]
      have get : ∀ {id : Nat} {c : Blk}, (hp0 ++ [some b, none])[id]? = some (some c) → (id < S.hp.length ∧ S.hp[id]? = some (some c) ∧ β id ≠ g) ∨ (id = S.hp.length ∧ c = b) := by
        intro id c hc
        rw [List.getElem?_append] at hc
        split at hc
        · rename_i hlt
          obtain ⟨h1, h2⟩ := hget id c hc
          refine .inl ⟨by omega, h1, ?_⟩
          rcases hfrom with h3 | ⟨o, ob, h3, h4, h5⟩
          · have := hR.lt h1; omega
          · rw [h5]
            intro hh
            exact h2 o h3 (hR.inj _ _ _ _ h1 h4 hh)
        · rename_i hge
          have hi : id - hp0.length < 2 := by simpa using nth_len hc
          have hid : id = hp0.length ∨ id = hp0.length + 1 := by omega
          rcases hid with rfl | rfl
          · simp at hc
            exact .inr ⟨hl, hc.symm⟩
          · simp at hc
      have old' : ∀ o, o ∈ wr0 → o < S.base := by
        intro o ho
        rcases (hwr o).1 ho with h1 | ⟨_, h1⟩
        · exact hR.wrs o h1
        · exact h1
      have gnew : wr.heap.size ≤ g ∨ ∃ o ∈ wr0, g = β' o := by
        rcases hfrom with h3 | ⟨o, ob, h3, h4, h5⟩
        · exact .inl (Nat.le_trans hR.size h3)
        · by_cases hb : o < S.base
          · exact .inr ⟨o, (hwr o).2 (.inr ⟨h3, hb⟩), by rw [hag o (by omega)]; exact h5⟩
          · rcases hR.new o ob h4 (by omega) with h6 | ⟨o2, h7, h6⟩
            · exact .inl (by omega)
            · exact .inr ⟨o2, (hwr o2).2 (.inl h7), by rw [hag o2 (by have := hR.wrs o2 h7; omega), h5]; exact h6⟩
      refine ⟨⟨?_, ?_, ?_, ?_, ?_, ?_, ?_, hos.trans hR.os, htp.trans hR.tape, hout.trans hR.output, old', ?_, ?_⟩, hag, by simp [hl], rfl, rfl⟩
      · intro id c hc
        rcases get hc with ⟨h1, h2, h3⟩ | ⟨rfl, rfl⟩
        · rw [hag id h1, Blk.ok_obj hag (hR.bok id c h2), hoth _ (hR.lt h2) h3]; exact hR.blk id c h2
        · rw [hnew]; exact hg
      · intro id c hc
        simp only [List.length_append, List.length_cons, List.length_nil, hl]
        rcases get hc with ⟨h1, h2, h3⟩ | ⟨rfl, rfl⟩
        · exact Blk.ok_mono (by omega) (hR.bok id c h2)
        · exact hok
      · intro id c hc hb
        rcases get hc with ⟨h1, h2, h3⟩ | ⟨rfl, rfl⟩
        · rw [hag id h1]; exact hR.old id c h2 hb
        · simp only at hb; omega
      · intro id c hc hb
        rcases get hc with ⟨h1, h2, h3⟩ | ⟨rfl, rfl⟩
        · rw [hag id h1]
          rcases hR.new id c h2 hb with h4 | ⟨o, ho, h4⟩
          · exact .inl h4
          · exact .inr ⟨o, (hwr o).2 (.inl ho), by rw [hag o (by have := hR.wrs o ho; omega)]; exact h4⟩
        · rw [hnew]; exact gnew
      · intro i j c d hi hj hij
        rcases get hi with ⟨h1, h2, h3⟩ | ⟨rfl, rfl⟩ <;> rcases get hj with ⟨h4, h5, h6⟩ | ⟨rfl, rfl⟩
        · rw [hag i h1, hag j h4] at hij; exact hR.inj i j c d h2 h5 hij
        · rw [hag i h1, hnew] at hij; exact absurd hij h3
        · rw [hag j h4, hnew] at hij; exact absurd hij.symm h6
        · rfl
      · intro k hk h
        have hne : k ≠ g := by
          rcases gnew with h3 | ⟨o, ho, h3⟩
          · omega
          · rw [h3]; exact h o ho
        rw [hoth k (Nat.lt_of_lt_of_le hk hR.size) hne]
        refine hR.frame k hk fun id hid => ?_
        have := hag id (Nat.lt_of_lt_of_le (hR.wrs id hid) hR.bs)
        rw [← this]; exact h id ((hwr id).2 (.inl hid))
      · exact Nat.le_trans hR.size hsz
      · simp only [List.length_append, List.length_cons, List.length_nil, hl]; omega
      · intro e he
        have hlt := (Array.getElem?_eq_some_iff.1 (hR.row e he).1).1
        have hne : (ρ.x e).adr.block ≠ g := by
          rcases hfrom with h3 | ⟨o, ob, h3, h4, h5⟩
          · omega
          · rw [h5]; exact fun k => (hR.row e he).2 o ob h4 k.symm
        refine ⟨by rw [hoth _ hlt hne]; exact (hR.row e he).1, fun id c hc => ?_⟩
        rcases get hc with ⟨h1, h2, h3⟩ | ⟨rfl, rfl⟩
        · rw [hag id h1]; exact (hR.row e he).2 id c h2
        · rw [hnew]; exact fun k => hne k.symm
    cases old with
    | none =>
      simp only [St.eff] at h
      split at h
      · rename_i hok
        cases h
        rw [len_eq] at hok
        exact main S.hp S.wr rfl (fun j c hj => ⟨hj, fun o ho => by cases ho⟩) (fun x => by simp) hok rfl
      · cases h
    | some id =>
      simp only [St.eff] at h
      split at h
      · rename_i hok
        cases h
        rw [len_eq] at hok
        refine main (setAt S.hp id none) _ (by simp [setAt_eq]) (fun j c hj => ?_) (fun x => ?_) hok rfl
        · rw [setAt_eq, List.getElem?_set] at hj
          split at hj
          · split at hj <;> simp at hj
          · rename_i hne
            exact ⟨hj, fun o ho => by cases ho; exact fun e => hne e.symm⟩
        · cases hb : Nat.ble S.base id with
          | true =>
            simp only [Nat.ble_eq] at hb
            simp only [if_true, Option.some.injEq]
            constructor
            · exact .inl
            · rintro (h | ⟨rfl, h⟩)
              · exact h
              · omega
          | false =>
            have : ¬ S.base ≤ id := by intro h; rw [← Nat.ble_eq, hb] at h; cases h
            simp only [Bool.false_eq_true, if_false, List.mem_cons, Option.some.injEq]
            constructor
            · rintro (rfl | h)
              · exact .inr ⟨rfl, by omega⟩
              · exact .inl h
            · rintro (h | ⟨rfl, _⟩)
              · exact .inr h
              · exact .inl rfl
      · cases h

theorem put_ok {d : Option Tmp} {v : ST} (hR : Rep ρ β S wr w) (hT : RepA ρ β S a) (h : S.put d v = .ok S1) :
    Rep ρ β S1 wr w ∧ RepA ρ β S1 (a.put d (v.den ρ β)) ∧ S1.hp = S.hp ∧ S1.base = S.base ∧ S1.wr = S.wr ∧ S1.tm.length = S.tm.length := by
  cases d with
  | none =>
    simp only [St.put] at h; cases h
    exact ⟨hR, hT, rfl, rfl, rfl, rfl⟩
  | some t =>
    simp only [St.put] at h
    split at h
    · rename_i hf
      cases h
      rw [len_eq] at hf
      refine ⟨⟨hR.blk, hR.bok, hR.old, hR.new, hR.inj, hR.frame, hR.size, hR.os, hR.tape, hR.output, hR.wrs, hR.bs, hR.row⟩, ⟨?_, ?_, ?_, hT.df⟩, rfl, rfl, rfl, by simp [setAt_eq]⟩
      · simp [Act.put, setAt_eq, hT.sz]
      · intro u x hx
        simp only [setAt_eq, List.getElem?_set] at hx
        simp only [Act.put, Array.getElem?_setIfInBounds]
        split at hx
        · rename_i htu
          split at hx
          · rename_i hlt
            simp only [Option.some.injEq] at hx
            subst hx; subst htu
            rw [if_pos rfl, if_pos (by rw [hT.sz]; exact hlt)]
          · cases hx
        · rename_i htu
          rw [if_neg htu]
          exact hT.tm u x hx
      · intro u x hx
        simp only [setAt_eq, List.getElem?_set] at hx
        split at hx
        · split at hx
          · simp only [Option.some.injEq] at hx; subst hx; exact hf
          · cases hx
        · exact hT.tok u x hx
    · cases h
end
end Go.Sx
