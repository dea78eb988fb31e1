/- A small machine that reads straight Go code as trees, and its truth. -/
import Derived.Test.YtdgjenlejalgeaaSx11
import Derived.Deep.Quiet
namespace Go.Sx

theorem mem_iff : ∀ {n : Nat} {l : List Nat}, mem n l = true ↔ n ∈ l
  | n, [] => by simp [mem]
  | n, m :: l => by simp [mem, mem_iff (n := n) (l := l)]
theorem sub_iff {l m : List Nat} : sub l m = true ↔ ∀ x ∈ l, x ∈ m := by simp [sub, allB_eq, mem_iff]
theorem disj_iff {l m : List Nat} : disj l m = true ↔ ∀ x ∈ l, x ∉ m := by
  simp only [disj, allB_eq]
  constructor
  · intro h x hx hm; have := h x hx; simp [mem_iff.2 hm] at this
  · intro h x hx; cases hb : mem x m with
    | true => exact absurd (mem_iff.1 hb) (h x hx)
    | false => rfl
theorem rangeL_iff : ∀ {n a x : Nat}, x ∈ rangeL a n ↔ a ≤ x ∧ x < a + n
  | 0, a, x => by simp only [rangeL, List.not_mem_nil, false_iff]; omega
  | n + 1, a, x => by simp only [rangeL, List.mem_cons, rangeL_iff (n := n)]; omega
theorem at2_eq {α : Type} (l : List (Option α)) (n : Nat) : at2 l n = (l[n]?).getD none := by
  unfold at2; rw [nth_eq]; cases l[n]? <;> rfl
theorem at2_some {α : Type} {l : List (Option α)} {n : Nat} {x : α} : at2 l n = some x ↔ l[n]? = some (some x) := by
  rw [at2_eq]; cases h : l[n]? <;> simp
theorem at2_set {α : Type} (l : List (Option α)) (n m : Nat) (x : Option α) (hn : n < l.length) : at2 (setAt l n x) m = if m = n then x else at2 l m := by
  rw [at2_eq, at2_eq, setAt_eq, List.getElem?_set]
  by_cases h : m = n
  · subst h; simp [hn]
  · have h' : ¬ n = m := fun e => h e.symm
    simp [h, h']
theorem at2_append {α : Type} (l m : List (Option α)) (n : Nat) : at2 (l ++ m) n = if n < l.length then at2 l n else at2 m (n - l.length) := by
  simp only [at2_eq, List.getElem?_append]; split <;> rfl
theorem at2_drop {α : Type} (l : List (Option α)) (k n : Nat) : at2 (dropN k l) n = at2 l (k + n) := by
  simp [at2_eq, dropN_eq]
theorem at2_rep {α : Type} (k n : Nat) : at2 (List.replicate k (none : Option α)) n = none := by
  rw [at2_eq, List.getElem?_replicate]; split <;> rfl
theorem at2_len {α : Type} {l : List (Option α)} {n : Nat} (h : l.length ≤ n) : at2 l n = none := by
  rw [at2_eq, List.getElem?_eq_none h]; rfl

theorem copyHp_len (fr : List (Option Blk)) : ∀ (ids : List Nat) (hp : List (Option Blk)), (copyHp fr ids hp).length = hp.length
  | [], hp => rfl
  | id :: l, hp => by simp [copyHp, copyHp_len fr l, setAt_eq]
theorem copyHp_at (fr : List (Option Blk)) : ∀ (ids : List Nat) (hp : List (Option Blk)) (n : Nat), (∀ x ∈ ids, x < hp.length) → at2 (copyHp fr ids hp) n = if n ∈ ids then at2 fr n else at2 hp n
  | [], hp, n, _ => by simp [copyHp]
  | id :: l, hp, n, h => by
    have h1 := h id (by simp)
    rw [copyHp, copyHp_at fr l _ n (fun x hx => by rw [setAt_eq, List.length_set]; exact h x (by simp [hx])), at2_set _ _ _ _ h1]
    by_cases hn : n ∈ l
    · simp [hn]
    · by_cases hi : n = id
      · subst hi; simp [hn]
      · simp [hn, hi]
theorem addWr_mem {base : Nat} : ∀ {ids wr : List Nat} {x : Nat}, x ∈ addWr base ids wr ↔ x ∈ wr ∨ (x ∈ ids ∧ x < base)
  | [], wr, x => by simp [addWr]
  | id :: l, wr, x => by
    rw [addWr, addWr_mem (ids := l)]
    cases hb : Nat.ble base id with
    | true =>
      simp only [Nat.ble_eq] at hb
      simp only [if_true, List.mem_cons]
      constructor
      · rintro (h | h); exact .inl h; exact .inr ⟨.inr h.1, h.2⟩
      · rintro (h | ⟨h | h, h'⟩); exact .inl h; omega; exact .inr ⟨h, h'⟩
    | false =>
      have hb' : ¬ base ≤ id := by intro h; rw [← Nat.ble_eq, hb] at h; cases h
      simp only [Bool.false_eq_true, if_false, List.mem_cons]
      constructor
      · rintro ((h | h) | h); exact .inr ⟨.inl h, by omega⟩; exact .inl h; exact .inr ⟨.inr h.1, h.2⟩
      · rintro (h | ⟨h | h, h'⟩); exact .inl (.inr h); exact .inl (.inl h); exact .inr ⟨h, h'⟩

theorem strike_len {α : Type} : ∀ (ns : List Nat) (l : List (Option α)), (strike l ns).length = l.length
  | [], l => rfl
  | n :: ns, l => by simp [strike, strike_len ns, setAt_eq]
theorem strike_some {α : Type} : ∀ {ns : List Nat} {l : List (Option α)} {n : Nat} {x : α}, at2 (strike l ns) n = some x → at2 l n = some x ∧ n ∉ ns
  | [], l, n, x, h => ⟨h, by simp⟩
  | m :: ns, l, n, x, h => by
    have ih := strike_some (ns := ns) h
    obtain ⟨h1, h2⟩ := ih
    by_cases hm : m < l.length
    · rw [at2_set _ _ _ _ hm] at h1
      split at h1
      · cases h1
      · rename_i hne; exact ⟨h1, by simp [hne, h2]⟩
    · have : setAt l m none = l := by rw [setAt_eq, List.set_eq_of_length_le (by omega)]
      rw [this] at h1
      refine ⟨h1, ?_⟩
      have hn : n < l.length := by
        rw [at2_some] at h1; exact nth_len h1
      simp only [List.mem_cons, not_or]
      exact ⟨by omega, h2⟩

theorem wipe_len {α : Type} : ∀ (l : List (Option α)) (m : Nat), (wipe l m).length = l.length
  | [], _ => rfl
  | x :: l, m => by
    simp only [wipe]
    split
    · rfl
    · simp [wipe_len l]
theorem wipe_some {α : Type} : ∀ {l : List (Option α)} {m n : Nat} {x : α}, at2 (wipe l m) n = some x → at2 l n = some x ∧ m.testBit n = false
  | [], m, n, x, h => by simp [wipe, at2_some] at h
  | y :: l, m, n, x, h => by
    simp only [wipe] at h
    split at h
    · rename_i h0
      have h0 := Nat.eq_of_beq_eq_true h0
      subst h0
      exact ⟨h, Nat.zero_testBit n⟩
    · cases n with
      | zero =>
        rw [at2_some] at h ⊢
        simp only [List.getElem?_cons_zero, Option.some.injEq] at h ⊢
        split at h
        · rename_i hm
          refine ⟨h, ?_⟩
          have hm : m % 2 = 0 := hm
          rw [Nat.testBit_zero]; simp [hm]
        · cases h
      | succ n =>
        have h' : at2 (wipe l (Nat.div m 2)) n = some x := by rw [at2_some] at h ⊢; simpa using h
        obtain ⟨a, b⟩ := wipe_some h'
        refine ⟨by rw [at2_some] at a ⊢; simpa using a, ?_⟩
        rw [Nat.testBit_succ]; exact b
theorem bitsL_bit : ∀ (ns : List Nat) (m n : Nat), (bitsL ns m).testBit n = (m.testBit n || mem n ns)
  | [], m, n => by simp [bitsL, mem]
  | k :: ns, m, n => by
    simp only [bitsL, bitsL_bit ns, mem]
    have e : (Nat.lor m (Nat.shiftLeft 1 k)).testBit n = (m.testBit n || Nat.beq n k) := by
      show (m ||| (1 <<< k)).testBit n = _
      rw [Nat.testBit_or, Nat.testBit_shiftLeft]
      congr 1
      by_cases h : n = k
      · subst h; simp
      · have : Nat.beq n k = false := by cases hb : Nat.beq n k with | true => exact absurd (Nat.eq_of_beq_eq_true hb) h | false => rfl
        rw [this]
        by_cases hk : k ≤ n
        · have : (1 : Nat).testBit (n - k) = false := by
            obtain ⟨d, hd⟩ : ∃ d, n - k = d + 1 := ⟨n - k - 1, by omega⟩
            rw [hd, Nat.testBit_succ]; simp
          simp [this]
        · simp [hk]
    rw [e, Bool.or_assoc]
theorem maskG_ok {bs : List Nat} {bi i : Nat} {oi : List Nat × List Nat} : ∀ {L : List (List Nat × List Nat)} {bl : List Nat} {j tm hm tm' hm' : Nat}, (∀ k, bl[k]? = bs[j + k]?) → maskG bi i oi L bl j tm hm = .ok (tm', hm') →
    (∀ n, tm.testBit n = true → tm'.testBit n = true) ∧ (∀ n, hm.testBit n = true → hm'.testBit n = true) ∧
    ∀ (k : Nat) (ok : List Nat × List Nat), L[k]? = some ok → unord bs bi i (j + k) = true → (disj oi.1 ok.1 = true ∧ disj oi.2 ok.2 = true) ∧ (∀ n ∈ ok.1, tm'.testBit n = true) ∧ ∀ n ∈ ok.2, hm'.testBit n = true
  | [], bl, j, tm, hm, tm', hm', _, h => by
    simp only [maskG] at h; cases h
    exact ⟨fun _ h => h, fun _ h => h, fun k ok hk => by simp at hk⟩
  | oj :: L, bl, j, tm, hm, tm', hm', hb, h => by
    have hb' : ∀ k, (tlM bl)[k]? = bs[j + 1 + k]? := by
      intro k
      have := hb (k + 1)
      rw [show j + (k + 1) = j + 1 + k by omega] at this
      rw [← this]
      cases bl <;> simp [tlM]
    have hu : (!Nat.beq i j && !bi.testBit j && !((hdM bl).testBit i)) = unord bs bi i j := by
      unfold unord
      have := hb 0
      rw [Nat.add_zero] at this
      rw [nth_eq, ← this]
      cases bl <;> simp [hdM]
    simp only [maskG, hu] at h
    split at h
    · rename_i hu
      split at h
      · rename_i hd
        simp only [Bool.and_eq_true] at hd
        obtain ⟨a1, a2, a3⟩ := maskG_ok hb' h
        refine ⟨fun n hn => a1 n (by rw [bitsL_bit, hn]; rfl), fun n hn => a2 n (by rw [bitsL_bit, hn]; rfl), fun k ok hk hku => ?_⟩
        cases k with
        | zero =>
          simp at hk; subst hk
          exact ⟨hd, fun n hn => a1 n (by rw [bitsL_bit, mem_iff.2 hn, Bool.or_true]), fun n hn => a2 n (by rw [bitsL_bit, mem_iff.2 hn, Bool.or_true])⟩
        | succ k => exact a3 k ok (by simpa using hk) (by rw [show j + 1 + k = j + (k + 1) by omega]; exact hku)
      · cases h
    · rename_i hu
      obtain ⟨a1, a2, a3⟩ := maskG_ok hb' h
      refine ⟨a1, a2, fun k ok hk hku => ?_⟩
      cases k with
      | zero => exact absurd hku hu
      | succ k => exact a3 k ok (by simpa using hk) (by rw [show j + 1 + k = j + (k + 1) by omega]; exact hku)
theorem maskS_ok {bs : List Nat} {bi i : Nat} {oi : List Nat × List Nat} {L : List (List Nat × List Nat)} {S M : St} (h : maskS bs bi i oi L S = .ok M) :
    M.base = S.base ∧ M.wr = S.wr ∧ M.tm.length = S.tm.length ∧ M.hp.length = S.hp.length ∧
    (∀ (k : Nat) (ok : List Nat × List Nat), L[k]? = some ok → unord bs bi i k = true → disj oi.1 ok.1 = true ∧ disj oi.2 ok.2 = true) ∧
    (∀ (t : Nat) (v : ST), at2 M.tm t = some v → at2 S.tm t = some v ∧ ∀ (k : Nat) (ok : List Nat × List Nat), L[k]? = some ok → unord bs bi i k = true → t ∉ ok.1) ∧
    (∀ (t : Nat) (v : Blk), at2 M.hp t = some v → at2 S.hp t = some v ∧ ∀ (k : Nat) (ok : List Nat × List Nat), L[k]? = some ok → unord bs bi i k = true → t ∉ ok.2) := by
  unfold maskS at h
  split at h
  · rename_i tm hm hg
    cases h
    obtain ⟨_, _, a3⟩ := maskG_ok (bs := bs) (fun k => by rw [Nat.zero_add]) hg
    simp only [Nat.zero_add] at a3
    refine ⟨rfl, rfl, wipe_len _ _, wipe_len _ _, fun k ok hk hu => (a3 k ok hk hu).1, fun t v hv => ?_, fun t v hv => ?_⟩
    · obtain ⟨b1, b2⟩ := wipe_some hv
      exact ⟨b1, fun k ok hk hu hm => by rw [(a3 k ok hk hu).2.1 t hm] at b2; cases b2⟩
    · obtain ⟨b1, b2⟩ := wipe_some hv
      exact ⟨b1, fun k ok hk hu hm => by rw [(a3 k ok hk hu).2.2 t hm] at b2; cases b2⟩
  · cases h
  · cases h

theorem badS_mem {bs : List Nat} {bi i : Nat} : ∀ {L : List (List Nat × List Nat)} {j k : Nat} {ok : List Nat × List Nat}, L[k]? = some ok → unord bs bi i (j + k) = true → ∀ x ∈ ok.2, x ∈ badS bs bi i L j
  | [], j, k, ok, h, _ => by simp at h
  | oj :: L, j, k, ok, h, hu => by
    intro x hx
    cases k with
    | zero =>
      simp at h; subst h
      simp only [Nat.add_zero] at hu
      simp only [badS, hu, if_true, List.mem_append]
      exact .inl hx
    | succ k =>
      have := badS_mem (L := L) (j := j + 1) (k := k) (by simpa using h) (by rw [show j + 1 + k = j + (k + 1) by omega]; exact hu) x hx
      simp only [badS]
      split
      · exact List.mem_append.2 (.inr this)
      · exact this

/-! ### What waits for what -/
theorem bits1_ok {acc : List Nat} {o : Oper} {m : Nat} (h : bits1 acc o = .ok m) :
    (∀ e ∈ o.after.toList, Region.binds .any e = true → ∃ me, acc[e.on]? = some me ∧ m.testBit e.on = true ∧ ∀ k, me.testBit k = true → m.testBit k = true) ∧
    (∀ k, m.testBit k = true → ∃ e ∈ o.after.toList, Region.binds .any e = true ∧ (k = e.on ∨ ∃ me, acc[e.on]? = some me ∧ me.testBit k = true)) := by
  have key : ∀ (l : List Edge) (s m : Nat), bits1.go acc l s = .ok m →
      (∀ k, s.testBit k = true → m.testBit k = true) ∧
      (∀ e ∈ l, Region.binds .any e = true → ∃ me, acc[e.on]? = some me ∧ m.testBit e.on = true ∧ ∀ k, me.testBit k = true → m.testBit k = true) ∧
      (∀ k, m.testBit k = true → s.testBit k = true ∨ ∃ e ∈ l, Region.binds .any e = true ∧ (k = e.on ∨ ∃ me, acc[e.on]? = some me ∧ me.testBit k = true)) := by
    intro l
    induction l with
    | nil => intro s m h; simp only [bits1.go] at h; cases h; exact ⟨fun k h => h, by simp, fun k h => .inl h⟩
    | cons e l ih =>
      intro s m h
      simp only [bits1.go] at h
      split at h
      · rename_i hb
        simp only [R.bind_ok] at h
        obtain ⟨me, hme, h⟩ := h
        have hme := getR_ok.1 hme
        obtain ⟨a1, a2, a3⟩ := ih _ _ h
        have bit : ∀ k, (s ||| 2 ^ e.on ||| me).testBit k = (s.testBit k || decide (e.on = k) || me.testBit k) := by
          intro k; simp [Nat.testBit_or, Nat.testBit_two_pow]
        refine ⟨fun k hk => a1 k (by rw [bit]; simp [hk]), ?_, ?_⟩
        · intro e' he' hb'
          rcases List.mem_cons.1 he' with rfl | he'
          · exact ⟨me, hme, a1 _ (by rw [bit]; simp), fun k hk => a1 k (by rw [bit]; simp [hk])⟩
          · exact a2 e' he' hb'
        · intro k hk
          rcases a3 k hk with h' | ⟨e', he', h'⟩
          · rw [bit] at h'
            simp only [Bool.or_eq_true, decide_eq_true_eq] at h'
            rcases h' with (h' | h') | h'
            · exact .inl h'
            · exact .inr ⟨e, by simp, hb, .inl h'.symm⟩
            · exact .inr ⟨e, by simp, hb, .inr ⟨me, hme, h'⟩⟩
          · exact .inr ⟨e', by simp [he'], h'⟩
      · rename_i hb
        obtain ⟨a1, a2, a3⟩ := ih _ _ h
        refine ⟨a1, ?_, ?_⟩
        · intro e' he' hb'
          rcases List.mem_cons.1 he' with rfl | he'
          · exact absurd hb' hb
          · exact a2 e' he' hb'
        · intro k hk
          rcases a3 k hk with h' | ⟨e', he', h'⟩
          · exact .inl h'
          · exact .inr ⟨e', by simp [he'], h'⟩
  obtain ⟨_, a2, a3⟩ := key _ _ _ h
  refine ⟨a2, fun k hk => ?_⟩
  rcases a3 k hk with h' | h'
  · simp at h'
  · exact h'

/-- All of it: of operation 'i' the bits are of earlier ones, and closed. -/
theorem bitsAll_ok : ∀ {l : List Oper} {acc bs : List Nat}, bitsAll l acc = .ok bs → bs.length = acc.length + l.length ∧ (∀ i, i < acc.length → bs[i]? = acc[i]?) ∧
    ∀ (k : Nat) (o : Oper), l[k]? = some o → ∃ m, bs[acc.length + k]? = some m ∧
      (∀ e ∈ o.after.toList, Region.binds .any e = true → e.on < acc.length + k ∧ ∃ me, bs[e.on]? = some me ∧ m.testBit e.on = true ∧ ∀ x, me.testBit x = true → m.testBit x = true) ∧
      (∀ x, m.testBit x = true → ∃ e ∈ o.after.toList, Region.binds .any e = true ∧ (x = e.on ∨ ∃ me, bs[e.on]? = some me ∧ me.testBit x = true))
  | [], acc, bs, h => by simp only [bitsAll] at h; cases h; simp
  | o :: l, acc, bs, h => by
    simp only [bitsAll, R.bind_ok] at h
    obtain ⟨m, hm, h⟩ := h
    obtain ⟨a1, a2, a3⟩ := bitsAll_ok h
    have old : ∀ i, i < acc.length → bs[i]? = acc[i]? := by
      intro i hi
      rw [a2 i (by simp; omega), List.getElem?_append_left hi]
    have here : bs[acc.length]? = some m := by
      rw [a2 acc.length (by simp)]; simp
    refine ⟨by rw [a1]; simp; omega, old, ?_⟩
    intro k o' hk
    cases k with
    | zero =>
      simp at hk; subst hk
      obtain ⟨b1, b2⟩ := bits1_ok hm
      refine ⟨m, by simpa using here, ?_, ?_⟩
      · intro e he hb
        obtain ⟨me, c1, c2, c3⟩ := b1 e he hb
        have := nth_len c1
        exact ⟨by omega, me, by rw [old _ this]; exact c1, c2, c3⟩
      · intro x hx
        obtain ⟨e, he, hb, h'⟩ := b2 x hx
        refine ⟨e, he, hb, ?_⟩
        rcases h' with h' | ⟨me, c1, c2⟩
        · exact .inl h'
        · exact .inr ⟨me, by rw [old _ (nth_len c1)]; exact c1, c2⟩
    | succ k =>
      obtain ⟨m', c1, c2, c3⟩ := a3 k o' (by simpa using hk)
      simp only [List.length_append, List.length_cons, List.length_nil] at c1 c2
      exact ⟨m', by rw [show acc.length + (k + 1) = acc.length + (0 + 1) + k by omega]; exact c1, fun e he hb => by
        obtain ⟨d1, d2⟩ := c2 e he hb
        exact ⟨by omega, d2⟩, c3⟩
end Go.Sx
