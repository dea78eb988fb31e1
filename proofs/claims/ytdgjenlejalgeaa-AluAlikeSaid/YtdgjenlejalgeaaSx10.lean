/- A small machine that reads straight Go code as trees, and its truth. -/
import Derived.Test.YtdgjenlejalgeaaSx9
import Derived.LoopN
namespace Go.Sx

section
variable {P : Program} {A : Known} {ρ : Env} {β β' : Nat → Nat} {S S1 S2 : St} {wr w w' : World} {a : Act}

/-! ### Two made one -/
theorem listB_eq : ∀ {l m : List UInt8}, valB.listB l m = true → l = m
  | [], [], _ => rfl
  | [], _ :: _, h => by simp [valB.listB] at h
  | _ :: _, [], h => by simp [valB.listB] at h
  | a :: l, b :: m, h => by
    simp only [valB.listB, Bool.and_eq_true] at h
    rw [UInt8.toNat_inj.1 (Nat.eq_of_beq_eq_true h.1), listB_eq h.2]
theorem valB_eq {x y : Value} (h : valB x y = true) : x = y := by
  unfold valB at h
  split at h
  · rename_i a b
    have := listB_eq h
    congr 1
    obtain ⟨⟨a⟩⟩ := a
    obtain ⟨⟨b⟩⟩ := b
    simp at this
    rw [this]
  · rfl
  · simp only [Bool.and_eq_true] at h
    rw [Nat.eq_of_beq_eq_true h.1, Nat.eq_of_beq_eq_true h.2]
  · rfl
  · rfl
  · rfl
  · cases h
theorem capsB_eq : ∀ {l m : List (Nat × Nat)}, capsB l m = true → l = m
  | [], [], _ => rfl
  | [], _ :: _, h => by simp [capsB] at h
  | _ :: _, [], h => by simp [capsB] at h
  | (a, b) :: l, (c, d) :: m, h => by
    simp only [capsB, Bool.and_eq_true] at h
    rw [Nat.eq_of_beq_eq_true h.1.1, Nat.eq_of_beq_eq_true h.1.2, capsB_eq h.2]

theorem mergeC_ok {c : X} {x y z : SC} (h : mergeC c x y = some z) : z.den ρ β = if c.B ρ then x.den ρ β else y.den ρ β := by
  unfold mergeC at h
  split at h
  · split at h
    · rename_i hk; cases h; obtain rfl := kN_inj hk; simp only [SC.den, I_mkIte]; split <;> rfl
    · cases h
  · cases h; simp only [SC.den, B_mkIteB]; split <;> rfl
  · split at h
    · rename_i hk; cases h; simp only [Bool.and_eq_true] at hk
      rw [Nat.eq_of_beq_eq_true hk.1, Nat.eq_of_beq_eq_true hk.2]; simp
    · cases h
  · split at h
    · rename_i hk; cases h; simp only [Bool.and_eq_true] at hk
      rw [Nat.eq_of_beq_eq_true hk.1.1.1, Nat.eq_of_beq_eq_true hk.1.1.2, Nat.eq_of_beq_eq_true hk.1.2, Nat.eq_of_beq_eq_true hk.2]; simp
    · cases h
  · split at h
    · rename_i hk; cases h; rw [valB_eq hk]; simp
    · cases h
  · split at h
    · rename_i hk; cases h; rw [Nat.eq_of_beq_eq_true hk]; simp
    · cases h
  · split at h
    · rename_i hk; cases h; simp only [Bool.and_eq_true] at hk
      rw [Nat.eq_of_beq_eq_true hk.1, capsB_eq hk.2]; simp
    · cases h
  · split at h
    · rename_i hk; cases h; simp only [Bool.and_eq_true] at hk
      rw [Nat.eq_of_beq_eq_true hk.1, Nat.eq_of_beq_eq_true hk.2]; simp
    · cases h
  · split at h
    · rename_i hk; cases h; simp only [Bool.and_eq_true] at hk
      obtain rfl := Nat.eq_of_beq_eq_true hk.1
      obtain rfl := Nat.eq_of_beq_eq_true hk.2
      simp only [SC.den, I_mkIte]; split <;> rfl
    · cases h
  · split at h
    · rename_i hk; cases h
      obtain rfl := segsB_eq hk
      simp
    · cases h
  · split at h
    · rename_i hk; cases h; simp only [Bool.and_eq_true] at hk
      obtain rfl := Nat.eq_of_beq_eq_true hk.1
      obtain rfl := X.eqb_eq hk.2
      simp
    · cases h
  · split at h
    · rename_i hk; cases h
      obtain rfl := Nat.eq_of_beq_eq_true hk
      simp only [SC.den, I_mkIte]; cases c.B ρ <;> rfl
    · cases h
  · cases h
theorem mergeCs_ok {c : X} : ∀ {x y z : List SC}, mergeCs c x y = some z → dens ρ β z = if c.B ρ then dens ρ β x else dens ρ β y
  | [], [], z, h => by simp only [mergeCs] at h; cases h; simp
  | [], _ :: _, z, h => by simp [mergeCs] at h
  | _ :: _, [], z, h => by simp [mergeCs] at h
  | a :: l, b :: m, z, h => by
    simp only [mergeCs] at h
    split at h
    · rename_i u hu
      split at h
      · rename_i r hr
        cases h
        have h1 := mergeC_ok (ρ := ρ) (β := β) hu
        have h2 := mergeCs_ok hr
        simp only [dens, List.map_cons] at h2 ⊢
        rw [h1, h2]
        split <;> rfl
      · cases h
    · cases h
theorem mergeV_ok {c : X} {x y z : SV} (h : mergeV c x y = some z) : z.den ρ β = if c.B ρ then x.den ρ β else y.den ρ β := by
  unfold mergeV at h
  split at h
  · simp only [Option.map_eq_some_iff] at h
    obtain ⟨u, hu, rfl⟩ := h
    exact mergeC_ok hu
  · simp only [Option.map_eq_some_iff] at h
    obtain ⟨u, hu, rfl⟩ := h
    have := mergeCs_ok (ρ := ρ) (β := β) hu
    simp only [dens] at this
    simp only [SV.den, this]
    split <;> rfl
  · cases h
theorem mergeVs_ok {c : X} : ∀ {x y z : List SV}, mergeVs c x y = some z → z.map (SV.den ρ β) = if c.B ρ then x.map (SV.den ρ β) else y.map (SV.den ρ β)
  | [], [], z, h => by simp only [mergeVs] at h; cases h; simp
  | [], _ :: _, z, h => by simp [mergeVs] at h
  | _ :: _, [], z, h => by simp [mergeVs] at h
  | a :: l, b :: m, z, h => by
    simp only [mergeVs] at h
    split at h
    · rename_i u hu
      split at h
      · rename_i r hr
        cases h
        have h1 := mergeV_ok (ρ := ρ) (β := β) hu
        have h2 := mergeVs_ok hr
        simp only [List.map_cons] at h2 ⊢
        rw [h1, h2]
        split <;> rfl
      · cases h
    · cases h
theorem mergeT_ok {c : X} {x y z : ST} (h : mergeT c x y = some z) : z.den ρ β = if c.B ρ then x.den ρ β else y.den ρ β := by
  unfold mergeT at h
  split at h
  · simp only [Option.map_eq_some_iff] at h
    obtain ⟨u, hu, rfl⟩ := h
    exact mergeV_ok hu
  · simp only [Option.map_eq_some_iff] at h
    obtain ⟨u, hu, rfl⟩ := h
    have := mergeVs_ok (ρ := ρ) (β := β) hu
    simp only [ST.den, this]
    split <;> rfl
  · cases h

theorem mergeTm_ok {c : X} {n : Nat} : ∀ {l m r : List (Option ST)}, mergeTm c n l m = some r → r.length = l.length ∧ r.length = m.length ∧
    ∀ (t : Nat) (z : ST), r[t]? = some (some z) → z.fits n = true ∧ ∃ x y : ST, l[t]? = some (some x) ∧ m[t]? = some (some y) ∧ ∀ (ρ : Env) (β : Nat → Nat), z.den ρ β = if c.B ρ then x.den ρ β else y.den ρ β
  | [], [], r, h => by simp only [mergeTm] at h; cases h; simp
  | [], _ :: _, r, h => by simp [mergeTm] at h
  | _ :: _, [], r, h => by simp [mergeTm] at h
  | a :: l, b :: m, r, h => by
    simp only [mergeTm] at h
    by_cases hap : apart a b = true
    · rw [if_pos hap] at h; cases h
    rw [if_neg hap] at h
    clear hap
    split at h
    · rename_i r0 hr
      have ih := mergeTm_ok hr
      cases h
      refine ⟨by simp [ih.1], by simp [ih.2.1], ?_⟩
      intro t z ht
      cases t with
      | succ t => simpa using ih.2.2 t z (by simpa using ht)
      | zero =>
        simp only [List.getElem?_cons_zero, Option.some.injEq] at ht
        split at ht
        · rename_i x y
          split at ht
          · rename_i u hu
            split at ht
            · rename_i hf
              cases ht
              exact ⟨hf, x, y, rfl, rfl, fun ρ β => mergeT_ok hu⟩
            · cases ht
          · cases ht
        · cases ht
    · cases h

theorem mergeHp_ok {c : X} {n : Nat} : ∀ {k : Nat} {l m r : List (Option Blk)}, mergeHp c n k l m = some r → r.length = k ∧
    ∀ (t : Nat) (z : Blk), r[t]? = some (some z) → z.ok n = true ∧ ∃ x y : Blk, l[t]? = some (some x) ∧ m[t]? = some (some y) ∧ ∀ (ρ : Env) (β : Nat → Nat), z.obj ρ β = if c.B ρ then x.obj ρ β else y.obj ρ β
  | 0, _, _, r, h => by simp only [mergeHp] at h; cases h; simp
  | k + 1, [], _, r, h => by simp [mergeHp] at h
  | k + 1, _ :: _, [], r, h => by simp [mergeHp] at h
  | k + 1, a :: l, b :: m, r, h => by
    simp only [mergeHp] at h
    split at h
    · rename_i r0 hr
      have ih := mergeHp_ok hr
      cases h
      refine ⟨by simp [ih.1], ?_⟩
      intro t z ht
      cases t with
      | succ t => simpa using ih.2 t z (by simpa using ht)
      | zero =>
        simp only [List.getElem?_cons_zero, Option.some.injEq] at ht
        split at ht
        · rename_i x y
          split at ht
          · rename_i u hu
            split at ht
            · rename_i hf
              cases ht
              simp only [Bool.and_eq_true] at hf
              refine ⟨hf.1.1, x, y, rfl, rfl, fun ρ β => ?_⟩
              have h1 := mergeCs_ok (ρ := ρ) (β := β) hu
              simp only [Blk.obj, h1]
              split
              · rfl
              · rw [Nat.eq_of_beq_eq_true hf.1.2, spB_eq (ρ := ρ) (β := β) hf.2]
            · cases ht
          · cases ht
        · cases ht
    · cases h

theorem mergeS_ok {c : X} {n : Nat} {S1 S2 T : St} (h : mergeS c n S1 S2 = .ok T) :
    T.base = S1.base ∧ T.base = S2.base ∧ T.hp.length = n ∧ T.tm.length = S1.tm.length ∧ T.tm.length = S2.tm.length ∧
    (∀ {β wr w}, (if c.B ρ then Rep ρ β S1 wr w else Rep ρ β S2 wr w) → Rep ρ β T wr w) ∧
    (∀ {β a}, (if c.B ρ then RepA ρ β S1 a else RepA ρ β S2 a) → RepA ρ β T a) := by
  unfold mergeS at h
  split at h
  · rename_i tm hp h1 h2
    split at h
    case isFalse => cases h
    rename_i hwb
    cases h
    simp only [Bool.and_eq_true, allB_eq, Nat.ble_eq] at hwb
    obtain ⟨⟨hwb, hb⟩, hn⟩ := hwb
    have hb := Nat.eq_of_beq_eq_true hb
    obtain ⟨t1, t2, t3⟩ := mergeTm_ok h1
    obtain ⟨p1, p2⟩ := mergeHp_ok h2
    refine ⟨rfl, hb.symm, p1, t1, t2, ?_, ?_⟩
    · intro β wr w hR
      have main : ∀ (S0 : St), (∀ (t : Nat) (z : Blk), hp[t]? = some (some z) → ∃ x : Blk, S0.hp[t]? = some (some x) ∧ z.obj ρ β = x.obj ρ β) → S0.base = S1.base → (∀ x ∈ S0.wr, x ∈ S1.wr ++ S2.wr) → Rep ρ β S0 wr w → (∀ x ∈ S1.wr ++ S2.wr, x < S1.base) →
          Rep ρ β { tm := tm, hp := hp, base := S1.base, wr := S1.wr ++ S2.wr } wr w := by
        intro S0 hg hb0 hw hR hwb
        refine ⟨?_, ?_, ?_, ?_, ?_, ?_, hR.size, hR.os, hR.tape, hR.output, hwb, ?_, fun e he => ⟨(hR.row e he).1, fun id b hid => ?_⟩⟩
        · intro id b hid
          obtain ⟨x, hx, e⟩ := hg id b hid
          rw [e]; exact hR.blk id x hx
        · intro id b hid; simp only; rw [p1]; exact (p2 id b hid).1
        · intro id b hid hlt
          obtain ⟨x, hx, _⟩ := hg id b hid
          exact hR.old id x hx (by rw [hb0]; exact hlt)
        · intro id b hid hle
          obtain ⟨x, hx, _⟩ := hg id b hid
          rcases hR.new id x hx (by rw [hb0]; exact hle) with h1 | ⟨o, ho, h1⟩
          · exact .inl h1
          · exact .inr ⟨o, hw o ho, h1⟩
        · intro i j b d hi hj
          obtain ⟨x, hx, _⟩ := hg i b hi
          obtain ⟨y, hy, _⟩ := hg j d hj
          exact hR.inj i j x y hx hy
        · intro k hk hh
          exact hR.frame k hk fun id hid => hh id (hw id hid)
        · simp only; rw [p1]; exact hn
        · obtain ⟨x, hx, _⟩ := hg id b hid
          exact (hR.row e he).2 id x hx
      cases hc : c.B ρ with
      | true =>
        rw [hc, if_pos rfl] at hR
        refine main S1 (fun t z hz => ?_) rfl (fun x hx => List.mem_append.2 (.inl hx)) hR hwb
        obtain ⟨_, x, y, hx, _, e⟩ := p2 t z hz
        exact ⟨x, hx, by rw [e, hc, if_pos rfl]⟩
      | false =>
        rw [hc] at hR
        simp only [Bool.false_eq_true, if_false] at hR
        refine main S2 (fun t z hz => ?_) hb (fun x hx => List.mem_append.2 (.inr hx)) hR hwb
        obtain ⟨_, x, y, _, hy, e⟩ := p2 t z hz
        exact ⟨y, hy, by rw [e, hc]; simp⟩
    · intro β a hT
      cases hc : c.B ρ with
      | true =>
        rw [hc, if_pos rfl] at hT
        refine ⟨by simp only; rw [t1]; exact hT.sz, ?_, ?_, hT.df⟩
        · intro t z hz
          obtain ⟨_, x, y, hx, _, e⟩ := t3 t z hz
          rw [e, hc, if_pos rfl]; exact hT.tm t x hx
        · intro t z hz; simp only; rw [p1]; exact (t3 t z hz).1
      | false =>
        rw [hc] at hT
        simp only [Bool.false_eq_true, if_false] at hT
        refine ⟨by simp only; rw [t2]; exact hT.sz, ?_, ?_, hT.df⟩
        · intro t z hz
          obtain ⟨_, x, y, _, hy, e⟩ := t3 t z hz
          rw [e, hc]; simp only [Bool.false_eq_true, if_false]; exact hT.tm t y hy
        · intro t z hz; simp only; rw [p1]; exact (t3 t z hz).1
  · cases h
end
end Go.Sx
