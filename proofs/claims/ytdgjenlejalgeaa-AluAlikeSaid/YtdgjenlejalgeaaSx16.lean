/- A small machine that reads straight Go code as trees, and its truth. -/
import Derived.Test.YtdgjenlejalgeaaSx15b
namespace Go.Sx

section
variable {P : Program} {A : Known} {ρ : Env} {β β' β'' : Nat → Nat} {S S1 : St} {wr w w' : World} {a : Act}

theorem opStep_wpOp {ops : Array Oper} {o : Oper} {i : Nat} {a : Act} {w : World} {K : Act → World → Prop} {Q : Exit → Act → World → Prop} (ho : ops[i]? = some o) (h : OpStep P ops o a w K Q) : wpOp P ops Q i K a w := by
  unfold wpOp
  simp only [ho]
  exact h

theorem count_set : ∀ {D : List Bool} {i : Nat}, i < D.length → D.getD i false = false → (D.set i true).count false + 1 = D.count false
  | [], i, h, _ => by simp at h
  | b :: D, 0, _, h => by
    simp at h; subst h
    simp
  | b :: D, i + 1, hl, h => by
    have := count_set (D := D) (i := i) (by simpa using hl) (by simpa using h)
    simp only [List.set_cons_succ, List.count_cons]
    omega
theorem count_zero {D : List Bool} (h : D.count false = 0) : ∀ k, k < D.length → D.getD k false = true := by
  intro k hk
  have h1 := List.count_eq_zero.1 h
  have : D[k]? = some D[k] := List.getElem?_eq_getElem hk
  rw [List.getD_eq_getElem?_getD, this]
  simp only [Option.getD_some]
  cases hb : D[k] with
  | true => rfl
  | false => exact absurd (hb ▸ List.getElem_mem hk) h1

theorem drawn_ok (hm : P.follows .mixedOrders = true) : DrawnOk P ρ := by
  intro callf hC hF isSum A id ops S S1 hA h β wr a w hR hT Q hQ
  simp only [drawnS, R.bind_ok] at h
  obtain ⟨bs, hbs, h⟩ := h
  have h : ∃ O, drawn2 P A callf ops.toList bs O ops.toList 0 S = .ok S1 := by
    split at h
    · next T hT =>
      cases h
      split at hT
      · next hon => exact ⟨_, calm2_drawn hon (fun k => by rw [Nat.zero_add]) hT⟩
      · cases hT
    · cases h
    · split at h
      · next T hT =>
        cases h
        split at hT
        · cases hT
        · split at hT
          · next hon =>
            split at hT
            · next O hO => exact ⟨O, drawn4_drawn2 hon (still_dst hO) hT⟩
            · cases hT
          · cases hT
      · cases h
      · split at h
        · next T hT =>
          cases h
          split at hT
          · cases hT
          · exact ⟨_, hT⟩
        · cases h
        · obtain ⟨O, _, h⟩ := R.bind_ok.1 h
          exact ⟨O, h⟩
  obtain ⟨O, h⟩ := h
  obtain ⟨recs, hlen, hall, H⟩ := drawn2_recs ⟨hR.bok, hT.tok⟩ h
  simp only [Nat.zero_add] at H
  have hch : Chain recs S.hp.length S.tm.length := allOf_len (i := 0) hlen (by simpa using H)
  obtain ⟨b1, _, b3⟩ := bitsAll_ok hbs
  simp only [List.length_nil, Nat.zero_add] at b1 b3
  have hbl : ∀ {j m : Nat}, bs[j]? = some m → j < ops.toList.length := fun h => by rw [← b1]; exact nth_len h
  have hlow : ∀ (j m : Nat), bs[j]? = some m → ∀ k, m.testBit k = true → k < j := by
    intro j
    induction j using Nat.strongRecOn with
    | _ j ih =>
      intro m hm' k hk
      have hj := hbl hm'
      obtain ⟨m', c1, c2, c3⟩ := b3 j _ (List.getElem?_eq_getElem hj)
      rw [hm'] at c1; cases c1
      obtain ⟨e, he, hb, hh⟩ := c3 k hk
      have hlt := (c2 e he hb).1
      rcases hh with hh | ⟨me, d1, d2⟩
      · omega
      · have := ih e.on hlt me d1 k d2; omega
  -- the walk, whatever has been carried out
  have walk : ∀ (fuel : Nat) (listed : Array Bool) (β' : Nat → Nat) (a : Act) (w : World), listed.size = recs.length → listed.toList.count false ≤ fuel → Closed bs listed.toList → (∀ i, i < S.hp.length → β' i = β i) →
      Rep ρ β' (after recs listed.toList S) wr w → RepA ρ β' (after recs listed.toList S) a → wpAny P .any ops Q fuel listed a w := by
    have fin : ∀ (listed : Array Bool) (β' : Nat → Nat) (a : Act) (w : World), listed.size = recs.length → (∀ k, k < recs.length → listed.toList.getD k false = true) → (∀ i, i < S.hp.length → β' i = β i) →
        Rep ρ β' (after recs listed.toList S) wr w → RepA ρ β' (after recs listed.toList S) a → Q .normal a w := by
      intro listed β' a w hsz hfull hag hR' hT'
      have hflag : ∀ k, k < recs.length → listed.toList.getD k false = (List.replicate recs.length true).getD k false := by
        intro k hk; rw [hfull k hk, rep_getD]; simp [hk]
      have hl := (after_len (f := listed.toList) hch)
      have hl2 := (after_len (f := List.replicate recs.length true) hch)
      have e1 : ∀ t, at2 (allOf recs S).tm t = at2 (after recs listed.toList S).tm t := by
        intro t
        rw [← after_all_len hch]
        exact after_same_tm hch rfl rfl rfl fun k r hk _ => (hflag k (nth_len hk)).symm
      have e2 : ∀ t, at2 (allOf recs S).hp t = at2 (after recs listed.toList S).hp t := by
        intro t
        rw [← after_all_len hch]
        exact after_same_hp hch rfl rfl rfl fun k r hk _ => (hflag k (nth_len hk)).symm
      have e3 : (after recs listed.toList S).hp.length ≤ (allOf recs S).hp.length := by
        rw [← after_all_len hch]; exact Nat.le_of_eq (hl.2.2.2 _).symm
      have e4 : (allOf recs S).tm.length = (after recs listed.toList S).tm.length := by
        rw [← after_all_len hch, hl2.1, hl.1]
      have e5 : (allOf recs S).base = (after recs listed.toList S).base := by
        rw [← after_all_len hch, hl2.2.2.1, hl.2.2.1]
      have r1 : Rep ρ β' (allOf recs S) wr w := by
        refine hR'.same e2 e3 e5 (fun x hx => ?_) (fun x hx => ?_)
        · rw [← after_all_len hch]
          rcases after_wr.1 hx with h | ⟨k, r, h1, h2, h3⟩
          · exact after_wr.2 (.inl h)
          · exact after_wr.2 (.inr ⟨k, r, h1, by rw [rep_getD]; simp [nth_len h1], h3⟩)
        · rw [← after_all_len hch] at hx
          rw [hl.2.2.1]
          rcases after_wr.1 hx with h | ⟨k, r, h1, h2, h3, h4⟩
          · exact hR.wrs x h
          · exact h4
      have r2 : RepA ρ β' (allOf recs S) a := hT'.same e1 e4 e3
      rw [hall] at r1 r2
      refine hQ a w β' hag r1 r2 ⟨?_, ?_, ?_⟩
      · rw [← hall]; have := hl.2.1; omega
      · rw [← hall, e5, hl.2.2.1]
      · rw [← hall, e4, hl.1]
    have stuck : ∀ (listed : Array Bool), listed.size = recs.length → Region.ready .any ops listed = [] → ∀ k, k < recs.length → listed.toList.getD k false = true := by
      intro listed hsz hre k
      induction k using Nat.strongRecOn with
      | _ k ih =>
        intro hk
        cases hd : listed.toList.getD k false with
        | true => rfl
        | false =>
          exfalso
          have hk' : k < ops.toList.length := by rw [← hlen]; exact hk
          have ho : ops[k]? = some (ops.toList[k]) := by
            rw [← Array.getElem?_toList]
            exact List.getElem?_eq_getElem hk'
          have hmem : k ∈ Region.ready .any ops listed := by
            refine mem_ready.2 ⟨?_, ops.toList[k], ho, fun e he hb => ?_⟩
            · have hks : k < listed.size := by rw [hsz]; exact hk
              have : listed.toList[k]? = listed[k]? := by simp
              simp only [List.getD_eq_getElem?_getD, this] at hd
              simp only [Array.getD_eq_getD_getElem?]
              rw [Array.getElem?_eq_getElem hks] at hd ⊢
              exact hd
            · obtain ⟨m, c1, c2, c3⟩ := b3 k _ (List.getElem?_eq_getElem hk')
              have hlt := (c2 e (Array.mem_toList_iff.2 he) hb).1
              have := ih e.on hlt (by omega)
              simp only [Array.getD_eq_getD_getElem?]
              rw [List.getD_eq_getElem?_getD, Array.getElem?_toList] at this
              exact this
          rw [hre] at hmem; cases hmem
    intro fuel
    induction fuel with
    | zero =>
      intro listed β' a w hsz hct hcl hag hR' hT'
      have hfull := count_zero (D := listed.toList) (by omega)
      have hl : listed.toList.length = recs.length := by simpa using hsz
      refine ⟨?_, fin listed β' a w hsz (fun k hk => hfull k (by omega)) hag hR' hT'⟩
      cases hr : Region.ready .any ops listed with
      | nil => rfl
      | cons j l =>
        exfalso
        have hj : j ∈ Region.ready .any ops listed := by rw [hr]; simp
        obtain ⟨h1, o, ho, _⟩ := mem_ready.1 hj
        have hjl : j < ops.toList.length := by have := (Array.getElem?_eq_some_iff.1 ho).1; simpa using this
        have := hfull j (by omega)
        rw [List.getD_eq_getElem?_getD] at this
        simp only [Array.getD_eq_getD_getElem?] at h1
        have hks : j < listed.size := by omega
        rw [Array.getElem?_eq_getElem hks] at h1
        simp only [Array.getElem?_toList, Array.getElem?_eq_getElem hks, Option.getD_some] at this h1
        rw [this] at h1; cases h1
    | succ fuel ih =>
      intro listed β' a w hsz hct hcl hag hR' hT'
      refine ⟨fun hre => fin listed β' a w hsz (stuck listed hsz hre) hag hR' hT', fun i hi => ?_⟩
      obtain ⟨h1, o, ho, h2⟩ := mem_ready.1 hi
      have hil : i < ops.toList.length := by have := (Array.getElem?_eq_some_iff.1 ho).1; simpa using this
      have his : i < listed.size := by rw [hsz, hlen]; exact hil
      have hlD : listed.toList.length = recs.length := by simpa using hsz
      have hoL : ops.toList[i]? = some o := by simpa using ho
      have hiF : listed.toList.getD i false = false := by
        simp only [Array.getD_eq_getD_getElem?, Array.getElem?_eq_getElem his, Option.getD_some] at h1
        simp only [List.getD_eq_getElem?_getD, Array.getElem?_toList, Array.getElem?_eq_getElem his, Option.getD_some]
        exact h1
      have hget : ∀ k, listed.toList.getD k false = listed.getD k false := by
        intro k; simp [List.getD_eq_getElem?_getD, Array.getD_eq_getD_getElem?]
      have hrdy : ∀ bi, bs[i]? = some bi → ∀ k, bi.testBit k = true → listed.toList.getD k false = true := by
        intro bi hbi k hk
        obtain ⟨m, c1, c2, c3⟩ := b3 i o hoL
        rw [hbi] at c1; cases c1
        obtain ⟨e, he, hb, hh⟩ := c3 k hk
        have hon := h2 e (Array.mem_toList_iff.1 he) hb
        rcases hh with rfl | ⟨me, d1, d2⟩
        · rw [hget]; exact hon
        · exact hcl e.on me (by rw [hget]; exact hon) d1 k d2
      refine opStep_wpOp ho (drawn_step hC hF hA hlen H hch hlow hR.bok hT.tok hR.bs hR.wrs hcl (by rw [hlD]) hoL hiF hrdy hR' hT' fun a' w' β'' g1 g2 g3 => ?_)
      have hset : (listed.setIfInBounds i true).toList = listed.toList.set i true := by simp
      refine ih (listed.setIfInBounds i true) β'' a' w' (by simpa using hsz) ?_ ?_ (fun j hj => (g1 j hj).trans (hag j hj)) (by rw [hset]; exact g2) (by rw [hset]; exact g3)
      · rw [hset]
        have := count_set (D := listed.toList) (i := i) (by rw [hlD, hlen]; exact hil) hiF
        omega
      · rw [hset]
        intro j m hj hjm k hk
        rw [getD_set_true _ _ _ (by rw [hlD, hlen]; exact hil)] at hj ⊢
        simp only [Bool.or_eq_true, decide_eq_true_eq] at hj ⊢
        rcases hj with rfl | hj
        · exact .inr (hrdy m hjm k hk)
        · exact .inr (hcl j m hj hjm k hk)
  refine wp_region_any hm ?_
  have h0 : (Array.replicate ops.size false).toList = List.replicate ops.size false := by simp
  have flag0 : ∀ k, (List.replicate ops.size false).getD k false = ([] : List Bool).getD k false := by
    intro k; rw [List.getD_eq_getElem?_getD, List.getElem?_replicate]; split <;> simp
  have e1 : ∀ t, at2 (after recs (List.replicate ops.size false) S).tm t = at2 S.tm t := by
    intro t
    rw [after_same_tm (g := []) hch rfl rfl rfl fun k r hk _ => flag0 k, after_none_tm.1]
  have e2 : ∀ t, at2 (after recs (List.replicate ops.size false) S).hp t = at2 S.hp t := by
    intro t
    rw [after_same_hp (g := []) hch rfl rfl rfl fun k r hk _ => flag0 k, after_none_hp]
  have hl := after_len (f := List.replicate ops.size false) hch
  have hRd : Rep ρ β S wr { w with drawn := w.drawn + 1 } := ⟨hR.blk, hR.bok, hR.old, hR.new, hR.inj, hR.frame, hR.size, hR.os, hR.tape, hR.output, hR.wrs, hR.bs, hR.row⟩
  refine walk ops.size _ β a _ (by simp [hlen]) (by rw [h0]; simp) ?_ (fun _ _ => rfl) ?_ ?_
  · intro j m hj
    rw [h0, flag0] at hj
    simp at hj
  · rw [h0]
    refine hRd.same e2 hl.2.1 hl.2.2.1 (fun x hx => after_wr.2 (.inl hx)) (fun x hx => ?_)
    rcases after_wr.1 hx with h | ⟨k, r, _, h2, _⟩
    · exact hR.wrs x h
    · rw [flag0] at h2; simp at h2
  · rw [h0]
    exact hT.same e1 hl.1 hl.2.1

/-- What a tree comes to. -/
def Tree.good : Tree → Bool
  | .leaf _ => true
  | .node _ t e => t.good && e.good
  | _ => false
def Tree.den (ρ : Env) : Tree → Value
  | .leaf v => v.den ρ (fun _ => 0)
  | .node c t e => if c.B ρ then t.den ρ else e.den ρ
  | _ => undef

/-- A state in which nothing is known of memory. -/
def bare : St := ⟨[], [], 0, []⟩

/-- The rows that there are stand in a world. -/
def RowsIn (ρ : Env) (w : World) : Prop := ∀ e, ρ.g (rowF e 60) [] = true → w.heap[(ρ.x e).adr.block]? = some (ρ.x e).obj
theorem bare_rep (w : World) (hx : RowsIn ρ w) : Rep ρ β bare w w :=
  ⟨fun id b h => by simp [bare] at h, fun id b h => by simp [bare] at h, fun id b h => by simp [bare] at h, fun id b h => by simp [bare] at h, fun i j b c h => by simp [bare] at h, fun _ _ _ => rfl, Nat.le_refl _, rfl, rfl, rfl, fun id h => by simp [bare] at h, Nat.le_refl _, fun e he => ⟨hx e he, fun id b h => by simp [bare] at h⟩⟩

/-- Trees whose values name no block. -/
def Tree.free : Tree → Bool
  | .leaf v => v.fits 0
  | .node _ t e => t.free && e.free
  | _ => false

theorem tree_ok (hm : P.follows .mixedOrders = true) {q : Nat} {sum : Sums} (hS : SumOk P ρ sum) {fuel : Nat} {f : FuncId} {args : List SV} (w : World) (hx : RowsIn ρ w) :
    ∀ (d : Nat) (A : Known), A.ok ρ → (tree P q sum fuel f args bare d A).free = true →
      Calls P f (args.map (SV.den ρ fun _ => 0)).toArray w fun e w' => e = .returned ((tree P q sum fuel f args bare d A).den ρ) ∧ RowKit.Below w.heap.size w w' := by
  have leaf : ∀ (A : Known) (v : ST) (S1 : St), A.ok ρ → callWith P (exec P q sum fuel) f args bare A = .ok (v, S1) → v.fits 0 = true →
      Calls P f (args.map (SV.den ρ fun _ => 0)).toArray w fun e w' => e = .returned (v.den ρ fun _ => 0) ∧ RowKit.Below w.heap.size w w' := by
    intro A v S1 hA h hv
    have := callWith_ok (β := fun _ => 0) (exec_ok (drawn_ok hm) hS fuel).1 hA h (bare_rep w hx)
    refine Calls.mono this fun e w' ⟨β', b1, b2, b3, b4, b5⟩ => ?_
    refine ⟨by rw [b3]; congr 1; exact ST.fits_den (n := 0) (fun i hi => absurd hi (Nat.not_lt_zero i)) hv, ?_⟩
    refine b2.belowOf ?_
    cases hw : S1.wr with
    | nil => rfl
    | cons x l =>
      have h1 := b2.wrs x (by rw [hw]; simp)
      rw [b5.base] at h1
      exact absurd h1 (Nat.not_lt_zero x)
  intro d
  induction d with
  | zero =>
    intro A hA hg
    cases hcall : callWith P (exec P q sum fuel) f args bare A with
    | ok p =>
      obtain ⟨v, S1⟩ := p
      simp only [tree, hcall] at hg ⊢
      exact leaf A v S1 hA hcall hg
    | split c => simp only [tree, hcall, Tree.free] at hg; cases hg
    | fail m => simp only [tree, hcall, Tree.free] at hg; cases hg
  | succ d ih =>
    intro A hA hg
    cases hcall : callWith P (exec P q sum fuel) f args bare A with
    | ok p =>
      obtain ⟨v, S1⟩ := p
      simp only [tree, hcall] at hg ⊢
      exact leaf A v S1 hA hcall hg
    | split c =>
      simp only [tree, hcall, Tree.free, Bool.and_eq_true] at hg ⊢
      simp only [Tree.den]
      cases hc : c.B ρ with
      | true => simpa using ih _ (assume_ok c true hA hc) hg.1
      | false => simpa using ih _ (assume_ok c false hA hc) hg.2
    | fail m => simp only [tree, hcall, Tree.free] at hg; cases hg
end
end Go.Sx
