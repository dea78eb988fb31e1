/- Texts: what is done with them. -/
import Derived.Test.YtdgjenlejalgeaaSx7c
import Derived.Laws.Concat
import Derived.Laws.Strings3
import Derived.Laws.DeepStrings4
import Derived.Laws.BytesString
namespace Go.Sx

section
variable {P : Program} {A : Known} {ρ : Env} {β : Nat → Nat} {S : St} {wr w : World} {a : Act}

theorem decP_ok (hA : A.ok ρ) {c : X} {b : Bool} (h : decP A c = .ok b) : c.B ρ = b := by
  unfold decP at h
  split at h
  · rename_i v hv; cases h; exact dec_ok hA _ _ hv
  · split at h
    · rename_i hs; cases h; exact linQ_ok hA hs
    · split at h
      · rename_i hs; cases h
        have := linQ_ok hA hs
        simpa using this
      · split at h
        · rename_i hs; cases h; exact prove_ok hA hs
        · split at h
          · rename_i hs; cases h
            have := prove_ok hA hs
            simpa using this
          · cases h

theorem wrap8 (z : Int) : IntKind.u8.wrap z = z % 256 := by simp [IntKind.wrap, IntKind.bits, IntKind.signed]
theorem b8_nat (z : Int) : ((b8 z).toNat : Int) = IntKind.u8.wrap z := by
  unfold b8
  rw [wrap8]
  have h1 : 0 ≤ z % 256 := Int.emod_nonneg _ (by omega)
  have h2 : z % 256 < 256 := Int.emod_lt_of_pos _ (by omega)
  have h3 : (UInt8.ofNat (z % 256).toNat).toNat = (z % 256).toNat := by
    simp [UInt8.toNat_ofNat']
    omega
  rw [h3]; omega
theorem b8_wrap (z : Int) : b8 (IntKind.u8.wrap z) = b8 z := by
  unfold b8; rw [wrap8, wrap8, Int.emod_emod_of_dvd _ (Int.dvd_refl 256)]
theorem b8_of (b : UInt8) : b8 (Int.ofNat b.toNat) = b := by
  apply UInt8.toNat.inj
  have h := b8_nat (Int.ofNat b.toNat)
  rw [wrap8] at h
  have := b.toNat_lt
  have e : Int.ofNat b.toNat = (b.toNat : Int) := rfl
  rw [e] at h ⊢
  omega
theorem b8_inj {x y : Int} : (b8 x == b8 y) = (IntKind.u8.wrap x == IntKind.u8.wrap y) := by
  rw [Bool.eq_iff_iff, beq_iff_eq, beq_iff_eq]
  constructor
  · intro h; rw [← b8_nat, ← b8_nat, h]
  · intro h; rw [← b8_wrap x, h, b8_wrap]
theorem bytesX_den : ∀ l : List UInt8, (bytesX l).map (fun x => b8 (x.I ρ)) = l
  | [] => rfl
  | b :: l => by simp only [bytesX, List.map_cons, X.I, b8_of, bytesX_den l]

theorem segsD_append : ∀ (l m : List Seg), segsD ρ (l ++ m) = segsD ρ l ++ segsD ρ m
  | [], m => rfl
  | s :: l, m => by simp [segsD, segsD_append l m]

theorem asStr_ok {c : SC} {l : List Seg} (h : asStr c = .ok l) : c.den ρ β = .string ⟨(segsD ρ l).toArray⟩ := by
  unfold asStr at h
  split at h
  · cases h; rfl
  · rename_i s
    cases h
    simp only [SC.den]
    split
    · rename_i e
      cases s with
      | mk d =>
        have : d = #[] := by apply Array.ext'; exact e
        rw [this]; rfl
    · simp only [segsD, Seg.den, bytesX_den, List.append_nil]
  · cases h

theorem cons_beq (u v : UInt8) (l m : List UInt8) : (u :: l == v :: m) = (u == v && l == m) := by
  rw [Bool.eq_iff_iff, Bool.and_eq_true, beq_iff_eq, beq_iff_eq, beq_iff_eq, List.cons.injEq]
theorem beq_symm8 (u v : UInt8) : (u == v) = (v == u) := by
  rw [Bool.eq_iff_iff, beq_iff_eq, beq_iff_eq]; exact eq_comm
theorem lenOk_ok (hA : A.ok ρ) {s : Seg} (h : lenOk A s = true) : ((s.den ρ).length : Int) = (segLen s).I ρ := by
  have pos : ∀ {n : X}, sureB A (mkCmp .geq n (.lit 0)) = true → ((n.I ρ).toNat : Int) = n.I ρ := by
    intro n hn
    have := sureB_ok hA hn
    simp only [B_mkCmp, cmpI, X.I] at this
    replace this := of_decide_eq_true this
    omega
  cases s with
  | bs l => simp [Seg.den, segLen, X.I, len_eq]
  | zs n => simp only [Seg.den, segLen, List.length_replicate]; exact pos h
  | xt e o n => simp only [Seg.den, segLen, List.length_map, List.length_range]; exact pos h

theorem addRow_I (hA : A.ok ρ) {off n r : X} (h : addRow A off n = .ok r) : r.I ρ = off.I ρ + n.I ρ := by
  unfold addRow at h
  split at h
  · cases h; simp [X.I]
  · cases h; simp [X.I]
  · split at h
    · rename_i hc
      cases h
      simp only [Bool.and_eq_true] at hc
      have b1 := sureB_ok hA hc.1.1.1
      have b2 := sureB_ok hA hc.1.1.2
      have b3 := sureB_ok hA hc.1.2
      have b4 := sureB_ok hA hc.2
      simp only [B_mkCmp, cmpI, X.I] at b1 b2 b3 b4
      replace b1 := of_decide_eq_true b1; replace b2 := of_decide_eq_true b2; replace b3 := of_decide_eq_true b3; replace b4 := of_decide_eq_true b4
      rw [I_mkBin]
      simp only [arith]
      exact wrap_id (by show (-9223372036854775808 : Int) ≤ _; omega) (by show _ ≤ (9223372036854775807 : Int); omega)
    · cases h
theorem subT_I (hA : A.ok ρ) {n m r : X} (h : subT A n m = .ok r) : r.I ρ = n.I ρ - m.I ρ := by
  unfold subT at h
  split at h
  · cases h; simp [X.I]
  · split at h
    · rename_i hc
      cases h
      simp only [Bool.and_eq_true] at hc
      have b1 := sureB_ok hA hc.1.1
      have b2 := sureB_ok hA hc.1.2
      have b3 := sureB_ok hA hc.2
      simp only [B_mkCmp, cmpI, X.I] at b1 b2 b3
      replace b1 := of_decide_eq_true b1; replace b2 := of_decide_eq_true b2; replace b3 := of_decide_eq_true b3
      rw [I_mkBin]
      simp only [arith]
      exact wrap_id (by show (-9223372036854775808 : Int) ≤ _; omega) (by show _ ≤ (9223372036854775807 : Int); omega)
    · cases h

theorem segsLen_ok (hA : A.ok ρ) : ∀ {l : List Seg} {n : X}, segsLen A l = .ok n → ((segsD ρ l).length : Int) = n.I ρ
  | [], n, h => by simp only [segsLen] at h; cases h; rfl
  | s :: l, n, h => by
    unfold segsLen at h
    simp only [R.bind_ok, chk_ok] at h
    obtain ⟨_, h1, h⟩ := h
    have h1 := lenOk_ok hA h1
    cases l with
    | nil => simp only at h; cases h; simp only [segsD, List.append_nil]; exact h1
    | cons t l =>
      obtain ⟨m, hm, h⟩ := R.bind_ok.1 h
      have h2 := segsLen_ok hA hm
      rw [addRow_I hA h, ← h1, ← h2, segsD, List.length_append]
      exact Int.natCast_add _ _

theorem xt_get {e : Nat} {o n : X} {i : Nat} (h : i < (n.I ρ).toNat) : (Seg.den ρ (.xt e o n))[i]? = some (b8 (ρ.f (rowF e 0) [o.I ρ + i])) := by
  simp [Seg.den, h]
theorem byteT_I (e : Nat) (ix : X) : (byteT e ix).I ρ = IntKind.u8.wrap (ρ.f (rowF e 0) [ix.I ρ]) := by
  simp only [byteT, X.I, fixA_ok]

theorem segIdx_ok (hA : A.ok ρ) : ∀ {l : List Seg} {ix x : X}, segIdx A l ix = .ok x → 0 ≤ ix.I ρ → ∃ b, (segsD ρ l)[(ix.I ρ).toNat]? = some b ∧ x.I ρ = (b.toNat : Int)
  | [], _, _, h, _ => by simp [segIdx] at h
  | s :: r, ix, x, h, h0 => by
    simp only [segIdx, R.bind_ok, chk_ok] at h
    obtain ⟨_, h1, c, hc, h⟩ := h
    have h1 := lenOk_ok hA h1
    have hc := decP_ok hA hc
    simp only [B_mkCmp, cmpI] at hc
    cases c with
    | true =>
      replace hc := of_decide_eq_true hc
      simp only [if_true] at h
      have hlt : (ix.I ρ).toNat < (s.den ρ).length := by omega
      rw [segsD, List.getElem?_append_left hlt]
      cases s with
      | bs l =>
        simp only [R.bind_ok] at h
        obtain ⟨j, hj, y, hy, h⟩ := h
        cases h
        have hj := idxS_ok hA hj
        have hy := getR_ok.1 hy
        refine ⟨b8 (y.I ρ), ?_, ?_⟩
        · rw [hj.1]; simp [Seg.den, hy]
        · rw [wrapR_ok hA, b8_nat]
      | zs n =>
        simp only at h; cases h
        refine ⟨0, ?_, rfl⟩
        simp only [Seg.den, List.length_replicate] at hlt ⊢
        simp [hlt]
      | xt e o n =>
        simp only [R.bind_ok, chk_ok] at h
        obtain ⟨_, ho, i, hi, h⟩ := h
        cases h
        simp only [Seg.den, List.length_map, List.length_range] at hlt
        refine ⟨_, xt_get hlt, ?_⟩
        rw [byteT_I, addRow_I hA hi, b8_nat]
        congr 3
        congr 1
        omega
    | false =>
      replace hc := of_decide_eq_false hc
      simp only [Bool.false_eq_true, if_false, R.bind_ok] at h
      obtain ⟨k, hk, h⟩ := h
      have hk := subT_I hA hk
      obtain ⟨b, g1, g2⟩ := segIdx_ok hA h (by omega)
      refine ⟨b, ?_, g2⟩
      rw [segsD, List.getElem?_append_right (by omega), ← g1]
      congr 1
      omega

theorem xt_drop {e : Nat} {o n i m : X} {k : Int} (h0 : 0 ≤ k) (hi : i.I ρ = o.I ρ + k) (hm : m.I ρ = n.I ρ - k) : Seg.den ρ (.xt e i m) = (Seg.den ρ (.xt e o n)).drop k.toNat := by
  apply List.ext_getElem?
  intro j
  simp only [Seg.den, List.getElem?_drop, List.getElem?_map]
  by_cases h : j < (m.I ρ).toNat
  · rw [List.getElem?_range h, List.getElem?_range (by omega)]
    simp only [Option.map_some, hi]
    congr 3
    congr 1
    omega
  · rw [List.getElem?_eq_none (by simp only [List.length_range]; omega), List.getElem?_eq_none (by simp only [List.length_range]; omega)]
    rfl
theorem xt_take {e : Nat} {o n : X} {k : X} (hk : k.I ρ ≤ n.I ρ) : Seg.den ρ (.xt e o k) = (Seg.den ρ (.xt e o n)).take (k.I ρ).toNat := by
  simp only [Seg.den, ← List.map_take, List.take_range]
  congr 2
  omega

theorem dropSeg_ok (hA : A.ok ρ) : ∀ {l : List Seg} {k : X} {r : List Seg}, dropSeg A l k = .ok r → 0 ≤ k.I ρ → segsD ρ r = (segsD ρ l).drop (k.I ρ).toNat
  | [], k, r, h, h0 => by
    simp only [dropSeg] at h
    cases h
    simp [segsD]
  | s :: l, k, r, h, h0 => by
    unfold dropSeg at h
    split at h
    · cases h; simp [X.I]
    · split at h
      · rename_i hz
        cases h
        have hz := linQ_ok hA hz
        simp only [B_mkCmp, cmpI, X.I] at hz
        replace hz := of_decide_eq_true hz
        rw [show (k.I ρ).toNat = 0 by omega]; simp
      simp only [R.bind_ok, chk_ok] at h
      obtain ⟨_, h1, c, hc, h⟩ := h
      have h1 := lenOk_ok hA h1
      have hc := decP_ok hA hc
      simp only [B_mkCmp, cmpI] at hc
      cases c with
      | true =>
        replace hc := of_decide_eq_true hc
        simp only [if_true, R.bind_ok] at h
        obtain ⟨k', hk', h⟩ := h
        have hk' := subT_I hA hk'
        have := dropSeg_ok hA h (by omega)
        have hd : (s.den ρ).drop (k.I ρ).toNat = [] := List.drop_of_length_le (by omega)
        rw [this, segsD, List.drop_append, hd, List.nil_append]
        congr 1
        omega
      | false =>
        replace hc := of_decide_eq_false hc
        simp only [Bool.false_eq_true, if_false] at h
        rw [segsD, List.drop_append_of_le_length (by omega)]
        cases s with
        | bs l2 =>
          simp only [R.bind_ok] at h
          obtain ⟨j, hj, h⟩ := h
          cases h
          have hj := idxS_ok hA hj
          rw [hj.1]
          simp [segsD, Seg.den, dropN_eq]
        | zs n =>
          simp only [R.bind_ok] at h
          obtain ⟨m, hm, h⟩ := h
          cases h
          have hm := subT_I hA hm
          simp only [segsD, Seg.den, List.drop_replicate]
          congr 2
          omega
        | xt e o n =>
          simp only [R.bind_ok] at h
          obtain ⟨_, _, m, hm, i, hi, h⟩ := h
          cases h
          rw [segsD, xt_drop h0 (addRow_I hA hi) (subT_I hA hm)]
theorem takeSeg_ok (hA : A.ok ρ) : ∀ {l : List Seg} {k : X} {r : List Seg}, takeSeg A l k = .ok r → 0 ≤ k.I ρ → segsD ρ r = (segsD ρ l).take (k.I ρ).toNat
  | [], k, r, h, h0 => by
    simp only [takeSeg] at h
    cases h
    simp [segsD]
  | s :: l, k, r, h, h0 => by
    unfold takeSeg at h
    split at h
    · cases h; simp [X.I, segsD]
    · split at h
      · rename_i hz
        cases h
        have hz := linQ_ok hA hz
        simp only [B_mkCmp, cmpI, X.I] at hz
        replace hz := of_decide_eq_true hz
        rw [show (k.I ρ).toNat = 0 by omega]; simp [segsD]
      simp only [R.bind_ok, chk_ok] at h
      obtain ⟨_, h1, c, hc, h⟩ := h
      have h1 := lenOk_ok hA h1
      have hc := decP_ok hA hc
      simp only [B_mkCmp, cmpI] at hc
      cases c with
      | true =>
        replace hc := of_decide_eq_true hc
        simp only [if_true, R.bind_ok] at h
        obtain ⟨k', hk', r', hr', h⟩ := h
        cases h
        have hk' := subT_I hA hk'
        have := takeSeg_ok hA hr' (by omega)
        have hd : (s.den ρ).take (k.I ρ).toNat = s.den ρ := List.take_of_length_le (by omega)
        rw [segsD, this, segsD, List.take_append, hd]
        congr 2
        omega
      | false =>
        replace hc := of_decide_eq_false hc
        simp only [Bool.false_eq_true, if_false] at h
        rw [segsD, List.take_append_of_le_length (by omega)]
        cases s with
        | bs l2 =>
          simp only [R.bind_ok] at h
          obtain ⟨j, hj, h⟩ := h
          cases h
          have hj := idxS_ok hA hj
          rw [hj.1]
          simp [segsD, Seg.den, takeN_eq]
        | zs n =>
          simp only at h; cases h
          simp only [segsD, Seg.den, List.take_replicate, List.append_nil]
          congr 1
          simp only [segLen] at hc
          omega
        | xt e o n =>
          simp only at h; cases h
          simp only [segLen] at hc
          rw [segsD, segsD, List.append_nil]
          exact xt_take (by omega)

theorem xsB_eq : ∀ {l m : List X}, xsB l m = true → l = m
  | [], [], _ => rfl
  | a :: l, b :: m, h => by
    simp only [xsB, Bool.and_eq_true] at h
    rw [X.eqb_eq h.1, xsB_eq h.2]
  | [], _ :: _, h => by simp [xsB] at h
  | _ :: _, [], h => by simp [xsB] at h
theorem segB_eq {s t : Seg} (h : segB s t = true) : s = t := by
  unfold segB at h
  split at h
  · rw [xsB_eq h]
  · rw [X.eqb_eq h]
  · simp only [Bool.and_eq_true] at h
    rw [Nat.eq_of_beq_eq_true h.1.1, X.eqb_eq h.1.2, X.eqb_eq h.2]
  · cases h
theorem segsB_eq : ∀ {l m : List Seg}, segsB l m = true → l = m
  | [], [], _ => rfl
  | a :: l, b :: m, h => by
    simp only [segsB, Bool.and_eq_true] at h
    rw [segB_eq h.1, segsB_eq h.2]
  | [], _ :: _, h => by simp [segsB] at h
  | _ :: _, [], h => by simp [segsB] at h

theorem nil_beq {l : List UInt8} {n : X} (h : (l.length : Int) = n.I ρ) : (mkCmp .eql n (.lit 0)).B ρ = (l == []) := by
  simp only [B_mkCmp, cmpI, X.I]
  rw [Bool.eq_iff_iff, beq_iff_eq, beq_iff_eq, ← List.length_eq_zero_iff]
  omega
theorem append_beq {a b c d : List UInt8} (h : a.length = b.length) : (a ++ c == b ++ d) = (a == b && c == d) := by
  rw [Bool.eq_iff_iff, Bool.and_eq_true, beq_iff_eq, beq_iff_eq, beq_iff_eq]
  constructor
  · intro e; exact List.append_inj e h
  · rintro ⟨rfl, rfl⟩; rfl

theorem eqT_ok (hA : A.ok ρ) : ∀ {d : Nat} {a b : List Seg} {c : X}, eqT A d a b = .ok c → c.B ρ = (segsD ρ a == segsD ρ b) := by
  intro d
  induction d with
  | zero => intro a b c h; simp [eqT] at h
  | succ d ih =>
    have more : ∀ {n n' : X}, decP A (mkCmp .geq n (.lit 1)) = .ok true → subT A n (.lit 1) = .ok n' → (n.I ρ).toNat = (n'.I ρ).toNat + 1 ∧ 1 ≤ n.I ρ := by
      intro n n' h1 h2
      have h1 := decP_ok hA h1
      simp only [B_mkCmp, cmpI, X.I] at h1
      replace h1 := of_decide_eq_true h1
      have h2 := subT_I hA h2
      simp only [X.I] at h2
      exact ⟨by omega, h1⟩
    have none_ : ∀ {n : X}, decP A (mkCmp .geq n (.lit 1)) = .ok false → (n.I ρ).toNat = 0 := by
      intro n h1
      have h1 := decP_ok hA h1
      simp only [B_mkCmp, cmpI, X.I] at h1
      replace h1 := of_decide_eq_false h1
      omega
    have b1 : ∀ {x : X}, (mkCmp .eql (wrapR A .u8 x) (.lit 0)).B ρ = (b8 (x.I ρ) == 0) := by
      intro x
      simp only [B_mkCmp, cmpI, X.I, wrapR_ok hA]
      rw [show (0 : UInt8) = b8 0 from rfl, b8_inj]
      rfl
    have b2 : ∀ {x o : X} {e : Nat}, (mkCmp .eql (wrapR A .u8 x) (byteT e o)).B ρ = (b8 (x.I ρ) == b8 (ρ.f (rowF e 0) [o.I ρ])) := by
      intro x o e
      simp only [B_mkCmp, cmpI, wrapR_ok hA, byteT_I]
      rw [b8_inj]
    have xt_cons : ∀ {e : Nat} {o n n' o' : X}, (n.I ρ).toNat = (n'.I ρ).toNat + 1 → 1 ≤ n.I ρ → subT A n (.lit 1) = .ok n' → addRow A o (.lit 1) = .ok o' → Seg.den ρ (.xt e o n) = b8 (ρ.f (rowF e 0) [o.I ρ]) :: Seg.den ρ (.xt e o' n') := by
      intro e o n n' o' h1 h2 h3 h4
      rw [xt_drop (o := o) (n := n) (k := 1) (by omega) (addRow_I hA h4) (subT_I hA h3)]
      have hg := xt_get (ρ := ρ) (e := e) (o := o) (n := n) (i := 0) (by omega)
      cases hl : Seg.den ρ (.xt e o n) with
      | nil => rw [hl] at hg; simp at hg
      | cons y l =>
        rw [hl] at hg
        simp only [List.getElem?_cons_zero, Option.some.injEq] at hg
        rw [hg]
        simp
    intro a b c h
    unfold eqT at h
    split at h
    · cases h
    · cases h; rfl
    · rename_i l _
      simp only [R.bind_ok] at h
      obtain ⟨n, hn, h⟩ := h
      cases h
      rw [nil_beq (segsLen_ok hA hn)]
      simp only [segsD]
      rw [Bool.eq_iff_iff, beq_iff_eq, beq_iff_eq]
      exact eq_comm
    · rename_i l _
      simp only [R.bind_ok] at h
      obtain ⟨n, hn, h⟩ := h
      cases h
      rw [nil_beq (segsLen_ok hA hn)]
      rfl
    · rename_i d' s a t b heq
      simp only [Nat.succ.injEq] at heq
      subst heq
      split at h
      · rename_i hs
        have hs := segB_eq hs
        subst hs
        rw [ih h, segsD, segsD, append_beq rfl]
        simp
      · split at h
        · rw [ih h]; simp [segsD, Seg.den]
        · rw [ih h]; simp [segsD, Seg.den]
        · rename_i x l y m _
          have key : (segsD ρ (.bs (x :: l) :: a) == segsD ρ (.bs (y :: m) :: b)) = (b8 (x.I ρ) == b8 (y.I ρ) && segsD ρ (.bs l :: a) == segsD ρ (.bs m :: b)) := by
            simp only [segsD, Seg.den, List.map_cons, List.cons_append, cons_beq]
          rw [key]
          have hb : (mkCmp .eql (wrapR A .u8 x) (wrapR A .u8 y)).B ρ = (b8 (x.I ρ) == b8 (y.I ρ)) := by
            simp only [B_mkCmp, cmpI, wrapR_ok hA]; rw [b8_inj]
          split at h
          · rename_i e
            cases h
            rw [e] at hb
            rw [← hb]; rfl
          · simp only [R.bind_ok] at h
            obtain ⟨r, hr, h⟩ := h
            cases h
            rw [B_mkAnd, hb, ih hr]
        · rename_i x l n _
          simp only [R.bind_ok] at h
          obtain ⟨p, hp, h⟩ := h
          cases p with
          | true =>
            simp only [if_true, R.bind_ok] at h
            obtain ⟨n', hn', r, hr, h⟩ := h
            cases h
            obtain ⟨m1, m2⟩ := more hp hn'
            rw [B_mkAnd, b1, ih hr]
            simp only [segsD, Seg.den, List.map_cons, m1, List.replicate_succ, List.cons_append, cons_beq]
          | false =>
            simp only [Bool.false_eq_true, if_false] at h
            rw [ih h]
            simp [segsD, Seg.den, none_ hp]
        · rename_i n x l _
          simp only [R.bind_ok] at h
          obtain ⟨p, hp, h⟩ := h
          cases p with
          | true =>
            simp only [if_true, R.bind_ok] at h
            obtain ⟨n', hn', r, hr, h⟩ := h
            cases h
            obtain ⟨m1, m2⟩ := more hp hn'
            rw [B_mkAnd, b1, ih hr]
            simp only [segsD, Seg.den, List.map_cons, m1, List.replicate_succ, List.cons_append, cons_beq]
            rw [beq_symm8]
          | false =>
            simp only [Bool.false_eq_true, if_false] at h
            rw [ih h]
            simp [segsD, Seg.den, none_ hp]
        · rename_i x l e o n _
          simp only [R.bind_ok] at h
          obtain ⟨_, _, p, hp, h⟩ := h
          cases p with
          | true =>
            simp only [if_true, R.bind_ok] at h
            obtain ⟨n', hn', o', ho', r, hr, h⟩ := h
            cases h
            obtain ⟨m1, m2⟩ := more hp hn'
            rw [B_mkAnd, b2, ih hr]
            simp only [segsD, xt_cons m1 m2 hn' ho', List.cons_append]
            simp only [Seg.den, List.map_cons, List.cons_append, cons_beq]
          | false =>
            simp only [Bool.false_eq_true, if_false] at h
            rw [ih h]
            simp [segsD, Seg.den, none_ hp]
        · rename_i e o n x l _
          simp only [R.bind_ok] at h
          obtain ⟨_, _, p, hp, h⟩ := h
          cases p with
          | true =>
            simp only [if_true, R.bind_ok] at h
            obtain ⟨n', hn', o', ho', r, hr, h⟩ := h
            cases h
            obtain ⟨m1, m2⟩ := more hp hn'
            rw [B_mkAnd, b2, ih hr]
            simp only [segsD, xt_cons m1 m2 hn' ho', List.cons_append]
            simp only [Seg.den, List.map_cons, List.cons_append, cons_beq]
            rw [beq_symm8]
          | false =>
            simp only [Bool.false_eq_true, if_false] at h
            rw [ih h]
            simp [segsD, Seg.den, none_ hp]
        · rename_i n m _
          simp only [R.bind_ok, chk_ok, Bool.and_eq_true] at h
          obtain ⟨_, ⟨z1, z2⟩, p, hp, h⟩ := h
          have z1 := lenOk_ok hA z1
          have z2 := lenOk_ok hA z2
          simp only [Seg.den, List.length_replicate, segLen] at z1 z2
          have hp := decP_ok hA hp
          simp only [B_mkCmp, cmpI] at hp
          cases p with
          | true =>
            replace hp := of_decide_eq_true hp
            simp only [if_true, R.bind_ok] at h
            obtain ⟨k, hk, h⟩ := h
            have hk := subT_I hA hk
            rw [ih h]
            have e1 : segsD ρ (if isZeroX k then b else .zs k :: b) = List.replicate (k.I ρ).toNat 0 ++ segsD ρ b := by
              split
              · rename_i hz
                unfold isZeroX at hz
                split at hz
                · simp [X.I]
                · cases hz
              · rfl
            rw [e1]
            simp only [segsD, Seg.den]
            rw [show (m.I ρ).toNat = (n.I ρ).toNat + (k.I ρ).toNat by omega, ← List.replicate_append_replicate, List.append_assoc, append_beq rfl]
            simp
          | false =>
            replace hp := of_decide_eq_false hp
            simp only [Bool.false_eq_true, if_false, R.bind_ok] at h
            obtain ⟨k, hk, h⟩ := h
            have hk := subT_I hA hk
            rw [ih h]
            simp only [segsD, Seg.den]
            rw [show (n.I ρ).toNat = (m.I ρ).toNat + (k.I ρ).toNat by omega, ← List.replicate_append_replicate, List.append_assoc, append_beq rfl]
            simp
        · rename_i e o n e' o' m _
          simp only [R.bind_ok, chk_ok, Bool.and_eq_true] at h
          obtain ⟨_, ⟨h1, h2⟩, p, hp, h⟩ := h
          have h1 := Nat.eq_of_beq_eq_true h1
          subst h1
          have h2 := sureB_ok hA h2
          have hp := decP_ok hA hp
          simp only [B_mkCmp, cmpI, beq_iff_eq] at h2 hp
          cases p with
          | true =>
            simp only [if_true] at h
            replace hp := eq_of_beq hp
            rw [ih h]
            have e1 : Seg.den ρ (.xt e o n) = Seg.den ρ (.xt e o' m) := by simp only [Seg.den, h2, hp]
            rw [segsD, segsD, e1, append_beq rfl]
            simp
          | false => simp only [Bool.false_eq_true, if_false] at h; cases h
        · cases h

theorem oneSeg_ok (bs : List X) : segsD ρ (oneSeg bs) = bs.map fun x => b8 (x.I ρ) := by
  cases bs <;> simp [oneSeg, segsD, Seg.den]
theorem bytesC_ok : ∀ {cs : List SC} {bs : List X}, bytesC cs = .ok bs → dens ρ β cs = bs.map fun x => Value.int .u8 (x.I ρ)
  | [], bs, h => by simp only [bytesC] at h; cases h; rfl
  | c :: cs, bs, h => by
    unfold bytesC at h
    split at h
    · rename_i e; cases e
    · rename_i x l e
      cases e
      obtain ⟨bs', hb, h⟩ := R.bind_ok.1 h
      cases h
      have := bytesC_ok hb
      simp only [dens, List.map_cons] at this ⊢
      rw [this]; rfl
    · cases h
theorem cellsB_den (hA : A.ok ρ) : ∀ {bs : List X}, dens ρ β (cellsB A bs) = (bs.map fun x => b8 (x.I ρ)).map fun b => Value.int .u8 (b.toNat : Int)
  | [] => rfl
  | x :: l => by
    have := cellsB_den hA (bs := l)
    simp only [dens, cellsB, List.map_cons] at this ⊢
    rw [this]
    simp only [SC.den, wrapR_ok hA, b8_nat]
theorem cellsB_len (bs : List X) : (cellsB A bs).length = bs.length := by
  induction bs with
  | nil => rfl
  | cons x l ih => simp [cellsB, ih]
theorem allBs_ok : ∀ {l : List Seg} {bs : List X}, allBs l = .ok bs → segsD ρ l = bs.map fun x => b8 (x.I ρ)
  | [], bs, h => by simp only [allBs] at h; cases h; rfl
  | s :: l, bs, h => by
    unfold allBs at h
    split at h
    · rename_i e; cases e
    · rename_i xs r e
      cases e
      obtain ⟨bs', hb, h⟩ := R.bind_ok.1 h
      cases h
      simp only [segsD, Seg.den, List.map_append, allBs_ok hb]
    · cases h
theorem litBnd_ok {d : X} {o : Option SC} {r : X} (h : litBnd d o = .ok r) : (o = none ∧ r = d) ∨ ∃ k, o = some (.ci k r) := by
  unfold litBnd at h
  split at h
  · cases h; exact .inl ⟨rfl, rfl⟩
  · cases h; exact .inr ⟨_, rfl⟩
  · cases h
theorem size_mk (l : List UInt8) : (ByteArray.mk l.toArray).size = l.length := by simp [ByteArray.size]
theorem foldl_push (ns : List Int) : ∀ s : ByteArray, ns.foldl (fun r n => r.push (UInt8.ofNat n.toNat)) s = ⟨(s.data.toList ++ ns.map fun n => UInt8.ofNat n.toNat).toArray⟩ := by
  induction ns with
  | nil => intro s; cases s; simp
  | cons n ns ih =>
    intro s
    simp only [List.foldl_cons, ih]
    congr 1
    simp [ByteArray.push]

theorem slice_text (w : World) (t : TypeId) (s : ByteArray) (lo hi : Option Value) (b h : Nat) (ht : P.underlying t = some .string) (hb : b ≤ h) (hh : h ≤ s.size)
    (e1 : (lo = none ∧ b = 0) ∨ ∃ k, lo = some (.int k b)) (e2 : (hi = none ∧ h = s.size) ∨ ∃ k, hi = some (.int k h)) :
    (Instr.slice t (.string s) lo hi none).run P w = .ok (.string (s.extract b h)) w := by
  rcases e1 with ⟨rfl, rfl⟩ | ⟨k, rfl⟩ <;> rcases e2 with ⟨rfl, rfl⟩ | ⟨k', rfl⟩
  · exact run_slice_string_all w t s ht
  · rw [run_slice_string_to_if w t s k' h ht, if_pos (by omega)]; simp
  · rw [run_slice_string_from_if w t s k b ht, if_pos (by omega)]; simp
  · rw [run_slice_string_if w t s k k' b h ht, if_pos (by omega), if_pos (by omega)]; simp

set_option maxHeartbeats 1000000 in
theorem opT_ok (hA : A.ok ρ) (hT : RepA ρ β S a) (hR : Rep ρ β S wr w) {o : Oper} {t : ST} {e : Ef} (h : opT P A S o.op = .ok (t, e)) : Does P ρ S a o t e w β := by
  cases hop : o.op with
  | binOp op ty x y yt =>
    rw [hop] at h
    simp only [opT, R.bind_ok] at h
    obtain ⟨u, hu, l, hl, v, hv, m, hm, h⟩ := h
    have eu := (evC_ok hA hT hu).trans (asStr_ok hl)
    have ev := (evC_ok hA hT hv).trans (asStr_ok hm)
    have key : ∀ {tt : ST}, (binOp op ty (.string ⟨(segsD ρ l).toArray⟩) (.string ⟨(segsD ρ m).toArray⟩)).run P w = .ok (tt.den ρ β) w → Does P ρ S a o tt .none w β := by
      intro tt hr
      refine does_value (s := do eqGuard op ty x y (a.eval x) (a.eval y); binOp op ty (a.eval x) (a.eval y)) (by simp only [execOp, hop]) ?_
      rw [eu, ev]
      simp only [eqGuard_at_string, Sem.run_bind, Sem.run_pure, Result.andThen_ok, hr]
    split at h
    · simp only [R.bind_ok, chk_ok] at h
      obtain ⟨n, hn, _, hs, h⟩ := h
      cases h
      have h1 := segsLen_ok hA hn
      have h2 := sureB_ok hA hs
      simp only [B_mkCmp, cmpI, X.I] at h2
      replace h2 := of_decide_eq_true h2
      rw [segsD_append, List.length_append] at h1
      refine key ?_
      rw [binOp_string_add, run_string_add_sum w _ _ (by rw [size_mk, size_mk]; omega), ByteArray.mk_append_mk]
      simp only [ST.den, SV.den, SC.den, segsD_append]
    · simp only [R.bind_ok] at h
      obtain ⟨c, hc, h⟩ := h
      cases h
      refine key ?_
      rw [binOp_string_eql]
      simp only [ByteArray.toList_mk, Sem.run_pure, ST.den, SV.den, SC.den, eqT_ok hA hc]
    · simp only [R.bind_ok] at h
      obtain ⟨c, hc, h⟩ := h
      cases h
      refine key ?_
      rw [binOp_string_neq]
      simp only [ByteArray.toList_mk, Sem.run_pure, ST.den, SV.den, SC.den, B_mkNot, eqT_ok hA hc]
    · cases h
  | index ty x ix =>
    rw [hop] at h
    simp only [opT, R.bind_ok] at h
    obtain ⟨c, hc, p, hp, u, hu, l, hl, h⟩ := h
    have hi := evC_ok hA hT hc
    rw [asI_ok hp] at hi
    have eu := (evC_ok hA hT hu).trans (asStr_ok hl)
    split at h
    · rename_i ht
      simp only [R.bind_ok, chk_ok] at h
      obtain ⟨_, h0, r, hr, h⟩ := h
      cases h
      have h0 := sureB_ok hA h0
      simp only [B_mkCmp, cmpI, X.I] at h0
      replace h0 := of_decide_eq_true h0
      obtain ⟨b, g1, g2⟩ := segIdx_ok hA hr h0
      have hlt : (p.2.I ρ).toNat < (segsD ρ l).length := (List.getElem?_eq_some_iff.1 g1).1
      refine does_value (s := Instr.index ty (a.eval x) (a.eval ix)) (by simp only [execOp, hop]) ?_
      rw [eu, hi]
      simp only [SC.den]
      rw [run_index_string w ty _ p.1 _ ht, dif_pos ⟨h0, by rw [size_mk]; omega⟩]
      simp only [ST.den, SV.den, SC.den, g2]
      congr 3
      have : (segsD ρ l)[(p.2.I ρ).toNat] = b := by
        have := (List.getElem?_eq_some_iff.1 g1).2; exact this
      rw [← this]; rfl
    · cases h
  | slice ty x lo hi mx =>
    rw [hop] at h
    simp only [opT, R.bind_ok] at h
    obtain ⟨lc, hlc, hc, hhc, u, hu, l, hl, h⟩ := h
    have eu := (evC_ok hA hT hu).trans (asStr_ok hl)
    have e1 := optC_ok hA hT hlc
    have e2 := optC_ok hA hT hhc
    split at h
    · rename_i hmx ht
      simp only [R.bind_ok, chk_ok, Bool.and_eq_true] at h
      obtain ⟨n, hn, hx, hhx, bx, hbx, c1, hc1, c2, hc2, c3, hc3, _, ⟨⟨k1, k2⟩, k3⟩, r, hr, k, hk, r', hr', h⟩ := h
      cases h
      subst k1 k2 k3
      have hn := segsLen_ok hA hn
      have hc1 := decP_ok hA hc1
      have hc2 := decP_ok hA hc2
      have hc3 := decP_ok hA hc3
      simp only [B_mkCmp, cmpI, X.I] at hc1 hc2 hc3
      replace hc1 := of_decide_eq_true hc1; replace hc2 := of_decide_eq_true hc2; replace hc3 := of_decide_eq_true hc3
      have hr := dropSeg_ok hA hr hc1
      have hk := subT_I hA hk
      have hr' := takeSeg_ok hA hr' (by omega)
      have hlen := size_mk (segsD ρ l)
      refine does_value (s := Instr.sliceAt ty (a.eval x) (lo.map a.eval) (hi.map a.eval) none) (by simp only [execOp, hop]; rfl) ?_
      rw [eu, e1, e2, run_sliceAt_string w ty _ _ _ _ ht,
        slice_text w ty _ _ _ (bx.I ρ).toNat (hx.I ρ).toNat ht (by omega) (by omega)
          (by
            rcases litBnd_ok hbx with ⟨rfl, rfl⟩ | ⟨k0, rfl⟩
            · exact .inl ⟨rfl, rfl⟩
            · exact .inr ⟨k0, by simp only [Option.map_some, SC.den]; congr 2; omega⟩)
          (by
            rcases litBnd_ok hhx with ⟨rfl, rfl⟩ | ⟨k0, rfl⟩
            · exact .inl ⟨rfl, by omega⟩
            · exact .inr ⟨k0, by simp only [Option.map_some, SC.den]; congr 2; omega⟩)]
      rw [ByteArray.extract_mk]
      simp only [ST.den, SV.den, SC.den, hr', hr, hk]
      congr 5
      omega
    · cases h
  | convert src dst x =>
    rw [hop] at h
    simp only [opT] at h
    split at h
    · rename_i el hs hd
      split at h
      · rename_i he
        simp only [R.bind_ok] at h
        obtain ⟨u, hu, h⟩ := h
        have eu := evC_ok hA hT hu
        have key : ∀ {tt : ST}, (convert src dst (a.eval x)).run P w = .ok (tt.den ρ β) w → Does P ρ S a o tt .none w β :=
          fun hr => does_value (s := convert src dst (a.eval x)) (by simp only [execOp, hop]) hr
        split at h
        · rename_i id n
          obtain ⟨b, hb, h⟩ := R.bind_ok.1 h
          split at h
          · rename_i x1 x2 m hc hsp
            simp only [R.bind_ok, chk_ok] at h
            obtain ⟨_, hnm, h⟩ := h
            cases h
            have hnm := X.eqb_eq hnm
            subst hnm
            refine key ?_
            have hw := hR.blk id b (blkAt_ok hb)
            simp only [Blk.obj, hc, hsp, spV_zz, dens, List.map_nil, List.nil_append] at hw
            rw [eu]
            simp only [SC.den]
            rw [run_convert_bytes_string w src dst _ _ _ _ hs he hd]
            have hl : (loadCells ⟨β id, 0, none⟩ (n.I ρ).toNat).run P w = .ok ((List.replicate (n.I ρ).toNat (0 : Int)).map (Value.int .u8)).toArray w := by
              have := run_loadCells_list (P := P) w ⟨β id, 0, none⟩ ((List.replicate (n.I ρ).toNat (0 : Int)).map (Value.int .u8)) (fun j v hv => by
                rw [addr_add]
                simp only [World.cell?, hw, Option.isSome_none, Bool.false_eq_true, if_false, List.getElem?_toArray, Nat.zero_add]
                simpa using hv)
              simpa using this
            rw [run_bytesToString w _ _ _ _ hl, foldl_push]
            simp [ST.den, SV.den, SC.den, segsD, Seg.den]
          · cases h
        · rename_i id off n cap
          simp only [R.bind_ok, ofOpt_ok, chk_ok] at h
          obtain ⟨b, hb, l, hl, bs, hbs, _, hnn, h⟩ := h
          cases h
          refine key ?_
          have hw := hR.blk id b (blkAt_ok hb)
          obtain ⟨c1, c2⟩ := cut_eq hl
          have hb1 := bytesC_ok (ρ := ρ) (β := β) hbs
          rw [eu]
          simp only [SC.den]
          rw [run_convert_bytes_string w src dst _ _ _ _ hs he hd]
          have hln : (bs.map fun x => X.I ρ x).length = n := by
            have := congrArg List.length hb1
            simp only [dens, List.length_map] at this ⊢
            omega
          have hl2 : (loadCells ⟨β id, off, none⟩ n).run P w = .ok ((bs.map fun x => X.I ρ x).map (Value.int .u8)).toArray w := by
            have := run_loadCells_list (P := P) w ⟨β id, off, none⟩ (dens ρ β l) (fun j v hv => by
              rw [addr_add]
              rw [c1] at hv
              simp only [dens, List.map_take, List.map_drop, List.getElem?_take, List.getElem?_drop] at hv
              split at hv
              · have hlt := (List.getElem?_eq_some_iff.1 hv).1
                simp only [World.cell?, hw, Blk.obj, Option.isSome_none, Bool.false_eq_true, if_false, List.getElem?_toArray]
                rw [List.getElem?_append_left (by simpa [dens] using hlt)]; exact hv
              · cases hv)
            have hd2 : (dens ρ β l).length = n := by simp [dens, c2]
            rw [hd2, hb1] at this
            rw [List.map_map]
            exact this
          rw [run_bytesToString w _ _ _ _ hl2, foldl_push]
          have e3 : ((bs.map fun x => X.I ρ x).map fun n => UInt8.ofNat n.toNat) = bs.map fun x => b8 (x.I ρ) := by
            rw [List.map_map]
            refine List.map_congr_left fun x hx => ?_
            have := (allB_eq _ _).1 hnn x hx
            have h0 : 0 ≤ x.I ρ := by
              unfold nnB at this
              split at this
              · rename_i hr
                exact Int.le_trans (Int.natCast_nonneg _) (rng_ok hA.1 _ _ _ hr).1
              · have := sureB_ok hA this
                simp only [B_mkCmp, cmpI, X.I] at this
                exact of_decide_eq_true this
            simp only [Function.comp_apply, b8, wrap8]
            apply UInt8.toNat.inj
            simp only [UInt8.toNat_ofNat']
            omega
          simp only [ST.den, SV.den, SC.den]
          rw [e3, oneSeg_ok]
          rfl
        · cases h
          refine key ?_
          rw [eu]
          simp only [SC.den]
          rw [run_convert_bytes_string w src dst _ _ _ _ hs he hd]
          simp [Conv.bytesToString, ST.den, SV.den, SC.den, segsD]
          rfl
        · cases h
      · cases h
    · cases h
  | makeSlice ty l c =>
    rw [hop] at h
    simp only [opT, R.bind_ok] at h
    obtain ⟨c1, hc1, p, hp, c2, hc2, q, hq, h⟩ := h
    have hl := evC_ok hA hT hc1
    have hc := evC_ok hA hT hc2
    rw [asI_ok hp] at hl
    rw [asI_ok hq] at hc
    split at h
    · rename_i e0 hu
      simp only [R.bind_ok, chk_ok, ofOpt_ok, Bool.and_eq_true, Nat.ble_eq, len_eq] at h
      obtain ⟨z, hz, i, hi, _, ⟨⟨⟨⟨⟨k1, k2⟩, k3⟩, k4⟩, k5⟩, k6⟩, h⟩ := h
      cases h
      have k1 := X.eqb_eq k1
      have k3 := Nat.eq_of_beq_eq_true k3
      have k5 := sureB_ok hA k5
      have k6 := sureB_ok hA k6
      simp only [B_mkCmp, cmpI, X.I] at k5 k6
      replace k5 := of_decide_eq_true k5; replace k6 := of_decide_eq_true k6
      rw [← k1] at hc
      obtain ⟨N, hN⟩ := Int.eq_ofNat_of_zero_le k5
      obtain ⟨zv, hzv, hzc⟩ := zeroT_ok hz w
      have hzd : zv.cells = #[Value.int .u8 0] := by rw [hzc ρ β, (litCs_den ρ β β k2).1]; rfl
      have w1 : IntKind.i64.wrap (p.2.I ρ) = p.2.I ρ := wrap_id (by show (-9223372036854775808 : Int) ≤ _; omega) (by show _ ≤ (9223372036854775807 : Int); omega)
      have hb : (i.bytes : Int) * (p.2.I ρ) ≤ 1000000000 := by
        have : i.bytes = 0 ∨ i.bytes = 1 := by omega
        rcases this with h0 | h0 <;> rw [h0] <;> omega
      refine ⟨w.alloc (Blk.obj ρ β ⟨[], e0, some (0, 0, [.zz p.2])⟩), _, .value (.slice (some ⟨w.heap.size, 0, none⟩) (p.2.I ρ).toNat (p.2.I ρ).toNat), ⟨rfl, rfl⟩, ?_, .inl ?_⟩
      · have hcond : ((decide (p.2.I ρ < 0) || decide ((i.bytes : Int) * (p.2.I ρ) > 2 ^ 48)) || decide (p.2.I ρ < 0) || decide (p.2.I ρ > p.2.I ρ)) = false := by
          simp; omega
        have hsz : (sizeOf e0).run P w = .ok 1 w := by simp [sizeOf, typeInfo, hi, k3]
        simp only [execOp, hop, hl, hc, SC.den, Instr.makeSlice, Sem.run_bind, run_underlying hu, Result.andThen_ok, asInt, asIntOf, Sem.run_pure, typeInfo, run_program, hi, w1]
        simp only [hcond, Bool.false_eq_true, if_false, run_askRoom, Result.andThen_ok, Sem.run_bind, hsz, Nat.mul_one]
        by_cases h0 : (p.2.I ρ).toNat = 0
        · have hr0 : ∀ f : Nat → Value, (Array.range 0).map f = #[] := fun f => by apply Array.ext'; simp
          simp [h0, newRow, Blk.obj, spV_zz, dens, hr0]
        · have hz8 : ((Array.range (p.2.I ρ).toNat).map fun x => zv.cells[x % zv.cells.size]!) = (List.replicate (p.2.I ρ).toNat (Value.int .u8 0)).toArray := by
            rw [hzd]
            apply Array.ext'
            apply List.ext_getElem?
            intro j
            simp only [Array.toList_map, Array.toList_range, List.getElem?_map, List.getElem?_replicate]
            by_cases hj : j < (p.2.I ρ).toNat
            · simp [hj, Nat.mod_one]
            · simp [hj]
          simp only [h0, if_false, Sem.run_bind, hzv, Result.andThen_ok, Sem.run_pure, hz8]
          simp [newRow, Blk.obj, spV_zz, dens]
      · simp [ST.den, SV.den, SC.den]
    · cases h
  | call c =>
    rw [hop] at h
    obtain ⟨cal, args, ats⟩ := c
    cases cal with
    | builtin b =>
      simp only [opT, R.bind_ok] at h
      obtain ⟨vs, hvs, h⟩ := h
      have h1 := evVs_ok hA hT hvs
      have h2 : args.map a.eval = (vs.map (SV.den ρ β)).toArray := by apply Array.ext'; simpa using h1
      split at h
      · rename_i ty c hty
        obtain ⟨l, hl, h⟩ := R.bind_ok.1 h
        split at h
        · rename_i hu
          obtain ⟨n, hn, h⟩ := R.bind_ok.1 h
          cases h
          have hn := segsLen_ok hA hn
          have hty' : ats[0]? = some ty := by rw [← Array.getElem?_toList, hty]; rfl
          refine ⟨w, β, .value _, ⟨rfl, rfl⟩, ?_, .inl rfl⟩
          simp only [execOp, hop, resolve, Sem.run_bind, Sem.run_pure, Result.andThen_ok, invoke, h2]
          simp only [builtin, List.map_cons, List.map_nil, SV.den, asStr_ok (β := β) hl]
          have hats : ats = #[ty] := by apply Array.ext'; exact hty
          rw [hats, Sem.run_bind, run_len_string w ty o.type _ hu]
          simp only [Result.andThen_ok, Sem.run_pure, ST.den, SV.den, SC.den, goInt, size_mk, hn]
        · cases h
      · rename_i t1 t2 id off n cap c hty
        obtain ⟨l, hl, h⟩ := R.bind_ok.1 h
        split at h
        · rename_i e0 hu hd
          simp only [R.bind_ok, chk_ok, Bool.and_eq_true, Nat.ble_eq, len_eq] at h
          obtain ⟨sz, hsz, bs, hbs, b, hb, _, ⟨⟨⟨k1, k2⟩, k3⟩, k4⟩, h⟩ := h
          cases h
          have k1 := Nat.eq_of_beq_eq_true k1
          subst k1
          have hid := blkAt_ok hb
          have hw := hR.blk id b hid
          have hats : ats = #[t1, t2] := by apply Array.ext'; exact hty
          have hs := asStr_ok (ρ := ρ) (β := β) hl
          rw [allBs_ok hbs] at hs
          refine ⟨putBlk w (β id) ⟨lay b.cells off (cellsB A bs), b.elem, b.sp⟩ ρ β, β, .value _, ⟨rfl, rfl, b, hid, rfl, rfl⟩, ?_, .inl rfl⟩
          simp only [execOp, hop, resolve, Sem.run_bind, Sem.run_pure, Result.andThen_ok, invoke, h2]
          simp only [builtin, List.map_cons, List.map_nil, SV.den, hs, hats]
          have hcl : (cellsB A bs).length = bs.length := cellsB_len bs
          have hdl : (dens ρ β (cellsB A bs)).length = bs.length := by simp [dens, hcl]
          have hst := run_storeCells_at P (β id) off b.elem (dens ρ β (cellsB A bs)) 0 (dens ρ β b.cells ++ spV ρ β b.sp).toArray w hw
            (by simp [dens, hcl]; omega) (by intro x hx; rw [cellsB_den hA] at hx; simp only [List.mem_map] at hx; obtain ⟨y, _, rfl⟩ := hx; rfl)
          have hmin : Nat.min (ByteArray.mk (bs.map fun x => b8 (x.I ρ)).toArray).size n = bs.length := by
            rw [size_mk, List.length_map]; exact Nat.min_eq_left k2
          have hext : ((ByteArray.mk (bs.map fun x => b8 (x.I ρ)).toArray).extract 0 bs.length).data.map (fun b => Value.int .u8 (b.toNat : Int)) = (dens ρ β (cellsB A bs)).toArray := by
            rw [ByteArray.extract_mk, cellsB_den hA]
            apply Array.ext'
            simp only [List.drop_zero, Nat.sub_zero, Array.toList_map]
            rw [List.take_of_length_le (by simp)]
          have fin : (Builtin.copy_ #[t1, t2] o.type #[.slice (some ⟨β id, off, none⟩) n cap, .string ⟨(bs.map fun x => b8 (x.I ρ)).toArray⟩]).run P w = .ok (goInt bs.length) (putBlk w (β id) ⟨lay b.cells off (cellsB A bs), b.elem, b.sp⟩ ρ β) := by
            have g0 : (#[t1, t2] : Array TypeId)[0]? = some t1 := rfl
            have g1 : (#[Value.slice (some ⟨β id, off, none⟩) n cap, Value.string ⟨(bs.map fun x => b8 (x.I ρ)).toArray⟩] : Array Value)[0]? = some (Value.slice (some ⟨β id, off, none⟩) n cap) := rfl
            have g2 : (#[Value.slice (some ⟨β id, off, none⟩) n cap, Value.string ⟨(bs.map fun x => b8 (x.I ρ)).toArray⟩] : Array Value)[1]? = some (Value.string ⟨(bs.map fun x => b8 (x.I ρ)).toArray⟩) := rfl
            simp only [Builtin.copy_, g0, g1, g2, Sem.run_bind, run_underlying hu, Result.andThen_ok, Builtin.lenOf, Builtin.firstCells, Sem.run_pure, hmin, sizeT_ok hsz, hext, hst]
            congr 1
            unfold putBlk
            rw [lay_eq (cellsB A bs) b.cells off (by omega)]
            have t1 : List.take off (dens ρ β b.cells ++ spV ρ β b.sp) = List.take off (dens ρ β b.cells) := List.take_append_of_le_length (by simp [dens]; omega)
            have t2 : List.drop (off + (dens ρ β (cellsB A bs)).length) (dens ρ β b.cells ++ spV ρ β b.sp) = List.drop (off + (dens ρ β (cellsB A bs)).length) (dens ρ β b.cells) ++ spV ρ β b.sp := List.drop_append_of_le_length (by simp [dens]; omega)
            simp only [Nat.add_zero, t1, t2]
            simp [dens, List.map_take, List.map_drop]
          rw [Sem.run_bind, show SC.den ρ β (SC.csl id off n cap) = .slice (some ⟨β id, off, none⟩) n cap from rfl, fin]
          rfl
        · cases h
      · cases h
    | _ => simp only [opT] at h; cases h
  | _ => rw [hop] at h; simp only [opT] at h; cases h

theorem opA_ok (hA : A.ok ρ) (hT : RepA ρ β S a) (hR : Rep ρ β S wr w) {o : Oper} {t : ST} {e : Ef} (h : opA P A S o.op = .ok (t, e)) : Does P ρ S a o t e w β := by
  unfold opA at h
  split at h
  · rename_i m hm
    split at h
    · split at h
      · split at h
        · cases h
        · exact opT_ok hA hT hR h
      · exact opP_ok hA hT hR h
    · exact opR_ok hA hT hR h
  · exact opS_ok hA hT hR h
end
end Go.Sx
