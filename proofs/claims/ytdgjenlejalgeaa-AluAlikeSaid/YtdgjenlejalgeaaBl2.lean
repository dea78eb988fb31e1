import Derived.Test.YtdgjenlejalgeaaBl0
namespace Go.Proofs.Ytdgjenlejalgeaa
open Go.RowKit Go.Sx
structure Fl where
  p : Int
  s : Int
structure By where
  v : Int
  s : Bool
abbrev Fl.V (f : Fl) : Value := .agg #[.int .u8 f.p, .int .u8 f.s]
abbrev By.V (b : By) : Value := .agg #[.int .u8 b.v, .bool b.s]
abbrev A8 (a b : Int) : Int := bits BinOp.and IntKind.u8 a b
abbrev O8 (a b : Int) : Int := bits BinOp.or IntKind.u8 a b
abbrev N8 (a b : Int) : Int := bits BinOp.andNot IntKind.u8 a b
def getF (f : Fl) (bit : Int) : By := ⟨if decide (0 < A8 f.p (A8 bit 207)) = true then 1 else 0, decide (0 < A8 f.s (A8 bit 207))⟩
def putI (p bit : Int) (is : Bool) : Int := if is = true then O8 (N8 p (A8 bit 207)) (A8 bit 207) else N8 p (A8 bit 207)
def setF (f : Fl) (bit : Int) (b : By) : Fl := ⟨putI (A8 f.p 207) bit (b.v != 0), putI (A8 f.s 207) bit b.s⟩
theorem check_any (f : Fl) (w : World) : Calls Try.prog 9 #[f.V] w fun e w' => e = .returned (Fl.V ⟨A8 f.p 207, A8 f.s 207⟩) ∧ Below w.heap.size w w' := by
  go_enter Try.func9, Try.ntmps9
  go_wp2
  exact bodyPost_ret (v := Fl.V ⟨A8 f.p 207, A8 f.s 207⟩) (by simp [results, Try.results9, go_sem]) rfl ⟨rfl, by (repeat first | exact .refl _ _ | exact (Below.refl _ _).drew | refine .drew ?_ | refine .alloc ?_ (by simp <;> omega) _)⟩
theorem get_any (f : Fl) (bit : Int) (w : World) : Calls Try.prog 11 #[f.V, .int .u8 bit] w fun e w' => e = .returned (getF f bit).V ∧ Below w.heap.size w w' := by
  obtain ⟨r, hr⟩ : ∃ r, r = getF f bit := ⟨_, rfl⟩
  rw [← hr]
  have HR := hidI hr; clear hr
  cases h1 : decide (0 < A8 f.p (A8 bit 207))
  · have e : r = ⟨0, decide (0 < A8 f.s (A8 bit 207))⟩ := by rw [HR.out]; unfold getF; rw [h1]; rfl
    have E := hidI e; clear e
    go_enter Try.func11, Try.ntmps11
    go_wp2_with fail
    exact bodyPost_ret (v := By.V ⟨0, decide (0 < A8 f.s (A8 bit 207))⟩) (by simp [results, Try.results11, go_sem]) rfl ⟨by rw [E.out], by (repeat first | exact .refl _ _ | exact (Below.refl _ _).drew | refine .drew ?_ | refine .alloc ?_ (by simp <;> omega) _)⟩
  · have e : r = ⟨1, decide (0 < A8 f.s (A8 bit 207))⟩ := by rw [HR.out]; unfold getF; rw [h1]; rfl
    have E := hidI e; clear e
    go_enter Try.func11, Try.ntmps11
    go_wp2_with fail
    exact bodyPost_ret (v := By.V ⟨1, decide (0 < A8 f.s (A8 bit 207))⟩) (by simp [results, Try.results11, go_sem]) rfl ⟨by rw [E.out], by (repeat first | exact .refl _ _ | exact (Below.refl _ _).drew | refine .drew ?_ | refine .alloc ?_ (by simp <;> omega) _)⟩
/-- A block of two cells. -/
abbrev B2 (w : World) (g : Nat) (a b : Value) (t : TypeId) : Prop := w.heap[g]? = some (.cells #[a, b] t (0, 0))
theorem pull_any (b : By) (w : World) : Calls Try.prog 19 #[b.V] w fun e w' => e = .returned (Fl.V ⟨A8 b.v 207, if b.s = true then 207 else 0⟩) ∧ Below w.heap.size w w' := by
  obtain ⟨v, s⟩ := b
  cases s
  · go_enter Try.func19, Try.ntmps19
    go_wp2_with fail
    exact bodyPost_ret (v := Fl.V ⟨A8 v 207, 0⟩) (by simp [results, Try.results19, go_sem]) rfl ⟨rfl, by (repeat first | exact .refl _ _ | exact (Below.refl _ _).drew | refine .drew ?_ | refine .alloc ?_ (by simp <;> omega) _)⟩
  · go_enter Try.func19, Try.ntmps19
    go_wp2_with fail
    exact bodyPost_ret (v := Fl.V ⟨A8 v 207, 207⟩) (by simp [results, Try.results19, go_sem]) rfl ⟨rfl, by (repeat first | exact .refl _ _ | exact (Below.refl _ _).drew | refine .drew ?_ | refine .alloc ?_ (by simp <;> omega) _)⟩
theorem set2 {w : World} {g : Nat} {a b : Value} {t : TypeId} (h : B2 w g a b t) (v0 v1 : Value) : B2 ((w.setCell ⟨g, 0, none⟩ v0).setCell ⟨g, 1, none⟩ v1) g v0 v1 t := by
  have := blk_set (blk_set h 0 v0) 1 v1
  simpa using this
theorem oth2 {w : World} {g B : Nat} (h : B ≠ g) (v0 v1 : Value) : ((w.setCell ⟨B, 0, none⟩ v0).setCell ⟨B, 1, none⟩ v1).heap[g]? = w.heap[g]? :=
  (blk_other (by exact h) _).trans (blk_other (by exact h) _)
theorem bs2 {w0 w : World} {A B : Nat} (h : Below A w0 w) (hB : A ≤ B) (v0 v1 : Value) : Below A w0 ((w.setCell ⟨B, 0, none⟩ v0).setCell ⟨B, 1, none⟩ v1) :=
  (h.setCell (p := ⟨B, 0, none⟩) hB v0).setCell (p := ⟨B, 1, none⟩) hB v1
theorem set_0 {w : World} {g : Nat} {a b : Value} {t : TypeId} (h : B2 w g a b t) (v : Value) : B2 (w.setCell ⟨g, 0, none⟩ v) g v b t := by
  have := blk_set h 0 v
  simpa using this
theorem set_1 {w : World} {g : Nat} {a b : Value} {t : TypeId} (h : B2 w g a b t) (v : Value) : B2 (w.setCell ⟨g, 1, none⟩ v) g a v t := by
  have := blk_set h 1 v
  simpa using this
/-- Bytes in memory. -/
def ByAt (w : World) (ao : Option Addr) (l : List By) : Prop := ∃ b, ao = some ⟨b, 0, none⟩ ∧ b < w.heap.size ∧ ∀ i x, l[i]? = some x → w.cell? ⟨b, i * 2, none⟩ = some (.int .u8 x.v) ∧ w.cell? ⟨b, i * 2 + 1, none⟩ = some (.bool x.s)
theorem ByAt.below {w w' : World} {ao : Option Addr} {l : List By} (h : ByAt w ao l) (hb : Below w.heap.size w w') : ByAt w' ao l := by
  obtain ⟨b, e, hlt, hc⟩ := h
  exact ⟨b, e, Nat.lt_of_lt_of_le hlt hb.size, fun i x hx => ⟨(hb.cell (p := ⟨b, i * 2, none⟩) hlt).trans (hc i x hx).1, (hb.cell (p := ⟨b, i * 2 + 1, none⟩) hlt).trans (hc i x hx).2⟩⟩
theorem byAt1 (w : World) (t : TypeId) (x : By) : ByAt (w.alloc (.cells #[.int .u8 x.v, .bool x.s] t)) (some ⟨w.heap.size, 0, none⟩) [x] := by
  have h := blk_new w (.cells #[.int .u8 x.v, .bool x.s] t)
  refine ⟨_, rfl, by simp, fun i y hy => ?_⟩
  match i, hy with
  | 0, hy => cases hy; exact ⟨blk_cell h 0, blk_cell h 1⟩
theorem byAt2 (w : World) (t : TypeId) (x y : By) : ByAt (w.alloc (.cells #[.int .u8 x.v, .bool x.s, .int .u8 y.v, .bool y.s] t)) (some ⟨w.heap.size, 0, none⟩) [x, y] := by
  have h := blk_new w (.cells #[.int .u8 x.v, .bool x.s, .int .u8 y.v, .bool y.s] t)
  refine ⟨_, rfl, by simp, fun i z hz => ?_⟩
  match i, hz with
  | 0, hz => cases hz; exact ⟨blk_cell h 0, blk_cell h 1⟩
  | 1, hz => cases hz; exact ⟨blk_cell h 2, blk_cell h 3⟩
theorem byAt3 (w : World) (t : TypeId) (x y z : By) : ByAt (w.alloc (.cells #[.int .u8 x.v, .bool x.s, .int .u8 y.v, .bool y.s, .int .u8 z.v, .bool z.s] t)) (some ⟨w.heap.size, 0, none⟩) [x, y, z] := by
  have h := blk_new w (.cells #[.int .u8 x.v, .bool x.s, .int .u8 y.v, .bool y.s, .int .u8 z.v, .bool z.s] t)
  refine ⟨_, rfl, by simp, fun i u hu => ?_⟩
  match i, hu with
  | 0, hu => cases hu; exact ⟨blk_cell h 0, blk_cell h 1⟩
  | 1, hu => cases hu; exact ⟨blk_cell h 2, blk_cell h 3⟩
  | 2, hu => cases hu; exact ⟨blk_cell h 4, blk_cell h 5⟩
def anyB (l : List By) : Bool := l.any (·.s)
theorem any_take {l : List By} {k : Nat} {x : By} (hx : l[k]? = some x) (h : anyB (l.take k) = false) : (x.s = true → anyB l = true) ∧ (x.s = false → anyB (l.take (k + 1)) = false) := by
  unfold anyB at h ⊢
  have hk := (List.getElem?_eq_some_iff.1 hx)
  refine ⟨fun hs => ?_, fun hs => ?_⟩
  · rw [List.any_eq_true]; exact ⟨x, List.mem_of_getElem? hx, hs⟩
  · rw [List.take_add_one, List.any_append, h, hx]
    simp [hs]
set_option maxHeartbeats 800000 in
theorem any_any (l : List By) (ao : Option Addr) (n : Nat) (w : World) (hn : n = l.length) (hl : n ≤ 1000) (h : ByAt w ao l) : Calls Try.prog 55 #[.slice ao n n] w fun e w' => e = .returned (.bool (anyB l)) ∧ Below w.heap.size w w' := by
  obtain ⟨b, rfl, hb, hc⟩ := h
  obtain ⟨z, hz⟩ : ∃ z, z = anyB l := ⟨_, rfl⟩
  rw [← hz]
  have HZ := hidI hz; have H := hidI hc; clear hz hc
  go_enter Try.func55, Try.ntmps55
  go_wp2_with fail
  go_loopw [7] (fun i wr => ∃ k : Nat, k ≤ n ∧ i = .int .i64 k ∧ anyB (l.take k) = false ∧ Below w.heap.size w wr) (fun i _ => n - (intOf i).toNat)
  case atStart => exact ⟨0, Nat.zero_le _, rfl, rfl, Below.refl _ _⟩
  case round =>
    obtain ⟨k, hk, rfl, ht0, hbl⟩ := hrel
    have ht := hidI ht0; clear ht0
    have hsz := hbl.size
    by_cases hlt : k < n
    · obtain ⟨x, hx⟩ : ∃ x, l[k]? = some x := ⟨l[k]'(by omega), List.getElem?_eq_getElem (by omega)⟩
      have c0 := (hbl.cell (p := ⟨b, k * 2, none⟩) hb).trans (H.out k x hx).1
      have c1 := (hbl.cell (p := ⟨b, k * 2 + 1, none⟩) hb).trans (H.out k x hx).2
      have HX := hidI hx; clear hx
      have bE : Below w.heap.size w (wr.alloc (.cells #[.int .u8 x.v, .bool x.s] 25)) := hbl.alloc hsz _
      cases hs : x.s
      · have HS := hidI hs
        rw [hs] at c1 bE
        clear hs
        go_wp2_with fail
        go_roundw
        case rel => exact ⟨k + 1, by omega, by simp, (any_take HX.out ht.out).2 HS.out, bE⟩
        case measure => simp [intOf]; omega
      · have HS := hidI hs
        rw [hs] at c1 bE
        clear hs
        go_wp2_with fail
        go_ret
        exact ⟨ret_bool (by rw [HZ.out, (any_take HX.out ht.out).1 HS.out]), bE⟩
    · obtain rfl : k = n := by omega
      go_wp2_with fail
      go_ret
      have : l.take k = l := List.take_of_length_le (by omega)
      exact ⟨ret_bool (by rw [HZ.out, ← this, ht.out]), hbl⟩
theorem of_any (v : Int) (l : List By) (ao : Option Addr) (n : Nat) (w : World) (hn : n = l.length) (hl : n ≤ 1000) (h : ByAt w ao l) : Calls Try.prog 47 #[.int .u8 v, .slice ao n n] w fun e w' => e = .returned (By.V ⟨v, anyB l⟩) ∧ Below w.heap.size w w' := by
  have HN := hidI hn; clear hn
  go_enter Try.func47, Try.ntmps47
  go_upto_region 1 with fail
  obtain ⟨w0, hw0⟩ : ∃ ww, ww = (w.alloc (.cells #[.int .u8 0, .bool false] 25)) := ⟨_, rfl⟩
  rw [← hw0]
  have Kr : B2 w0 (w.heap.size) (.int .u8 0) (.bool false) 25 := by rw [hw0]; exact blk_new' _ (by simp)
  have bl : Below w.heap.size w w0 := by rw [hw0]; (repeat first | exact .refl _ _ | exact (Below.refl _ _).drew | refine .drew ?_ | refine .alloc ?_ (by simp <;> omega) _)
  clear hw0
  obtain ⟨cr0, zr0, cr1, zr1, ner⟩ := b2z Kr
  have RL := h.below bl
  clear h
  go_wp2_with fail
  refine (any_any l ao n _ HN.out hl RL).mono ?_
  rintro e w1 ⟨rfl, b1⟩
  clear cr0 cr1 zr0 zr1 ner
  replace Kr := kp b1 Kr
  replace RL := RL.below b1
  replace bl := bl.trans (b1.mono bl.size)
  clear b1
  obtain ⟨cr0, zr0, cr1, zr1, ner⟩ := b2z Kr
  go_wp2_with fail
  clear cr0 cr1 zr0 zr1 ner
  obtain ⟨w2, hw2⟩ : ∃ ww, ww = ((w1.setCell ⟨(w.heap.size), 0, none⟩ (.int .u8 v)).setCell ⟨(w.heap.size), 1, none⟩ (.bool (anyB l))) := ⟨_, rfl⟩
  rw [← hw2]
  replace Kr : B2 w2 (w.heap.size) (.int .u8 v) (.bool (anyB l)) 25 := by rw [hw2]; exact (set2 Kr _ _)
  replace bl : Below w.heap.size w w2 := by rw [hw2]; exact bs2 bl (by first | exact Nat.le_refl _ | omega | (have := bl.size; omega)) _ _
  clear hw2
  obtain ⟨cr0, zr0, cr1, zr1, ner⟩ := b2z Kr
  exact bodyPost_ret (v := By.V ⟨v, anyB l⟩) (by simp [results, Try.results47, go_sem, cr0, cr1]) rfl ⟨rfl, bl⟩
def trI (is : Bool) : Int := if is = true then 1 else 0
theorem truth_any (is : Bool) (l : List By) (ao : Option Addr) (n : Nat) (w : World) (hn : n = l.length) (hl : n ≤ 1000) (h : ByAt w ao l) : Calls Try.prog 45 #[.bool is, .slice ao n n] w fun e w' => e = .returned (By.V ⟨trI is, anyB l⟩) ∧ Below w.heap.size w w' := by
  have HN := hidI hn; clear hn
  cases is
  · go_enter Try.func45, Try.ntmps45
    go_upto_region 1 with fail
    obtain ⟨w0, hw0⟩ : ∃ ww, ww = (w.alloc (.cells #[.int .u8 0, .bool false] 25)) := ⟨_, rfl⟩
    rw [← hw0]
    have Kr : B2 w0 (w.heap.size) (.int .u8 0) (.bool false) 25 := by rw [hw0]; exact blk_new' _ (by simp)
    have bl : Below w.heap.size w w0 := by rw [hw0]; (repeat first | exact .refl _ _ | exact (Below.refl _ _).drew | refine .drew ?_ | refine .alloc ?_ (by simp <;> omega) _)
    clear hw0
    obtain ⟨cr0, zr0, cr1, zr1, ner⟩ := b2z Kr
    have RL := h.below bl
    clear h
    go_wp2_with fail
    refine (of_any 0 l ao n _ HN.out hl RL).mono ?_
    rintro e w1 ⟨rfl, b1⟩
    clear cr0 cr1 zr0 zr1 ner
    replace Kr := kp b1 Kr
    replace RL := RL.below b1
    replace bl := bl.trans (b1.mono bl.size)
    clear b1
    obtain ⟨cr0, zr0, cr1, zr1, ner⟩ := b2z Kr
    go_wp2_with fail
    clear cr0 cr1 zr0 zr1 ner
    obtain ⟨w2, hw2⟩ : ∃ ww, ww = ((w1.setCell ⟨(w.heap.size), 0, none⟩ (.int .u8 0)).setCell ⟨(w.heap.size), 1, none⟩ (.bool (anyB l))) := ⟨_, rfl⟩
    rw [← hw2]
    replace Kr : B2 w2 (w.heap.size) (.int .u8 0) (.bool (anyB l)) 25 := by rw [hw2]; exact (set2 Kr _ _)
    replace bl : Below w.heap.size w w2 := by rw [hw2]; exact bs2 bl (by first | exact Nat.le_refl _ | omega | (have := bl.size; omega)) _ _
    clear hw2
    obtain ⟨cr0, zr0, cr1, zr1, ner⟩ := b2z Kr
    exact bodyPost_ret (v := By.V ⟨0, anyB l⟩) (by simp [results, Try.results45, go_sem, cr0, cr1]) rfl ⟨rfl, bl⟩
  · go_enter Try.func45, Try.ntmps45
    go_upto_region 1 with fail
    obtain ⟨w0, hw0⟩ : ∃ ww, ww = (w.alloc (.cells #[.int .u8 0, .bool false] 25)) := ⟨_, rfl⟩
    rw [← hw0]
    have Kr : B2 w0 (w.heap.size) (.int .u8 0) (.bool false) 25 := by rw [hw0]; exact blk_new' _ (by simp)
    have bl : Below w.heap.size w w0 := by rw [hw0]; (repeat first | exact .refl _ _ | exact (Below.refl _ _).drew | refine .drew ?_ | refine .alloc ?_ (by simp <;> omega) _)
    clear hw0
    obtain ⟨cr0, zr0, cr1, zr1, ner⟩ := b2z Kr
    have RL := h.below bl
    clear h
    go_wp2_with fail
    refine (of_any 1 l ao n _ HN.out hl RL).mono ?_
    rintro e w1 ⟨rfl, b1⟩
    clear cr0 cr1 zr0 zr1 ner
    replace Kr := kp b1 Kr
    replace RL := RL.below b1
    replace bl := bl.trans (b1.mono bl.size)
    clear b1
    obtain ⟨cr0, zr0, cr1, zr1, ner⟩ := b2z Kr
    go_wp2_with fail
    clear cr0 cr1 zr0 zr1 ner
    obtain ⟨w2, hw2⟩ : ∃ ww, ww = ((w1.setCell ⟨(w.heap.size), 0, none⟩ (.int .u8 1)).setCell ⟨(w.heap.size), 1, none⟩ (.bool (anyB l))) := ⟨_, rfl⟩
    rw [← hw2]
    replace Kr : B2 w2 (w.heap.size) (.int .u8 1) (.bool (anyB l)) 25 := by rw [hw2]; exact (set2 Kr _ _)
    replace bl : Below w.heap.size w w2 := by rw [hw2]; exact bs2 bl (by first | exact Nat.le_refl _ | omega | (have := bl.size; omega)) _ _
    clear hw2
    obtain ⟨cr0, zr0, cr1, zr1, ner⟩ := b2z Kr
    exact bodyPost_ret (v := By.V ⟨1, anyB l⟩) (by simp [results, Try.results45, go_sem, cr0, cr1]) rfl ⟨rfl, bl⟩
set_option maxHeartbeats 800000 in
theorem push_any (f : Fl) (brk : Bool) (w : World) : Calls Try.prog 17 #[f.V, .bool brk] w fun e w' => e = .returned (By.V ⟨if brk = true then O8 (O8 (A8 f.p 207) 32) 16 else O8 (A8 f.p 207) 32, decide (0 < A8 f.s 207)⟩) ∧ Below w.heap.size w w' := by
  cases brk
  · go_enter Try.func17, Try.ntmps17
    go_upto_region 1 with fail
    obtain ⟨w0, hw0⟩ : ∃ ww, ww = ((w.alloc (.cells #[.int .u8 f.p, .int .u8 f.s] 23)).alloc (.cells #[.int .u8 0, .bool false] 25)) := ⟨_, rfl⟩
    rw [← hw0]
    have Kf : B2 w0 (w.heap.size) (.int .u8 f.p) (.int .u8 f.s) 23 := by rw [hw0]; exact blk_alloc (blk_new' _ (by simp)) _
    have Kr : B2 w0 (w.heap.size + 1) (.int .u8 0) (.bool false) 25 := by rw [hw0]; exact blk_new' _ (by simp)
    have qfr : w.heap.size ≠ w.heap.size + 1 := by omega
    have qrf : w.heap.size + 1 ≠ w.heap.size := by omega
    have bl : Below w.heap.size w w0 := by rw [hw0]; (repeat first | exact .refl _ _ | exact (Below.refl _ _).drew | refine .drew ?_ | refine .alloc ?_ (by simp <;> omega) _)
    clear hw0
    obtain ⟨cf0, zf0, cf1, zf1, nef⟩ := b2z Kf
    obtain ⟨cr0, zr0, cr1, zr1, ner⟩ := b2z Kr
    go_wp2_with fail
    refine (check_any f _).mono ?_
    rintro e w1 ⟨rfl, b1⟩
    clear cf0 cf1 zf0 zf1 cr0 cr1 zr0 zr1 nef ner
    replace Kf := kp b1 Kf
    replace Kr := kp b1 Kr
    replace bl := bl.trans (b1.mono bl.size)
    clear b1
    obtain ⟨cf0, zf0, cf1, zf1, nef⟩ := b2z Kf
    obtain ⟨cr0, zr0, cr1, zr1, ner⟩ := b2z Kr
    go_upto_region 2 with fail
    clear cf0 cf1 zf0 zf1 cr0 cr1 zr0 zr1 nef ner
    obtain ⟨w2, hw2⟩ : ∃ ww, ww = ((w1.setCell ⟨(w.heap.size), 0, none⟩ (.int .u8 (A8 f.p 207))).setCell ⟨(w.heap.size), 1, none⟩ (.int .u8 (A8 f.s 207))) := ⟨_, rfl⟩
    rw [← hw2]
    have nnr : (w.heap.size) ≠ (w.heap.size + 1) := by first | omega | (have := blk_lt Kr; have := blk_lt Kf; have := bl.size; omega)
    replace Kr : B2 w2 (w.heap.size + 1) (.int .u8 0) (.bool false) 25 := by rw [hw2]; exact ((oth2 nnr _ _).trans Kr)
    clear nnr
    replace Kf : B2 w2 (w.heap.size) (.int .u8 (A8 f.p 207)) (.int .u8 (A8 f.s 207)) 23 := by rw [hw2]; exact (set2 Kf _ _)
    replace bl : Below w.heap.size w w2 := by rw [hw2]; exact bs2 bl (by first | exact Nat.le_refl _ | omega | (have := bl.size; omega)) _ _
    clear hw2
    obtain ⟨cf0, zf0, cf1, zf1, nef⟩ := b2z Kf
    obtain ⟨cr0, zr0, cr1, zr1, ner⟩ := b2z Kr
    go_upto_region 5 with fail
    have qfo : (w.heap.size) ≠ w2.heap.size := by have := blk_lt Kf; omega
    have qof := qfo.symm
    have qro : (w.heap.size + 1) ≠ w2.heap.size := by have := blk_lt Kr; omega
    have qor := qro.symm
    obtain ⟨w3, hw3⟩ : ∃ ww, ww = (w2.alloc (.cells #[.int .u8 (O8 (A8 f.p 207) 32), .bool (decide (0 < A8 f.s 207))] 25)) := ⟨_, rfl⟩
    rw [← hw3]
    have b3 : Below w2.heap.size w2 w3 := by rw [hw3]; (repeat first | exact .refl _ _ | exact (Below.refl _ _).drew | refine .drew ?_ | refine .alloc ?_ (by simp <;> omega) _)
    have Ko : B2 w3 w2.heap.size (.int .u8 (O8 (A8 f.p 207) 32)) (.bool (decide (0 < A8 f.s 207))) 25 := by rw [hw3]; exact blk_new _ _
    clear hw3
    clear cf0 cf1 zf0 zf1 cr0 cr1 zr0 zr1 nef ner
    replace Kf := kp b3 Kf
    replace Kr := kp b3 Kr
    replace bl := bl.trans (b3.mono bl.size)
    clear b3
    obtain ⟨cf0, zf0, cf1, zf1, nef⟩ := b2z Kf
    obtain ⟨cr0, zr0, cr1, zr1, ner⟩ := b2z Kr
    obtain ⟨co0, zo0, co1, zo1, neo⟩ := b2z Ko
    go_wp2_with fail
    clear cf0 cf1 zf0 zf1 cr0 cr1 zr0 zr1 co0 co1 zo0 zo1 nef ner neo
    obtain ⟨w4, hw4⟩ : ∃ ww, ww = ((w3.setCell ⟨(w.heap.size + 1), 0, none⟩ (.int .u8 (O8 (A8 f.p 207) 32))).setCell ⟨(w.heap.size + 1), 1, none⟩ (.bool (decide (0 < A8 f.s 207)))) := ⟨_, rfl⟩
    rw [← hw4]
    have nnf : (w.heap.size + 1) ≠ (w.heap.size) := by first | omega | (have := blk_lt Kf; have := blk_lt Kr; have := bl.size; omega)
    replace Kf : B2 w4 (w.heap.size) (.int .u8 (A8 f.p 207)) (.int .u8 (A8 f.s 207)) 23 := by rw [hw4]; exact ((oth2 nnf _ _).trans Kf)
    clear nnf
    have nno : (w.heap.size + 1) ≠ w2.heap.size := by first | omega | (have := blk_lt Ko; have := blk_lt Kr; have := bl.size; omega)
    replace Ko : B2 w4 w2.heap.size (.int .u8 (O8 (A8 f.p 207) 32)) (.bool (decide (0 < A8 f.s 207))) 25 := by rw [hw4]; exact ((oth2 nno _ _).trans Ko)
    clear nno
    replace Kr : B2 w4 (w.heap.size + 1) (.int .u8 (O8 (A8 f.p 207) 32)) (.bool (decide (0 < A8 f.s 207))) 25 := by rw [hw4]; exact (set2 Kr _ _)
    replace bl : Below w.heap.size w w4 := by rw [hw4]; exact bs2 bl (by first | exact Nat.le_refl _ | omega | (have := bl.size; omega)) _ _
    clear hw4
    obtain ⟨cf0, zf0, cf1, zf1, nef⟩ := b2z Kf
    obtain ⟨cr0, zr0, cr1, zr1, ner⟩ := b2z Kr
    obtain ⟨co0, zo0, co1, zo1, neo⟩ := b2z Ko
    exact bodyPost_ret (v := By.V ⟨O8 (A8 f.p 207) 32, decide (0 < A8 f.s 207)⟩) (by simp [results, Try.results17, go_sem, cr0, cr1]) rfl ⟨rfl, bl⟩
  · go_enter Try.func17, Try.ntmps17
    go_upto_region 1 with fail
    obtain ⟨w0, hw0⟩ : ∃ ww, ww = ((w.alloc (.cells #[.int .u8 f.p, .int .u8 f.s] 23)).alloc (.cells #[.int .u8 0, .bool false] 25)) := ⟨_, rfl⟩
    rw [← hw0]
    have Kf : B2 w0 (w.heap.size) (.int .u8 f.p) (.int .u8 f.s) 23 := by rw [hw0]; exact blk_alloc (blk_new' _ (by simp)) _
    have Kr : B2 w0 (w.heap.size + 1) (.int .u8 0) (.bool false) 25 := by rw [hw0]; exact blk_new' _ (by simp)
    have qfr : w.heap.size ≠ w.heap.size + 1 := by omega
    have qrf : w.heap.size + 1 ≠ w.heap.size := by omega
    have bl : Below w.heap.size w w0 := by rw [hw0]; (repeat first | exact .refl _ _ | exact (Below.refl _ _).drew | refine .drew ?_ | refine .alloc ?_ (by simp <;> omega) _)
    clear hw0
    obtain ⟨cf0, zf0, cf1, zf1, nef⟩ := b2z Kf
    obtain ⟨cr0, zr0, cr1, zr1, ner⟩ := b2z Kr
    go_wp2_with fail
    refine (check_any f _).mono ?_
    rintro e w1 ⟨rfl, b1⟩
    clear cf0 cf1 zf0 zf1 cr0 cr1 zr0 zr1 nef ner
    replace Kf := kp b1 Kf
    replace Kr := kp b1 Kr
    replace bl := bl.trans (b1.mono bl.size)
    clear b1
    obtain ⟨cf0, zf0, cf1, zf1, nef⟩ := b2z Kf
    obtain ⟨cr0, zr0, cr1, zr1, ner⟩ := b2z Kr
    go_upto_region 2 with fail
    clear cf0 cf1 zf0 zf1 cr0 cr1 zr0 zr1 nef ner
    obtain ⟨w2, hw2⟩ : ∃ ww, ww = ((w1.setCell ⟨(w.heap.size), 0, none⟩ (.int .u8 (A8 f.p 207))).setCell ⟨(w.heap.size), 1, none⟩ (.int .u8 (A8 f.s 207))) := ⟨_, rfl⟩
    rw [← hw2]
    have nnr : (w.heap.size) ≠ (w.heap.size + 1) := by first | omega | (have := blk_lt Kr; have := blk_lt Kf; have := bl.size; omega)
    replace Kr : B2 w2 (w.heap.size + 1) (.int .u8 0) (.bool false) 25 := by rw [hw2]; exact ((oth2 nnr _ _).trans Kr)
    clear nnr
    replace Kf : B2 w2 (w.heap.size) (.int .u8 (A8 f.p 207)) (.int .u8 (A8 f.s 207)) 23 := by rw [hw2]; exact (set2 Kf _ _)
    replace bl : Below w.heap.size w w2 := by rw [hw2]; exact bs2 bl (by first | exact Nat.le_refl _ | omega | (have := bl.size; omega)) _ _
    clear hw2
    obtain ⟨cf0, zf0, cf1, zf1, nef⟩ := b2z Kf
    obtain ⟨cr0, zr0, cr1, zr1, ner⟩ := b2z Kr
    go_upto_region 5 with fail
    have qfo : (w.heap.size) ≠ w2.heap.size := by have := blk_lt Kf; omega
    have qof := qfo.symm
    have qro : (w.heap.size + 1) ≠ w2.heap.size := by have := blk_lt Kr; omega
    have qor := qro.symm
    obtain ⟨w3, hw3⟩ : ∃ ww, ww = (w2.alloc (.cells #[.int .u8 (O8 (O8 (A8 f.p 207) 32) 16), .bool (decide (0 < A8 f.s 207))] 25)) := ⟨_, rfl⟩
    rw [← hw3]
    have b3 : Below w2.heap.size w2 w3 := by rw [hw3]; (repeat first | exact .refl _ _ | exact (Below.refl _ _).drew | refine .drew ?_ | refine .alloc ?_ (by simp <;> omega) _)
    have Ko : B2 w3 w2.heap.size (.int .u8 (O8 (O8 (A8 f.p 207) 32) 16)) (.bool (decide (0 < A8 f.s 207))) 25 := by rw [hw3]; exact blk_new _ _
    clear hw3
    clear cf0 cf1 zf0 zf1 cr0 cr1 zr0 zr1 nef ner
    replace Kf := kp b3 Kf
    replace Kr := kp b3 Kr
    replace bl := bl.trans (b3.mono bl.size)
    clear b3
    obtain ⟨cf0, zf0, cf1, zf1, nef⟩ := b2z Kf
    obtain ⟨cr0, zr0, cr1, zr1, ner⟩ := b2z Kr
    obtain ⟨co0, zo0, co1, zo1, neo⟩ := b2z Ko
    go_wp2_with fail
    clear cf0 cf1 zf0 zf1 cr0 cr1 zr0 zr1 co0 co1 zo0 zo1 nef ner neo
    obtain ⟨w4, hw4⟩ : ∃ ww, ww = ((w3.setCell ⟨(w.heap.size + 1), 0, none⟩ (.int .u8 (O8 (O8 (A8 f.p 207) 32) 16))).setCell ⟨(w.heap.size + 1), 1, none⟩ (.bool (decide (0 < A8 f.s 207)))) := ⟨_, rfl⟩
    rw [← hw4]
    have nnf : (w.heap.size + 1) ≠ (w.heap.size) := by first | omega | (have := blk_lt Kf; have := blk_lt Kr; have := bl.size; omega)
    replace Kf : B2 w4 (w.heap.size) (.int .u8 (A8 f.p 207)) (.int .u8 (A8 f.s 207)) 23 := by rw [hw4]; exact ((oth2 nnf _ _).trans Kf)
    clear nnf
    have nno : (w.heap.size + 1) ≠ w2.heap.size := by first | omega | (have := blk_lt Ko; have := blk_lt Kr; have := bl.size; omega)
    replace Ko : B2 w4 w2.heap.size (.int .u8 (O8 (O8 (A8 f.p 207) 32) 16)) (.bool (decide (0 < A8 f.s 207))) 25 := by rw [hw4]; exact ((oth2 nno _ _).trans Ko)
    clear nno
    replace Kr : B2 w4 (w.heap.size + 1) (.int .u8 (O8 (O8 (A8 f.p 207) 32) 16)) (.bool (decide (0 < A8 f.s 207))) 25 := by rw [hw4]; exact (set2 Kr _ _)
    replace bl : Below w.heap.size w w4 := by rw [hw4]; exact bs2 bl (by first | exact Nat.le_refl _ | omega | (have := bl.size; omega)) _ _
    clear hw4
    obtain ⟨cf0, zf0, cf1, zf1, nef⟩ := b2z Kf
    obtain ⟨cr0, zr0, cr1, zr1, ner⟩ := b2z Kr
    obtain ⟨co0, zo0, co1, zo1, neo⟩ := b2z Ko
    exact bodyPost_ret (v := By.V ⟨O8 (O8 (A8 f.p 207) 32) 16, decide (0 < A8 f.s 207)⟩) (by simp [results, Try.results17, go_sem, cr0, cr1]) rfl ⟨rfl, bl⟩
end Go.Proofs.Ytdgjenlejalgeaa
