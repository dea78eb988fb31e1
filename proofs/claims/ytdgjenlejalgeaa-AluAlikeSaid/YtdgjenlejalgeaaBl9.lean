import Derived.Test.YtdgjenlejalgeaaBl8
namespace Go.Proofs.Ytdgjenlejalgeaa
open Go.RowKit Go.Sx
theorem push_is (f : Fl) (brk : Bool) (w : World) : Calls Try.prog 17 #[f.V, .bool brk] w fun e w' => e = .returned (pushB f brk).V ∧ Below w.heap.size w w' := push_any f brk w
theorem pull_is (b : By) (w : World) : Calls Try.prog 19 #[b.V] w fun e w' => e = .returned (pullF b).V ∧ Below w.heap.size w w' := pull_any b w
set_option maxRecDepth 100000 in
set_option maxHeartbeats 12800000 in
theorem told_any (f : Fl) (a m : By) (bit : Int) (brk : Bool) (w : World) : Calls Try.prog 39 #[.agg #[.int .u8 f.p, .int .u8 f.s, .int .u8 a.v, .bool a.s, .int .u8 m.v, .bool m.s, .int .u8 bit, .bool brk]] w fun e w' => ∃ v, e = .returned v ∧ OwnQ w' w.heap.size v (toldL f a m bit brk) ∧ Below w.heap.size w w' := by
  go_enter Try.func39, Try.ntmps39
  go_upto_region 1 with fail
  obtain ⟨w0, hw0⟩ : ∃ ww, ww = (w.alloc (.cells #[.int .u8 f.p, .int .u8 f.s, .int .u8 a.v, .bool a.s, .int .u8 m.v, .bool m.s, .int .u8 bit, .bool brk] 27)) := ⟨_, rfl⟩
  rw [← hw0]
  have Kq : w0.heap[w.heap.size]? = some (.cells #[.int .u8 f.p, .int .u8 f.s, .int .u8 a.v, .bool a.s, .int .u8 m.v, .bool m.s, .int .u8 bit, .bool brk] 27 (0, 0)) := by rw [hw0]; exact blk_new' _ (by simp)
  have bl : Below w.heap.size w w0 := by rw [hw0]; (repeat first | exact .refl _ _ | exact (Below.refl _ _).drew | refine .drew ?_ | refine .alloc ?_ (by simp <;> omega) _)
  clear hw0
  obtain ⟨cq0, cq1, cq2, cq3, cq4, cq5, cq6, cq7, neq⟩ := b8c Kq
  go_wp2_with fail
  refine (adc_is f a m _).mono ?_
  rintro e w1 ⟨rfl, b1⟩
  clear cq0 cq1 cq2 cq3 cq4 cq5 cq6 cq7 neq
  replace Kq := kp b1 Kq
  replace bl := bl.trans (b1.mono bl.size)
  clear b1
  obtain ⟨cq0, cq1, cq2, cq3, cq4, cq5, cq6, cq7, neq⟩ := b8c Kq
  go_upto_region 3 with fail
  have ly : w.heap.size ≤ w1.heap.size := bl.size
  have qqy : (w.heap.size) ≠ w1.heap.size := by have := blk_lt Kq; omega
  have qyq := qqy.symm
  have qqz : (w.heap.size) ≠ (w1.heap.size + 1) := by have := blk_lt Kq; omega
  have qzq := qqz.symm
  have qyz : w1.heap.size ≠ (w1.heap.size + 1) := by omega
  have qzy := qyz.symm
  obtain ⟨w2, hw2⟩ : ∃ ww, ww = (w1.alloc (.cells #[.int .u8 (adcB f a m).v, .bool (adcB f a m).s] 25)).alloc (.cells #[.int .u8 (adcF f a m).p, .int .u8 (adcF f a m).s] 23) := ⟨_, rfl⟩
  rw [← hw2]
  have b2 : Below w1.heap.size w1 w2 := by rw [hw2]; (repeat first | exact .refl _ _ | exact (Below.refl _ _).drew | refine .drew ?_ | refine .alloc ?_ (by simp <;> omega) _)
  have Ky : B2 w2 w1.heap.size (.int .u8 (adcB f a m).v) (.bool (adcB f a m).s) 25 := by rw [hw2]; exact blk_alloc (blk_new _ _) _
  have Kz : B2 w2 (w1.heap.size + 1) (.int .u8 (adcF f a m).p) (.int .u8 (adcF f a m).s) 23 := by rw [hw2]; exact blk_new' _ (by simp)
  clear hw2
  clear cq0 cq1 cq2 cq3 cq4 cq5 cq6 cq7 neq
  replace Kq := kp b2 Kq
  replace bl := bl.trans (b2.mono bl.size)
  clear b2
  obtain ⟨cq0, cq1, cq2, cq3, cq4, cq5, cq6, cq7, neq⟩ := b8c Kq
  obtain ⟨cy0, zy0, cy1, zy1, ney⟩ := b2z Ky
  obtain ⟨cz0, zz0, cz1, zz1, nez⟩ := b2z Kz
  obtain ⟨bs, hbs⟩ : ∃ n, n = w2.heap.size := ⟨_, rfl⟩
  have bsw : bs ≤ w2.heap.size := by omega
  have ltq : (w.heap.size) < bs := by rw [hbs]; exact blk_lt Kq
  have lty : w1.heap.size < bs := by rw [hbs]; exact blk_lt Ky
  have ltz : (w1.heap.size + 1) < bs := by rw [hbs]; exact blk_lt Kz
  clear hbs
  have Ow : OwnQ w2 bs (.slice none 0 0) [] := OwnQ.none _ _
  go_wp2_with (first
    | (at_builtin
       obtain ⟨w3, hw3⟩ : ∃ ww, ww = (w2.alloc (.cells #[.int .u8 (adcB f a m).v, .bool (adcB f a m).s, .int .u8 (adcF f a m).p, .int .u8 (adcF f a m).s] 46)) := ⟨_, rfl⟩
       rw [← hw3]
       have b3 : Below w2.heap.size w2 w3 := by rw [hw3]; (repeat first | exact .refl _ _ | exact (Below.refl _ _).drew | refine .drew ?_ | refine .alloc ?_ (by simp <;> omega) _)
       have HQ : ∀ j u, (cellsQ [((adcB f a m, adcF f a m) : RQ)])[j]? = some u → w3.cell? ⟨w2.heap.size, j, none⟩ = some u := by rw [hw3]; exact newQ
       clear hw3
       clear cy0 cy1 zy0 zy1 cz0 cz1 zz0 zz1 ney nez cq0 cq1 cq2 cq3 cq4 cq5 cq6 cq7 neq
       replace Ky := kp b3 Ky
       replace Kz := kp b3 Kz
       replace Kq := kp b3 Kq
       replace Ow := Ow.grown b3
       replace bsw : bs ≤ w3.heap.size := Nat.le_trans bsw b3.size
       replace bl := bl.trans (b3.mono bl.size)
       clear b3
       obtain ⟨cy0, zy0, cy1, zy1, ney⟩ := b2z Ky
       obtain ⟨cz0, zz0, cz1, zz1, nez⟩ := b2z Kz
       obtain ⟨cq0, cq1, cq2, cq3, cq4, cq5, cq6, cq7, neq⟩ := b8c Kq
       refine app_qlist rfl (.tmp 16) (.tmp 20) rfl rfl Ow w2.heap.size 1 1 [((adcB f a m, adcF f a m) : RQ)] rfl rfl HQ (by simp) bsw ?_
       intro v0 x0 hO hb
       clear cy0 cy1 zy0 zy1 cz0 cz1 zz0 zz1 ney nez cq0 cq1 cq2 cq3 cq4 cq5 cq6 cq7 neq
       replace Ky := (hb.block _ (by first | exact lty | omega)).trans Ky
       replace Kz := (hb.block _ (by first | exact ltz | omega)).trans Kz
       replace Kq := (hb.block _ (by first | exact ltq | omega)).trans Kq
       replace bl := bl.trans (hb.mono (by omega))
       replace bsw := Nat.le_trans bsw hb.size
       clear Ow hb HQ
       have Ow := hO
       clear hO
       obtain ⟨cy0, zy0, cy1, zy1, ney⟩ := b2z Ky
       obtain ⟨cz0, zz0, cz1, zz1, nez⟩ := b2z Kz
       obtain ⟨cq0, cq1, cq2, cq3, cq4, cq5, cq6, cq7, _⟩ := b8c Kq
       have neq : x0.heap.size ≠ (w.heap.size) := by have := blk_lt Kq; omega)
    | fail)
  go_wp2_with fail
  refine (sbc_is f a m _).mono ?_
  rintro e w4 ⟨rfl, b4⟩
  clear cy0 cy1 zy0 zy1 cz0 cz1 zz0 zz1 ney nez cq0 cq1 cq2 cq3 cq4 cq5 cq6 cq7 neq
  replace Ky := kp b4 Ky
  replace Kz := kp b4 Kz
  replace Kq := kp b4 Kq
  replace Ow := Ow.grown b4
  replace bsw : bs ≤ w4.heap.size := Nat.le_trans bsw b4.size
  replace bl := bl.trans (b4.mono bl.size)
  clear b4
  obtain ⟨cy0, zy0, cy1, zy1, ney⟩ := b2z Ky
  obtain ⟨cz0, zz0, cz1, zz1, nez⟩ := b2z Kz
  obtain ⟨cq0, cq1, cq2, cq3, cq4, cq5, cq6, cq7, neq⟩ := b8c Kq
  go_upto_region 5 with fail
  clear cy0 cy1 zy0 zy1 cz0 cz1 zz0 zz1 ney nez cq0 cq1 cq2 cq3 cq4 cq5 cq6 cq7 neq
  obtain ⟨w5, hw5⟩ : ∃ ww, ww = ((w4.setCell ⟨w1.heap.size, 0, none⟩ (.int .u8 (adcB f a (sbcM m)).v)).setCell ⟨w1.heap.size, 1, none⟩ (.bool (adcB f a (sbcM m)).s)) := ⟨_, rfl⟩
  rw [← hw5]
  have nnz : w1.heap.size ≠ (w1.heap.size + 1) := by first | omega | (have := blk_lt Kz; have := blk_lt Ky; have := bl.size; omega)
  replace Kz : B2 w5 (w1.heap.size + 1) (.int .u8 (adcF f a m).p) (.int .u8 (adcF f a m).s) 23 := by rw [hw5]; exact ((oth2 nnz _ _).trans Kz)
  clear nnz
  replace Kq : w5.heap[(w.heap.size)]? = some (.cells #[.int .u8 f.p, .int .u8 f.s, .int .u8 a.v, .bool a.s, .int .u8 m.v, .bool m.s, .int .u8 bit, .bool brk] 27 (0, 0)) := by rw [hw5]; exact ((oth2 (by omega) _ _).trans Kq)
  replace Ky : B2 w5 w1.heap.size (.int .u8 (adcB f a (sbcM m)).v) (.bool (adcB f a (sbcM m)).s) 25 := by rw [hw5]; exact (set2 Ky _ _)
  replace bl : Below w.heap.size w w5 := by rw [hw5]; exact bs2 bl (by first | exact Nat.le_refl _ | omega | (have := bl.size; omega)) _ _
  replace Ow : OwnQ w5 bs v0 ([((adcB f a m, adcF f a m) : RQ)]) := by rw [hw5]; exact Ow.other fun k hk => (oth2 (by omega) _ _)
  replace bsw : bs ≤ w5.heap.size := by rw [hw5]; simpa using bsw
  clear hw5
  obtain ⟨cy0, zy0, cy1, zy1, ney⟩ := b2z Ky
  obtain ⟨cz0, zz0, cz1, zz1, nez⟩ := b2z Kz
  obtain ⟨cq0, cq1, cq2, cq3, cq4, cq5, cq6, cq7, neq⟩ := b8c Kq
  clear cy0 cy1 zy0 zy1 cz0 cz1 zz0 zz1 ney nez cq0 cq1 cq2 cq3 cq4 cq5 cq6 cq7 neq
  obtain ⟨w6, hw6⟩ : ∃ ww, ww = ((w5.setCell ⟨(w1.heap.size + 1), 0, none⟩ (.int .u8 (adcF f a (sbcM m)).p)).setCell ⟨(w1.heap.size + 1), 1, none⟩ (.int .u8 (adcF f a (sbcM m)).s)) := ⟨_, rfl⟩
  rw [← hw6]
  have nny : (w1.heap.size + 1) ≠ w1.heap.size := by first | omega | (have := blk_lt Ky; have := blk_lt Kz; have := bl.size; omega)
  replace Ky : B2 w6 w1.heap.size (.int .u8 (adcB f a (sbcM m)).v) (.bool (adcB f a (sbcM m)).s) 25 := by rw [hw6]; exact ((oth2 nny _ _).trans Ky)
  clear nny
  replace Kq : w6.heap[(w.heap.size)]? = some (.cells #[.int .u8 f.p, .int .u8 f.s, .int .u8 a.v, .bool a.s, .int .u8 m.v, .bool m.s, .int .u8 bit, .bool brk] 27 (0, 0)) := by rw [hw6]; exact ((oth2 (by omega) _ _).trans Kq)
  replace Kz : B2 w6 (w1.heap.size + 1) (.int .u8 (adcF f a (sbcM m)).p) (.int .u8 (adcF f a (sbcM m)).s) 23 := by rw [hw6]; exact (set2 Kz _ _)
  replace bl : Below w.heap.size w w6 := by rw [hw6]; exact bs2 bl (by first | exact Nat.le_refl _ | omega | (have := bl.size; omega)) _ _
  replace Ow : OwnQ w6 bs v0 ([((adcB f a m, adcF f a m) : RQ)]) := by rw [hw6]; exact Ow.other fun k hk => (oth2 (by omega) _ _)
  replace bsw : bs ≤ w6.heap.size := by rw [hw6]; simpa using bsw
  clear hw6
  obtain ⟨cy0, zy0, cy1, zy1, ney⟩ := b2z Ky
  obtain ⟨cz0, zz0, cz1, zz1, nez⟩ := b2z Kz
  obtain ⟨cq0, cq1, cq2, cq3, cq4, cq5, cq6, cq7, neq⟩ := b8c Kq
  go_wp2_with (first
    | (at_builtin
       obtain ⟨w7, hw7⟩ : ∃ ww, ww = (w6.alloc (.cells #[.int .u8 (adcB f a (sbcM m)).v, .bool (adcB f a (sbcM m)).s, .int .u8 (adcF f a (sbcM m)).p, .int .u8 (adcF f a (sbcM m)).s] 46)) := ⟨_, rfl⟩
       rw [← hw7]
       have b7 : Below w6.heap.size w6 w7 := by rw [hw7]; (repeat first | exact .refl _ _ | exact (Below.refl _ _).drew | refine .drew ?_ | refine .alloc ?_ (by simp <;> omega) _)
       have HQ : ∀ j u, (cellsQ [((adcB f a (sbcM m), adcF f a (sbcM m)) : RQ)])[j]? = some u → w7.cell? ⟨w6.heap.size, j, none⟩ = some u := by rw [hw7]; exact newQ
       clear hw7
       clear cy0 cy1 zy0 zy1 cz0 cz1 zz0 zz1 ney nez cq0 cq1 cq2 cq3 cq4 cq5 cq6 cq7 neq
       replace Ky := kp b7 Ky
       replace Kz := kp b7 Kz
       replace Kq := kp b7 Kq
       replace Ow := Ow.grown b7
       replace bsw : bs ≤ w7.heap.size := Nat.le_trans bsw b7.size
       replace bl := bl.trans (b7.mono bl.size)
       clear b7
       obtain ⟨cy0, zy0, cy1, zy1, ney⟩ := b2z Ky
       obtain ⟨cz0, zz0, cz1, zz1, nez⟩ := b2z Kz
       obtain ⟨cq0, cq1, cq2, cq3, cq4, cq5, cq6, cq7, neq⟩ := b8c Kq
       refine app_qlist rfl (.tmp 32) (.tmp 36) rfl rfl Ow w6.heap.size 1 1 [((adcB f a (sbcM m), adcF f a (sbcM m)) : RQ)] rfl rfl HQ (by simp) bsw ?_
       intro v1 x1 hO hb
       clear cy0 cy1 zy0 zy1 cz0 cz1 zz0 zz1 ney nez cq0 cq1 cq2 cq3 cq4 cq5 cq6 cq7 neq
       replace Ky := (hb.block _ (by first | exact lty | omega)).trans Ky
       replace Kz := (hb.block _ (by first | exact ltz | omega)).trans Kz
       replace Kq := (hb.block _ (by first | exact ltq | omega)).trans Kq
       replace bl := bl.trans (hb.mono (by omega))
       replace bsw := Nat.le_trans bsw hb.size
       clear Ow hb HQ
       have Ow := hO
       clear hO
       obtain ⟨cy0, zy0, cy1, zy1, ney⟩ := b2z Ky
       obtain ⟨cz0, zz0, cz1, zz1, nez⟩ := b2z Kz
       obtain ⟨cq0, cq1, cq2, cq3, cq4, cq5, cq6, cq7, _⟩ := b8c Kq
       have neq : x1.heap.size ≠ (w.heap.size) := by have := blk_lt Kq; omega)
    | fail)
  go_wp2_with fail
  refine (sbx_is f a m _).mono ?_
  rintro e w8 ⟨rfl, b8⟩
  clear cy0 cy1 zy0 zy1 cz0 cz1 zz0 zz1 ney nez cq0 cq1 cq2 cq3 cq4 cq5 cq6 cq7 neq
  replace Ky := kp b8 Ky
  replace Kz := kp b8 Kz
  replace Kq := kp b8 Kq
  replace Ow := Ow.grown b8
  replace bsw : bs ≤ w8.heap.size := Nat.le_trans bsw b8.size
  replace bl := bl.trans (b8.mono bl.size)
  clear b8
  obtain ⟨cy0, zy0, cy1, zy1, ney⟩ := b2z Ky
  obtain ⟨cz0, zz0, cz1, zz1, nez⟩ := b2z Kz
  obtain ⟨cq0, cq1, cq2, cq3, cq4, cq5, cq6, cq7, neq⟩ := b8c Kq
  go_upto_region 7 with fail
  clear cy0 cy1 zy0 zy1 cz0 cz1 zz0 zz1 ney nez cq0 cq1 cq2 cq3 cq4 cq5 cq6 cq7 neq
  obtain ⟨w9, hw9⟩ : ∃ ww, ww = ((w8.setCell ⟨w1.heap.size, 0, none⟩ (.int .u8 (sbxB a m).v)).setCell ⟨w1.heap.size, 1, none⟩ (.bool (sbxB a m).s)) := ⟨_, rfl⟩
  rw [← hw9]
  have nnz : w1.heap.size ≠ (w1.heap.size + 1) := by first | omega | (have := blk_lt Kz; have := blk_lt Ky; have := bl.size; omega)
  replace Kz : B2 w9 (w1.heap.size + 1) (.int .u8 (adcF f a (sbcM m)).p) (.int .u8 (adcF f a (sbcM m)).s) 23 := by rw [hw9]; exact ((oth2 nnz _ _).trans Kz)
  clear nnz
  replace Kq : w9.heap[(w.heap.size)]? = some (.cells #[.int .u8 f.p, .int .u8 f.s, .int .u8 a.v, .bool a.s, .int .u8 m.v, .bool m.s, .int .u8 bit, .bool brk] 27 (0, 0)) := by rw [hw9]; exact ((oth2 (by omega) _ _).trans Kq)
  replace Ky : B2 w9 w1.heap.size (.int .u8 (sbxB a m).v) (.bool (sbxB a m).s) 25 := by rw [hw9]; exact (set2 Ky _ _)
  replace bl : Below w.heap.size w w9 := by rw [hw9]; exact bs2 bl (by first | exact Nat.le_refl _ | omega | (have := bl.size; omega)) _ _
  replace Ow : OwnQ w9 bs v1 ([((adcB f a m, adcF f a m) : RQ)] ++ [((adcB f a (sbcM m), adcF f a (sbcM m)) : RQ)]) := by rw [hw9]; exact Ow.other fun k hk => (oth2 (by omega) _ _)
  replace bsw : bs ≤ w9.heap.size := by rw [hw9]; simpa using bsw
  clear hw9
  obtain ⟨cy0, zy0, cy1, zy1, ney⟩ := b2z Ky
  obtain ⟨cz0, zz0, cz1, zz1, nez⟩ := b2z Kz
  obtain ⟨cq0, cq1, cq2, cq3, cq4, cq5, cq6, cq7, neq⟩ := b8c Kq
  clear cy0 cy1 zy0 zy1 cz0 cz1 zz0 zz1 ney nez cq0 cq1 cq2 cq3 cq4 cq5 cq6 cq7 neq
  obtain ⟨w10, hw10⟩ : ∃ ww, ww = ((w9.setCell ⟨(w1.heap.size + 1), 0, none⟩ (.int .u8 (sbxF f a m).p)).setCell ⟨(w1.heap.size + 1), 1, none⟩ (.int .u8 (sbxF f a m).s)) := ⟨_, rfl⟩
  rw [← hw10]
  have nny : (w1.heap.size + 1) ≠ w1.heap.size := by first | omega | (have := blk_lt Ky; have := blk_lt Kz; have := bl.size; omega)
  replace Ky : B2 w10 w1.heap.size (.int .u8 (sbxB a m).v) (.bool (sbxB a m).s) 25 := by rw [hw10]; exact ((oth2 nny _ _).trans Ky)
  clear nny
  replace Kq : w10.heap[(w.heap.size)]? = some (.cells #[.int .u8 f.p, .int .u8 f.s, .int .u8 a.v, .bool a.s, .int .u8 m.v, .bool m.s, .int .u8 bit, .bool brk] 27 (0, 0)) := by rw [hw10]; exact ((oth2 (by omega) _ _).trans Kq)
  replace Kz : B2 w10 (w1.heap.size + 1) (.int .u8 (sbxF f a m).p) (.int .u8 (sbxF f a m).s) 23 := by rw [hw10]; exact (set2 Kz _ _)
  replace bl : Below w.heap.size w w10 := by rw [hw10]; exact bs2 bl (by first | exact Nat.le_refl _ | omega | (have := bl.size; omega)) _ _
  replace Ow : OwnQ w10 bs v1 ([((adcB f a m, adcF f a m) : RQ)] ++ [((adcB f a (sbcM m), adcF f a (sbcM m)) : RQ)]) := by rw [hw10]; exact Ow.other fun k hk => (oth2 (by omega) _ _)
  replace bsw : bs ≤ w10.heap.size := by rw [hw10]; simpa using bsw
  clear hw10
  obtain ⟨cy0, zy0, cy1, zy1, ney⟩ := b2z Ky
  obtain ⟨cz0, zz0, cz1, zz1, nez⟩ := b2z Kz
  obtain ⟨cq0, cq1, cq2, cq3, cq4, cq5, cq6, cq7, neq⟩ := b8c Kq
  go_wp2_with (first
    | (at_builtin
       obtain ⟨w11, hw11⟩ : ∃ ww, ww = (w10.alloc (.cells #[.int .u8 (sbxB a m).v, .bool (sbxB a m).s, .int .u8 (sbxF f a m).p, .int .u8 (sbxF f a m).s] 46)) := ⟨_, rfl⟩
       rw [← hw11]
       have b11 : Below w10.heap.size w10 w11 := by rw [hw11]; (repeat first | exact .refl _ _ | exact (Below.refl _ _).drew | refine .drew ?_ | refine .alloc ?_ (by simp <;> omega) _)
       have HQ : ∀ j u, (cellsQ [((sbxB a m, sbxF f a m) : RQ)])[j]? = some u → w11.cell? ⟨w10.heap.size, j, none⟩ = some u := by rw [hw11]; exact newQ
       clear hw11
       clear cy0 cy1 zy0 zy1 cz0 cz1 zz0 zz1 ney nez cq0 cq1 cq2 cq3 cq4 cq5 cq6 cq7 neq
       replace Ky := kp b11 Ky
       replace Kz := kp b11 Kz
       replace Kq := kp b11 Kq
       replace Ow := Ow.grown b11
       replace bsw : bs ≤ w11.heap.size := Nat.le_trans bsw b11.size
       replace bl := bl.trans (b11.mono bl.size)
       clear b11
       obtain ⟨cy0, zy0, cy1, zy1, ney⟩ := b2z Ky
       obtain ⟨cz0, zz0, cz1, zz1, nez⟩ := b2z Kz
       obtain ⟨cq0, cq1, cq2, cq3, cq4, cq5, cq6, cq7, neq⟩ := b8c Kq
       refine app_qlist rfl (.tmp 48) (.tmp 52) rfl rfl Ow w10.heap.size 1 1 [((sbxB a m, sbxF f a m) : RQ)] rfl rfl HQ (by simp) bsw ?_
       intro v2 x2 hO hb
       clear cy0 cy1 zy0 zy1 cz0 cz1 zz0 zz1 ney nez cq0 cq1 cq2 cq3 cq4 cq5 cq6 cq7 neq
       replace Ky := (hb.block _ (by first | exact lty | omega)).trans Ky
       replace Kz := (hb.block _ (by first | exact ltz | omega)).trans Kz
       replace Kq := (hb.block _ (by first | exact ltq | omega)).trans Kq
       replace bl := bl.trans (hb.mono (by omega))
       replace bsw := Nat.le_trans bsw hb.size
       clear Ow hb HQ
       have Ow := hO
       clear hO
       obtain ⟨cy0, zy0, cy1, zy1, ney⟩ := b2z Ky
       obtain ⟨cz0, zz0, cz1, zz1, nez⟩ := b2z Kz
       obtain ⟨cq0, cq1, cq2, cq3, cq4, cq5, cq6, cq7, _⟩ := b8c Kq
       have neq : x2.heap.size ≠ (w.heap.size) := by have := blk_lt Kq; omega)
    | fail)
  go_wp2_with fail
  refine (asl_is f a _).mono ?_
  rintro e w12 ⟨rfl, b12⟩
  clear cy0 cy1 zy0 zy1 cz0 cz1 zz0 zz1 ney nez cq0 cq1 cq2 cq3 cq4 cq5 cq6 cq7 neq
  replace Ky := kp b12 Ky
  replace Kz := kp b12 Kz
  replace Kq := kp b12 Kq
  replace Ow := Ow.grown b12
  replace bsw : bs ≤ w12.heap.size := Nat.le_trans bsw b12.size
  replace bl := bl.trans (b12.mono bl.size)
  clear b12
  obtain ⟨cy0, zy0, cy1, zy1, ney⟩ := b2z Ky
  obtain ⟨cz0, zz0, cz1, zz1, nez⟩ := b2z Kz
  obtain ⟨cq0, cq1, cq2, cq3, cq4, cq5, cq6, cq7, neq⟩ := b8c Kq
  go_upto_region 9 with fail
  clear cy0 cy1 zy0 zy1 cz0 cz1 zz0 zz1 ney nez cq0 cq1 cq2 cq3 cq4 cq5 cq6 cq7 neq
  obtain ⟨w13, hw13⟩ : ∃ ww, ww = ((w12.setCell ⟨w1.heap.size, 0, none⟩ (.int .u8 (aslB a).v)).setCell ⟨w1.heap.size, 1, none⟩ (.bool (aslB a).s)) := ⟨_, rfl⟩
  rw [← hw13]
  have nnz : w1.heap.size ≠ (w1.heap.size + 1) := by first | omega | (have := blk_lt Kz; have := blk_lt Ky; have := bl.size; omega)
  replace Kz : B2 w13 (w1.heap.size + 1) (.int .u8 (sbxF f a m).p) (.int .u8 (sbxF f a m).s) 23 := by rw [hw13]; exact ((oth2 nnz _ _).trans Kz)
  clear nnz
  replace Kq : w13.heap[(w.heap.size)]? = some (.cells #[.int .u8 f.p, .int .u8 f.s, .int .u8 a.v, .bool a.s, .int .u8 m.v, .bool m.s, .int .u8 bit, .bool brk] 27 (0, 0)) := by rw [hw13]; exact ((oth2 (by omega) _ _).trans Kq)
  replace Ky : B2 w13 w1.heap.size (.int .u8 (aslB a).v) (.bool (aslB a).s) 25 := by rw [hw13]; exact (set2 Ky _ _)
  replace bl : Below w.heap.size w w13 := by rw [hw13]; exact bs2 bl (by first | exact Nat.le_refl _ | omega | (have := bl.size; omega)) _ _
  replace Ow : OwnQ w13 bs v2 ([((adcB f a m, adcF f a m) : RQ)] ++ [((adcB f a (sbcM m), adcF f a (sbcM m)) : RQ)] ++ [((sbxB a m, sbxF f a m) : RQ)]) := by rw [hw13]; exact Ow.other fun k hk => (oth2 (by omega) _ _)
  replace bsw : bs ≤ w13.heap.size := by rw [hw13]; simpa using bsw
  clear hw13
  obtain ⟨cy0, zy0, cy1, zy1, ney⟩ := b2z Ky
  obtain ⟨cz0, zz0, cz1, zz1, nez⟩ := b2z Kz
  obtain ⟨cq0, cq1, cq2, cq3, cq4, cq5, cq6, cq7, neq⟩ := b8c Kq
  clear cy0 cy1 zy0 zy1 cz0 cz1 zz0 zz1 ney nez cq0 cq1 cq2 cq3 cq4 cq5 cq6 cq7 neq
  obtain ⟨w14, hw14⟩ : ∃ ww, ww = ((w13.setCell ⟨(w1.heap.size + 1), 0, none⟩ (.int .u8 (aslF f a).p)).setCell ⟨(w1.heap.size + 1), 1, none⟩ (.int .u8 (aslF f a).s)) := ⟨_, rfl⟩
  rw [← hw14]
  have nny : (w1.heap.size + 1) ≠ w1.heap.size := by first | omega | (have := blk_lt Ky; have := blk_lt Kz; have := bl.size; omega)
  replace Ky : B2 w14 w1.heap.size (.int .u8 (aslB a).v) (.bool (aslB a).s) 25 := by rw [hw14]; exact ((oth2 nny _ _).trans Ky)
  clear nny
  replace Kq : w14.heap[(w.heap.size)]? = some (.cells #[.int .u8 f.p, .int .u8 f.s, .int .u8 a.v, .bool a.s, .int .u8 m.v, .bool m.s, .int .u8 bit, .bool brk] 27 (0, 0)) := by rw [hw14]; exact ((oth2 (by omega) _ _).trans Kq)
  replace Kz : B2 w14 (w1.heap.size + 1) (.int .u8 (aslF f a).p) (.int .u8 (aslF f a).s) 23 := by rw [hw14]; exact (set2 Kz _ _)
  replace bl : Below w.heap.size w w14 := by rw [hw14]; exact bs2 bl (by first | exact Nat.le_refl _ | omega | (have := bl.size; omega)) _ _
  replace Ow : OwnQ w14 bs v2 ([((adcB f a m, adcF f a m) : RQ)] ++ [((adcB f a (sbcM m), adcF f a (sbcM m)) : RQ)] ++ [((sbxB a m, sbxF f a m) : RQ)]) := by rw [hw14]; exact Ow.other fun k hk => (oth2 (by omega) _ _)
  replace bsw : bs ≤ w14.heap.size := by rw [hw14]; simpa using bsw
  clear hw14
  obtain ⟨cy0, zy0, cy1, zy1, ney⟩ := b2z Ky
  obtain ⟨cz0, zz0, cz1, zz1, nez⟩ := b2z Kz
  obtain ⟨cq0, cq1, cq2, cq3, cq4, cq5, cq6, cq7, neq⟩ := b8c Kq
  go_wp2_with (first
    | (at_builtin
       obtain ⟨w15, hw15⟩ : ∃ ww, ww = (w14.alloc (.cells #[.int .u8 (aslB a).v, .bool (aslB a).s, .int .u8 (aslF f a).p, .int .u8 (aslF f a).s] 46)) := ⟨_, rfl⟩
       rw [← hw15]
       have b15 : Below w14.heap.size w14 w15 := by rw [hw15]; (repeat first | exact .refl _ _ | exact (Below.refl _ _).drew | refine .drew ?_ | refine .alloc ?_ (by simp <;> omega) _)
       have HQ : ∀ j u, (cellsQ [((aslB a, aslF f a) : RQ)])[j]? = some u → w15.cell? ⟨w14.heap.size, j, none⟩ = some u := by rw [hw15]; exact newQ
       clear hw15
       clear cy0 cy1 zy0 zy1 cz0 cz1 zz0 zz1 ney nez cq0 cq1 cq2 cq3 cq4 cq5 cq6 cq7 neq
       replace Ky := kp b15 Ky
       replace Kz := kp b15 Kz
       replace Kq := kp b15 Kq
       replace Ow := Ow.grown b15
       replace bsw : bs ≤ w15.heap.size := Nat.le_trans bsw b15.size
       replace bl := bl.trans (b15.mono bl.size)
       clear b15
       obtain ⟨cy0, zy0, cy1, zy1, ney⟩ := b2z Ky
       obtain ⟨cz0, zz0, cz1, zz1, nez⟩ := b2z Kz
       obtain ⟨cq0, cq1, cq2, cq3, cq4, cq5, cq6, cq7, neq⟩ := b8c Kq
       refine app_qlist rfl (.tmp 62) (.tmp 66) rfl rfl Ow w14.heap.size 1 1 [((aslB a, aslF f a) : RQ)] rfl rfl HQ (by simp) bsw ?_
       intro v3 x3 hO hb
       clear cy0 cy1 zy0 zy1 cz0 cz1 zz0 zz1 ney nez cq0 cq1 cq2 cq3 cq4 cq5 cq6 cq7 neq
       replace Ky := (hb.block _ (by first | exact lty | omega)).trans Ky
       replace Kz := (hb.block _ (by first | exact ltz | omega)).trans Kz
       replace Kq := (hb.block _ (by first | exact ltq | omega)).trans Kq
       replace bl := bl.trans (hb.mono (by omega))
       replace bsw := Nat.le_trans bsw hb.size
       clear Ow hb HQ
       have Ow := hO
       clear hO
       obtain ⟨cy0, zy0, cy1, zy1, ney⟩ := b2z Ky
       obtain ⟨cz0, zz0, cz1, zz1, nez⟩ := b2z Kz
       obtain ⟨cq0, cq1, cq2, cq3, cq4, cq5, cq6, cq7, _⟩ := b8c Kq
       have neq : x3.heap.size ≠ (w.heap.size) := by have := blk_lt Kq; omega)
    | fail)
  go_wp2_with fail
  refine (lsr_is f a _).mono ?_
  rintro e w16 ⟨rfl, b16⟩
  clear cy0 cy1 zy0 zy1 cz0 cz1 zz0 zz1 ney nez cq0 cq1 cq2 cq3 cq4 cq5 cq6 cq7 neq
  replace Ky := kp b16 Ky
  replace Kz := kp b16 Kz
  replace Kq := kp b16 Kq
  replace Ow := Ow.grown b16
  replace bsw : bs ≤ w16.heap.size := Nat.le_trans bsw b16.size
  replace bl := bl.trans (b16.mono bl.size)
  clear b16
  obtain ⟨cy0, zy0, cy1, zy1, ney⟩ := b2z Ky
  obtain ⟨cz0, zz0, cz1, zz1, nez⟩ := b2z Kz
  obtain ⟨cq0, cq1, cq2, cq3, cq4, cq5, cq6, cq7, neq⟩ := b8c Kq
  go_upto_region 11 with fail
  clear cy0 cy1 zy0 zy1 cz0 cz1 zz0 zz1 ney nez cq0 cq1 cq2 cq3 cq4 cq5 cq6 cq7 neq
  obtain ⟨w17, hw17⟩ : ∃ ww, ww = ((w16.setCell ⟨w1.heap.size, 0, none⟩ (.int .u8 (lsrB a).v)).setCell ⟨w1.heap.size, 1, none⟩ (.bool (lsrB a).s)) := ⟨_, rfl⟩
  rw [← hw17]
  have nnz : w1.heap.size ≠ (w1.heap.size + 1) := by first | omega | (have := blk_lt Kz; have := blk_lt Ky; have := bl.size; omega)
  replace Kz : B2 w17 (w1.heap.size + 1) (.int .u8 (aslF f a).p) (.int .u8 (aslF f a).s) 23 := by rw [hw17]; exact ((oth2 nnz _ _).trans Kz)
  clear nnz
  replace Kq : w17.heap[(w.heap.size)]? = some (.cells #[.int .u8 f.p, .int .u8 f.s, .int .u8 a.v, .bool a.s, .int .u8 m.v, .bool m.s, .int .u8 bit, .bool brk] 27 (0, 0)) := by rw [hw17]; exact ((oth2 (by omega) _ _).trans Kq)
  replace Ky : B2 w17 w1.heap.size (.int .u8 (lsrB a).v) (.bool (lsrB a).s) 25 := by rw [hw17]; exact (set2 Ky _ _)
  replace bl : Below w.heap.size w w17 := by rw [hw17]; exact bs2 bl (by first | exact Nat.le_refl _ | omega | (have := bl.size; omega)) _ _
  replace Ow : OwnQ w17 bs v3 ([((adcB f a m, adcF f a m) : RQ)] ++ [((adcB f a (sbcM m), adcF f a (sbcM m)) : RQ)] ++ [((sbxB a m, sbxF f a m) : RQ)] ++ [((aslB a, aslF f a) : RQ)]) := by rw [hw17]; exact Ow.other fun k hk => (oth2 (by omega) _ _)
  replace bsw : bs ≤ w17.heap.size := by rw [hw17]; simpa using bsw
  clear hw17
  obtain ⟨cy0, zy0, cy1, zy1, ney⟩ := b2z Ky
  obtain ⟨cz0, zz0, cz1, zz1, nez⟩ := b2z Kz
  obtain ⟨cq0, cq1, cq2, cq3, cq4, cq5, cq6, cq7, neq⟩ := b8c Kq
  clear cy0 cy1 zy0 zy1 cz0 cz1 zz0 zz1 ney nez cq0 cq1 cq2 cq3 cq4 cq5 cq6 cq7 neq
  obtain ⟨w18, hw18⟩ : ∃ ww, ww = ((w17.setCell ⟨(w1.heap.size + 1), 0, none⟩ (.int .u8 (lsrF f a).p)).setCell ⟨(w1.heap.size + 1), 1, none⟩ (.int .u8 (lsrF f a).s)) := ⟨_, rfl⟩
  rw [← hw18]
  have nny : (w1.heap.size + 1) ≠ w1.heap.size := by first | omega | (have := blk_lt Ky; have := blk_lt Kz; have := bl.size; omega)
  replace Ky : B2 w18 w1.heap.size (.int .u8 (lsrB a).v) (.bool (lsrB a).s) 25 := by rw [hw18]; exact ((oth2 nny _ _).trans Ky)
  clear nny
  replace Kq : w18.heap[(w.heap.size)]? = some (.cells #[.int .u8 f.p, .int .u8 f.s, .int .u8 a.v, .bool a.s, .int .u8 m.v, .bool m.s, .int .u8 bit, .bool brk] 27 (0, 0)) := by rw [hw18]; exact ((oth2 (by omega) _ _).trans Kq)
  replace Kz : B2 w18 (w1.heap.size + 1) (.int .u8 (lsrF f a).p) (.int .u8 (lsrF f a).s) 23 := by rw [hw18]; exact (set2 Kz _ _)
  replace bl : Below w.heap.size w w18 := by rw [hw18]; exact bs2 bl (by first | exact Nat.le_refl _ | omega | (have := bl.size; omega)) _ _
  replace Ow : OwnQ w18 bs v3 ([((adcB f a m, adcF f a m) : RQ)] ++ [((adcB f a (sbcM m), adcF f a (sbcM m)) : RQ)] ++ [((sbxB a m, sbxF f a m) : RQ)] ++ [((aslB a, aslF f a) : RQ)]) := by rw [hw18]; exact Ow.other fun k hk => (oth2 (by omega) _ _)
  replace bsw : bs ≤ w18.heap.size := by rw [hw18]; simpa using bsw
  clear hw18
  obtain ⟨cy0, zy0, cy1, zy1, ney⟩ := b2z Ky
  obtain ⟨cz0, zz0, cz1, zz1, nez⟩ := b2z Kz
  obtain ⟨cq0, cq1, cq2, cq3, cq4, cq5, cq6, cq7, neq⟩ := b8c Kq
  go_wp2_with (first
    | (at_builtin
       obtain ⟨w19, hw19⟩ : ∃ ww, ww = (w18.alloc (.cells #[.int .u8 (lsrB a).v, .bool (lsrB a).s, .int .u8 (lsrF f a).p, .int .u8 (lsrF f a).s] 46)) := ⟨_, rfl⟩
       rw [← hw19]
       have b19 : Below w18.heap.size w18 w19 := by rw [hw19]; (repeat first | exact .refl _ _ | exact (Below.refl _ _).drew | refine .drew ?_ | refine .alloc ?_ (by simp <;> omega) _)
       have HQ : ∀ j u, (cellsQ [((lsrB a, lsrF f a) : RQ)])[j]? = some u → w19.cell? ⟨w18.heap.size, j, none⟩ = some u := by rw [hw19]; exact newQ
       clear hw19
       clear cy0 cy1 zy0 zy1 cz0 cz1 zz0 zz1 ney nez cq0 cq1 cq2 cq3 cq4 cq5 cq6 cq7 neq
       replace Ky := kp b19 Ky
       replace Kz := kp b19 Kz
       replace Kq := kp b19 Kq
       replace Ow := Ow.grown b19
       replace bsw : bs ≤ w19.heap.size := Nat.le_trans bsw b19.size
       replace bl := bl.trans (b19.mono bl.size)
       clear b19
       obtain ⟨cy0, zy0, cy1, zy1, ney⟩ := b2z Ky
       obtain ⟨cz0, zz0, cz1, zz1, nez⟩ := b2z Kz
       obtain ⟨cq0, cq1, cq2, cq3, cq4, cq5, cq6, cq7, neq⟩ := b8c Kq
       refine app_qlist rfl (.tmp 76) (.tmp 80) rfl rfl Ow w18.heap.size 1 1 [((lsrB a, lsrF f a) : RQ)] rfl rfl HQ (by simp) bsw ?_
       intro v4 x4 hO hb
       clear cy0 cy1 zy0 zy1 cz0 cz1 zz0 zz1 ney nez cq0 cq1 cq2 cq3 cq4 cq5 cq6 cq7 neq
       replace Ky := (hb.block _ (by first | exact lty | omega)).trans Ky
       replace Kz := (hb.block _ (by first | exact ltz | omega)).trans Kz
       replace Kq := (hb.block _ (by first | exact ltq | omega)).trans Kq
       replace bl := bl.trans (hb.mono (by omega))
       replace bsw := Nat.le_trans bsw hb.size
       clear Ow hb HQ
       have Ow := hO
       clear hO
       obtain ⟨cy0, zy0, cy1, zy1, ney⟩ := b2z Ky
       obtain ⟨cz0, zz0, cz1, zz1, nez⟩ := b2z Kz
       obtain ⟨cq0, cq1, cq2, cq3, cq4, cq5, cq6, cq7, _⟩ := b8c Kq
       have neq : x4.heap.size ≠ (w.heap.size) := by have := blk_lt Kq; omega)
    | fail)
  go_wp2_with fail
  refine (rol_is f a _).mono ?_
  rintro e w20 ⟨rfl, b20⟩
  clear cy0 cy1 zy0 zy1 cz0 cz1 zz0 zz1 ney nez cq0 cq1 cq2 cq3 cq4 cq5 cq6 cq7 neq
  replace Ky := kp b20 Ky
  replace Kz := kp b20 Kz
  replace Kq := kp b20 Kq
  replace Ow := Ow.grown b20
  replace bsw : bs ≤ w20.heap.size := Nat.le_trans bsw b20.size
  replace bl := bl.trans (b20.mono bl.size)
  clear b20
  obtain ⟨cy0, zy0, cy1, zy1, ney⟩ := b2z Ky
  obtain ⟨cz0, zz0, cz1, zz1, nez⟩ := b2z Kz
  obtain ⟨cq0, cq1, cq2, cq3, cq4, cq5, cq6, cq7, neq⟩ := b8c Kq
  go_upto_region 13 with fail
  clear cy0 cy1 zy0 zy1 cz0 cz1 zz0 zz1 ney nez cq0 cq1 cq2 cq3 cq4 cq5 cq6 cq7 neq
  obtain ⟨w21, hw21⟩ : ∃ ww, ww = ((w20.setCell ⟨w1.heap.size, 0, none⟩ (.int .u8 (rolB f a).v)).setCell ⟨w1.heap.size, 1, none⟩ (.bool (rolB f a).s)) := ⟨_, rfl⟩
  rw [← hw21]
  have nnz : w1.heap.size ≠ (w1.heap.size + 1) := by first | omega | (have := blk_lt Kz; have := blk_lt Ky; have := bl.size; omega)
  replace Kz : B2 w21 (w1.heap.size + 1) (.int .u8 (lsrF f a).p) (.int .u8 (lsrF f a).s) 23 := by rw [hw21]; exact ((oth2 nnz _ _).trans Kz)
  clear nnz
  replace Kq : w21.heap[(w.heap.size)]? = some (.cells #[.int .u8 f.p, .int .u8 f.s, .int .u8 a.v, .bool a.s, .int .u8 m.v, .bool m.s, .int .u8 bit, .bool brk] 27 (0, 0)) := by rw [hw21]; exact ((oth2 (by omega) _ _).trans Kq)
  replace Ky : B2 w21 w1.heap.size (.int .u8 (rolB f a).v) (.bool (rolB f a).s) 25 := by rw [hw21]; exact (set2 Ky _ _)
  replace bl : Below w.heap.size w w21 := by rw [hw21]; exact bs2 bl (by first | exact Nat.le_refl _ | omega | (have := bl.size; omega)) _ _
  replace Ow : OwnQ w21 bs v4 ([((adcB f a m, adcF f a m) : RQ)] ++ [((adcB f a (sbcM m), adcF f a (sbcM m)) : RQ)] ++ [((sbxB a m, sbxF f a m) : RQ)] ++ [((aslB a, aslF f a) : RQ)] ++ [((lsrB a, lsrF f a) : RQ)]) := by rw [hw21]; exact Ow.other fun k hk => (oth2 (by omega) _ _)
  replace bsw : bs ≤ w21.heap.size := by rw [hw21]; simpa using bsw
  clear hw21
  obtain ⟨cy0, zy0, cy1, zy1, ney⟩ := b2z Ky
  obtain ⟨cz0, zz0, cz1, zz1, nez⟩ := b2z Kz
  obtain ⟨cq0, cq1, cq2, cq3, cq4, cq5, cq6, cq7, neq⟩ := b8c Kq
  clear cy0 cy1 zy0 zy1 cz0 cz1 zz0 zz1 ney nez cq0 cq1 cq2 cq3 cq4 cq5 cq6 cq7 neq
  obtain ⟨w22, hw22⟩ : ∃ ww, ww = ((w21.setCell ⟨(w1.heap.size + 1), 0, none⟩ (.int .u8 (rolF f a).p)).setCell ⟨(w1.heap.size + 1), 1, none⟩ (.int .u8 (rolF f a).s)) := ⟨_, rfl⟩
  rw [← hw22]
  have nny : (w1.heap.size + 1) ≠ w1.heap.size := by first | omega | (have := blk_lt Ky; have := blk_lt Kz; have := bl.size; omega)
  replace Ky : B2 w22 w1.heap.size (.int .u8 (rolB f a).v) (.bool (rolB f a).s) 25 := by rw [hw22]; exact ((oth2 nny _ _).trans Ky)
  clear nny
  replace Kq : w22.heap[(w.heap.size)]? = some (.cells #[.int .u8 f.p, .int .u8 f.s, .int .u8 a.v, .bool a.s, .int .u8 m.v, .bool m.s, .int .u8 bit, .bool brk] 27 (0, 0)) := by rw [hw22]; exact ((oth2 (by omega) _ _).trans Kq)
  replace Kz : B2 w22 (w1.heap.size + 1) (.int .u8 (rolF f a).p) (.int .u8 (rolF f a).s) 23 := by rw [hw22]; exact (set2 Kz _ _)
  replace bl : Below w.heap.size w w22 := by rw [hw22]; exact bs2 bl (by first | exact Nat.le_refl _ | omega | (have := bl.size; omega)) _ _
  replace Ow : OwnQ w22 bs v4 ([((adcB f a m, adcF f a m) : RQ)] ++ [((adcB f a (sbcM m), adcF f a (sbcM m)) : RQ)] ++ [((sbxB a m, sbxF f a m) : RQ)] ++ [((aslB a, aslF f a) : RQ)] ++ [((lsrB a, lsrF f a) : RQ)]) := by rw [hw22]; exact Ow.other fun k hk => (oth2 (by omega) _ _)
  replace bsw : bs ≤ w22.heap.size := by rw [hw22]; simpa using bsw
  clear hw22
  obtain ⟨cy0, zy0, cy1, zy1, ney⟩ := b2z Ky
  obtain ⟨cz0, zz0, cz1, zz1, nez⟩ := b2z Kz
  obtain ⟨cq0, cq1, cq2, cq3, cq4, cq5, cq6, cq7, neq⟩ := b8c Kq
  go_wp2_with (first
    | (at_builtin
       obtain ⟨w23, hw23⟩ : ∃ ww, ww = (w22.alloc (.cells #[.int .u8 (rolB f a).v, .bool (rolB f a).s, .int .u8 (rolF f a).p, .int .u8 (rolF f a).s] 46)) := ⟨_, rfl⟩
       rw [← hw23]
       have b23 : Below w22.heap.size w22 w23 := by rw [hw23]; (repeat first | exact .refl _ _ | exact (Below.refl _ _).drew | refine .drew ?_ | refine .alloc ?_ (by simp <;> omega) _)
       have HQ : ∀ j u, (cellsQ [((rolB f a, rolF f a) : RQ)])[j]? = some u → w23.cell? ⟨w22.heap.size, j, none⟩ = some u := by rw [hw23]; exact newQ
       clear hw23
       clear cy0 cy1 zy0 zy1 cz0 cz1 zz0 zz1 ney nez cq0 cq1 cq2 cq3 cq4 cq5 cq6 cq7 neq
       replace Ky := kp b23 Ky
       replace Kz := kp b23 Kz
       replace Kq := kp b23 Kq
       replace Ow := Ow.grown b23
       replace bsw : bs ≤ w23.heap.size := Nat.le_trans bsw b23.size
       replace bl := bl.trans (b23.mono bl.size)
       clear b23
       obtain ⟨cy0, zy0, cy1, zy1, ney⟩ := b2z Ky
       obtain ⟨cz0, zz0, cz1, zz1, nez⟩ := b2z Kz
       obtain ⟨cq0, cq1, cq2, cq3, cq4, cq5, cq6, cq7, neq⟩ := b8c Kq
       refine app_qlist rfl (.tmp 90) (.tmp 94) rfl rfl Ow w22.heap.size 1 1 [((rolB f a, rolF f a) : RQ)] rfl rfl HQ (by simp) bsw ?_
       intro v5 x5 hO hb
       clear cy0 cy1 zy0 zy1 cz0 cz1 zz0 zz1 ney nez cq0 cq1 cq2 cq3 cq4 cq5 cq6 cq7 neq
       replace Ky := (hb.block _ (by first | exact lty | omega)).trans Ky
       replace Kz := (hb.block _ (by first | exact ltz | omega)).trans Kz
       replace Kq := (hb.block _ (by first | exact ltq | omega)).trans Kq
       replace bl := bl.trans (hb.mono (by omega))
       replace bsw := Nat.le_trans bsw hb.size
       clear Ow hb HQ
       have Ow := hO
       clear hO
       obtain ⟨cy0, zy0, cy1, zy1, ney⟩ := b2z Ky
       obtain ⟨cz0, zz0, cz1, zz1, nez⟩ := b2z Kz
       obtain ⟨cq0, cq1, cq2, cq3, cq4, cq5, cq6, cq7, _⟩ := b8c Kq
       have neq : x5.heap.size ≠ (w.heap.size) := by have := blk_lt Kq; omega)
    | fail)
  go_wp2_with fail
  refine (ror_is f a _).mono ?_
  rintro e w24 ⟨rfl, b24⟩
  clear cy0 cy1 zy0 zy1 cz0 cz1 zz0 zz1 ney nez cq0 cq1 cq2 cq3 cq4 cq5 cq6 cq7 neq
  replace Ky := kp b24 Ky
  replace Kz := kp b24 Kz
  replace Kq := kp b24 Kq
  replace Ow := Ow.grown b24
  replace bsw : bs ≤ w24.heap.size := Nat.le_trans bsw b24.size
  replace bl := bl.trans (b24.mono bl.size)
  clear b24
  obtain ⟨cy0, zy0, cy1, zy1, ney⟩ := b2z Ky
  obtain ⟨cz0, zz0, cz1, zz1, nez⟩ := b2z Kz
  obtain ⟨cq0, cq1, cq2, cq3, cq4, cq5, cq6, cq7, neq⟩ := b8c Kq
  go_upto_region 15 with fail
  clear cy0 cy1 zy0 zy1 cz0 cz1 zz0 zz1 ney nez cq0 cq1 cq2 cq3 cq4 cq5 cq6 cq7 neq
  obtain ⟨w25, hw25⟩ : ∃ ww, ww = ((w24.setCell ⟨w1.heap.size, 0, none⟩ (.int .u8 (rorB f a).v)).setCell ⟨w1.heap.size, 1, none⟩ (.bool (rorB f a).s)) := ⟨_, rfl⟩
  rw [← hw25]
  have nnz : w1.heap.size ≠ (w1.heap.size + 1) := by first | omega | (have := blk_lt Kz; have := blk_lt Ky; have := bl.size; omega)
  replace Kz : B2 w25 (w1.heap.size + 1) (.int .u8 (rolF f a).p) (.int .u8 (rolF f a).s) 23 := by rw [hw25]; exact ((oth2 nnz _ _).trans Kz)
  clear nnz
  replace Kq : w25.heap[(w.heap.size)]? = some (.cells #[.int .u8 f.p, .int .u8 f.s, .int .u8 a.v, .bool a.s, .int .u8 m.v, .bool m.s, .int .u8 bit, .bool brk] 27 (0, 0)) := by rw [hw25]; exact ((oth2 (by omega) _ _).trans Kq)
  replace Ky : B2 w25 w1.heap.size (.int .u8 (rorB f a).v) (.bool (rorB f a).s) 25 := by rw [hw25]; exact (set2 Ky _ _)
  replace bl : Below w.heap.size w w25 := by rw [hw25]; exact bs2 bl (by first | exact Nat.le_refl _ | omega | (have := bl.size; omega)) _ _
  replace Ow : OwnQ w25 bs v5 ([((adcB f a m, adcF f a m) : RQ)] ++ [((adcB f a (sbcM m), adcF f a (sbcM m)) : RQ)] ++ [((sbxB a m, sbxF f a m) : RQ)] ++ [((aslB a, aslF f a) : RQ)] ++ [((lsrB a, lsrF f a) : RQ)] ++ [((rolB f a, rolF f a) : RQ)]) := by rw [hw25]; exact Ow.other fun k hk => (oth2 (by omega) _ _)
  replace bsw : bs ≤ w25.heap.size := by rw [hw25]; simpa using bsw
  clear hw25
  obtain ⟨cy0, zy0, cy1, zy1, ney⟩ := b2z Ky
  obtain ⟨cz0, zz0, cz1, zz1, nez⟩ := b2z Kz
  obtain ⟨cq0, cq1, cq2, cq3, cq4, cq5, cq6, cq7, neq⟩ := b8c Kq
  clear cy0 cy1 zy0 zy1 cz0 cz1 zz0 zz1 ney nez cq0 cq1 cq2 cq3 cq4 cq5 cq6 cq7 neq
  obtain ⟨w26, hw26⟩ : ∃ ww, ww = ((w25.setCell ⟨(w1.heap.size + 1), 0, none⟩ (.int .u8 (rorF f a).p)).setCell ⟨(w1.heap.size + 1), 1, none⟩ (.int .u8 (rorF f a).s)) := ⟨_, rfl⟩
  rw [← hw26]
  have nny : (w1.heap.size + 1) ≠ w1.heap.size := by first | omega | (have := blk_lt Ky; have := blk_lt Kz; have := bl.size; omega)
  replace Ky : B2 w26 w1.heap.size (.int .u8 (rorB f a).v) (.bool (rorB f a).s) 25 := by rw [hw26]; exact ((oth2 nny _ _).trans Ky)
  clear nny
  replace Kq : w26.heap[(w.heap.size)]? = some (.cells #[.int .u8 f.p, .int .u8 f.s, .int .u8 a.v, .bool a.s, .int .u8 m.v, .bool m.s, .int .u8 bit, .bool brk] 27 (0, 0)) := by rw [hw26]; exact ((oth2 (by omega) _ _).trans Kq)
  replace Kz : B2 w26 (w1.heap.size + 1) (.int .u8 (rorF f a).p) (.int .u8 (rorF f a).s) 23 := by rw [hw26]; exact (set2 Kz _ _)
  replace bl : Below w.heap.size w w26 := by rw [hw26]; exact bs2 bl (by first | exact Nat.le_refl _ | omega | (have := bl.size; omega)) _ _
  replace Ow : OwnQ w26 bs v5 ([((adcB f a m, adcF f a m) : RQ)] ++ [((adcB f a (sbcM m), adcF f a (sbcM m)) : RQ)] ++ [((sbxB a m, sbxF f a m) : RQ)] ++ [((aslB a, aslF f a) : RQ)] ++ [((lsrB a, lsrF f a) : RQ)] ++ [((rolB f a, rolF f a) : RQ)]) := by rw [hw26]; exact Ow.other fun k hk => (oth2 (by omega) _ _)
  replace bsw : bs ≤ w26.heap.size := by rw [hw26]; simpa using bsw
  clear hw26
  obtain ⟨cy0, zy0, cy1, zy1, ney⟩ := b2z Ky
  obtain ⟨cz0, zz0, cz1, zz1, nez⟩ := b2z Kz
  obtain ⟨cq0, cq1, cq2, cq3, cq4, cq5, cq6, cq7, neq⟩ := b8c Kq
  go_wp2_with (first
    | (at_builtin
       obtain ⟨w27, hw27⟩ : ∃ ww, ww = (w26.alloc (.cells #[.int .u8 (rorB f a).v, .bool (rorB f a).s, .int .u8 (rorF f a).p, .int .u8 (rorF f a).s] 46)) := ⟨_, rfl⟩
       rw [← hw27]
       have b27 : Below w26.heap.size w26 w27 := by rw [hw27]; (repeat first | exact .refl _ _ | exact (Below.refl _ _).drew | refine .drew ?_ | refine .alloc ?_ (by simp <;> omega) _)
       have HQ : ∀ j u, (cellsQ [((rorB f a, rorF f a) : RQ)])[j]? = some u → w27.cell? ⟨w26.heap.size, j, none⟩ = some u := by rw [hw27]; exact newQ
       clear hw27
       clear cy0 cy1 zy0 zy1 cz0 cz1 zz0 zz1 ney nez cq0 cq1 cq2 cq3 cq4 cq5 cq6 cq7 neq
       replace Ky := kp b27 Ky
       replace Kz := kp b27 Kz
       replace Kq := kp b27 Kq
       replace Ow := Ow.grown b27
       replace bsw : bs ≤ w27.heap.size := Nat.le_trans bsw b27.size
       replace bl := bl.trans (b27.mono bl.size)
       clear b27
       obtain ⟨cy0, zy0, cy1, zy1, ney⟩ := b2z Ky
       obtain ⟨cz0, zz0, cz1, zz1, nez⟩ := b2z Kz
       obtain ⟨cq0, cq1, cq2, cq3, cq4, cq5, cq6, cq7, neq⟩ := b8c Kq
       refine app_qlist rfl (.tmp 104) (.tmp 108) rfl rfl Ow w26.heap.size 1 1 [((rorB f a, rorF f a) : RQ)] rfl rfl HQ (by simp) bsw ?_
       intro v6 x6 hO hb
       clear cy0 cy1 zy0 zy1 cz0 cz1 zz0 zz1 ney nez cq0 cq1 cq2 cq3 cq4 cq5 cq6 cq7 neq
       replace Ky := (hb.block _ (by first | exact lty | omega)).trans Ky
       replace Kz := (hb.block _ (by first | exact ltz | omega)).trans Kz
       replace Kq := (hb.block _ (by first | exact ltq | omega)).trans Kq
       replace bl := bl.trans (hb.mono (by omega))
       replace bsw := Nat.le_trans bsw hb.size
       clear Ow hb HQ
       have Ow := hO
       clear hO
       obtain ⟨cy0, zy0, cy1, zy1, ney⟩ := b2z Ky
       obtain ⟨cz0, zz0, cz1, zz1, nez⟩ := b2z Kz
       obtain ⟨cq0, cq1, cq2, cq3, cq4, cq5, cq6, cq7, _⟩ := b8c Kq
       have neq : x6.heap.size ≠ (w.heap.size) := by have := blk_lt Kq; omega)
    | fail)
  go_wp2_with fail
  refine (arr_is f a m _).mono ?_
  rintro e w28 ⟨rfl, b28⟩
  clear cy0 cy1 zy0 zy1 cz0 cz1 zz0 zz1 ney nez cq0 cq1 cq2 cq3 cq4 cq5 cq6 cq7 neq
  replace Ky := kp b28 Ky
  replace Kz := kp b28 Kz
  replace Kq := kp b28 Kq
  replace Ow := Ow.grown b28
  replace bsw : bs ≤ w28.heap.size := Nat.le_trans bsw b28.size
  replace bl := bl.trans (b28.mono bl.size)
  clear b28
  obtain ⟨cy0, zy0, cy1, zy1, ney⟩ := b2z Ky
  obtain ⟨cz0, zz0, cz1, zz1, nez⟩ := b2z Kz
  obtain ⟨cq0, cq1, cq2, cq3, cq4, cq5, cq6, cq7, neq⟩ := b8c Kq
  go_upto_region 17 with fail
  clear cy0 cy1 zy0 zy1 cz0 cz1 zz0 zz1 ney nez cq0 cq1 cq2 cq3 cq4 cq5 cq6 cq7 neq
  obtain ⟨w29, hw29⟩ : ∃ ww, ww = ((w28.setCell ⟨w1.heap.size, 0, none⟩ (.int .u8 (arrB f a m).v)).setCell ⟨w1.heap.size, 1, none⟩ (.bool (arrB f a m).s)) := ⟨_, rfl⟩
  rw [← hw29]
  have nnz : w1.heap.size ≠ (w1.heap.size + 1) := by first | omega | (have := blk_lt Kz; have := blk_lt Ky; have := bl.size; omega)
  replace Kz : B2 w29 (w1.heap.size + 1) (.int .u8 (rorF f a).p) (.int .u8 (rorF f a).s) 23 := by rw [hw29]; exact ((oth2 nnz _ _).trans Kz)
  clear nnz
  replace Kq : w29.heap[(w.heap.size)]? = some (.cells #[.int .u8 f.p, .int .u8 f.s, .int .u8 a.v, .bool a.s, .int .u8 m.v, .bool m.s, .int .u8 bit, .bool brk] 27 (0, 0)) := by rw [hw29]; exact ((oth2 (by omega) _ _).trans Kq)
  replace Ky : B2 w29 w1.heap.size (.int .u8 (arrB f a m).v) (.bool (arrB f a m).s) 25 := by rw [hw29]; exact (set2 Ky _ _)
  replace bl : Below w.heap.size w w29 := by rw [hw29]; exact bs2 bl (by first | exact Nat.le_refl _ | omega | (have := bl.size; omega)) _ _
  replace Ow : OwnQ w29 bs v6 ([((adcB f a m, adcF f a m) : RQ)] ++ [((adcB f a (sbcM m), adcF f a (sbcM m)) : RQ)] ++ [((sbxB a m, sbxF f a m) : RQ)] ++ [((aslB a, aslF f a) : RQ)] ++ [((lsrB a, lsrF f a) : RQ)] ++ [((rolB f a, rolF f a) : RQ)] ++ [((rorB f a, rorF f a) : RQ)]) := by rw [hw29]; exact Ow.other fun k hk => (oth2 (by omega) _ _)
  replace bsw : bs ≤ w29.heap.size := by rw [hw29]; simpa using bsw
  clear hw29
  obtain ⟨cy0, zy0, cy1, zy1, ney⟩ := b2z Ky
  obtain ⟨cz0, zz0, cz1, zz1, nez⟩ := b2z Kz
  obtain ⟨cq0, cq1, cq2, cq3, cq4, cq5, cq6, cq7, neq⟩ := b8c Kq
  clear cy0 cy1 zy0 zy1 cz0 cz1 zz0 zz1 ney nez cq0 cq1 cq2 cq3 cq4 cq5 cq6 cq7 neq
  obtain ⟨w30, hw30⟩ : ∃ ww, ww = ((w29.setCell ⟨(w1.heap.size + 1), 0, none⟩ (.int .u8 (arrF f a m).p)).setCell ⟨(w1.heap.size + 1), 1, none⟩ (.int .u8 (arrF f a m).s)) := ⟨_, rfl⟩
  rw [← hw30]
  have nny : (w1.heap.size + 1) ≠ w1.heap.size := by first | omega | (have := blk_lt Ky; have := blk_lt Kz; have := bl.size; omega)
  replace Ky : B2 w30 w1.heap.size (.int .u8 (arrB f a m).v) (.bool (arrB f a m).s) 25 := by rw [hw30]; exact ((oth2 nny _ _).trans Ky)
  clear nny
  replace Kq : w30.heap[(w.heap.size)]? = some (.cells #[.int .u8 f.p, .int .u8 f.s, .int .u8 a.v, .bool a.s, .int .u8 m.v, .bool m.s, .int .u8 bit, .bool brk] 27 (0, 0)) := by rw [hw30]; exact ((oth2 (by omega) _ _).trans Kq)
  replace Kz : B2 w30 (w1.heap.size + 1) (.int .u8 (arrF f a m).p) (.int .u8 (arrF f a m).s) 23 := by rw [hw30]; exact (set2 Kz _ _)
  replace bl : Below w.heap.size w w30 := by rw [hw30]; exact bs2 bl (by first | exact Nat.le_refl _ | omega | (have := bl.size; omega)) _ _
  replace Ow : OwnQ w30 bs v6 ([((adcB f a m, adcF f a m) : RQ)] ++ [((adcB f a (sbcM m), adcF f a (sbcM m)) : RQ)] ++ [((sbxB a m, sbxF f a m) : RQ)] ++ [((aslB a, aslF f a) : RQ)] ++ [((lsrB a, lsrF f a) : RQ)] ++ [((rolB f a, rolF f a) : RQ)] ++ [((rorB f a, rorF f a) : RQ)]) := by rw [hw30]; exact Ow.other fun k hk => (oth2 (by omega) _ _)
  replace bsw : bs ≤ w30.heap.size := by rw [hw30]; simpa using bsw
  clear hw30
  obtain ⟨cy0, zy0, cy1, zy1, ney⟩ := b2z Ky
  obtain ⟨cz0, zz0, cz1, zz1, nez⟩ := b2z Kz
  obtain ⟨cq0, cq1, cq2, cq3, cq4, cq5, cq6, cq7, neq⟩ := b8c Kq
  go_wp2_with (first
    | (at_builtin
       obtain ⟨w31, hw31⟩ : ∃ ww, ww = (w30.alloc (.cells #[.int .u8 (arrB f a m).v, .bool (arrB f a m).s, .int .u8 (arrF f a m).p, .int .u8 (arrF f a m).s] 46)) := ⟨_, rfl⟩
       rw [← hw31]
       have b31 : Below w30.heap.size w30 w31 := by rw [hw31]; (repeat first | exact .refl _ _ | exact (Below.refl _ _).drew | refine .drew ?_ | refine .alloc ?_ (by simp <;> omega) _)
       have HQ : ∀ j u, (cellsQ [((arrB f a m, arrF f a m) : RQ)])[j]? = some u → w31.cell? ⟨w30.heap.size, j, none⟩ = some u := by rw [hw31]; exact newQ
       clear hw31
       clear cy0 cy1 zy0 zy1 cz0 cz1 zz0 zz1 ney nez cq0 cq1 cq2 cq3 cq4 cq5 cq6 cq7 neq
       replace Ky := kp b31 Ky
       replace Kz := kp b31 Kz
       replace Kq := kp b31 Kq
       replace Ow := Ow.grown b31
       replace bsw : bs ≤ w31.heap.size := Nat.le_trans bsw b31.size
       replace bl := bl.trans (b31.mono bl.size)
       clear b31
       obtain ⟨cy0, zy0, cy1, zy1, ney⟩ := b2z Ky
       obtain ⟨cz0, zz0, cz1, zz1, nez⟩ := b2z Kz
       obtain ⟨cq0, cq1, cq2, cq3, cq4, cq5, cq6, cq7, neq⟩ := b8c Kq
       refine app_qlist rfl (.tmp 120) (.tmp 124) rfl rfl Ow w30.heap.size 1 1 [((arrB f a m, arrF f a m) : RQ)] rfl rfl HQ (by simp) bsw ?_
       intro v7 x7 hO hb
       clear cy0 cy1 zy0 zy1 cz0 cz1 zz0 zz1 ney nez cq0 cq1 cq2 cq3 cq4 cq5 cq6 cq7 neq
       replace Ky := (hb.block _ (by first | exact lty | omega)).trans Ky
       replace Kz := (hb.block _ (by first | exact ltz | omega)).trans Kz
       replace Kq := (hb.block _ (by first | exact ltq | omega)).trans Kq
       replace bl := bl.trans (hb.mono (by omega))
       replace bsw := Nat.le_trans bsw hb.size
       clear Ow hb HQ
       have Ow := hO
       clear hO
       obtain ⟨cy0, zy0, cy1, zy1, ney⟩ := b2z Ky
       obtain ⟨cz0, zz0, cz1, zz1, nez⟩ := b2z Kz
       obtain ⟨cq0, cq1, cq2, cq3, cq4, cq5, cq6, cq7, _⟩ := b8c Kq
       have neq : x7.heap.size ≠ (w.heap.size) := by have := blk_lt Kq; omega)
    | fail)
  go_upto_region 18 with fail
  refine wp_region_noPanic ?_
  refine wp_region_held_drew (S := (fun w' => w'.cell? ⟨(w.heap.size), 0, none⟩ = some (.int .u8 f.p) ∧ w'.cell? ⟨(w.heap.size), 1, none⟩ = some (.int .u8 f.s) ∧ w'.cell? ⟨(w.heap.size), 2, none⟩ = some (.int .u8 a.v) ∧ w'.cell? ⟨(w.heap.size), 3, none⟩ = some (.bool a.s) ∧ w'.cell? ⟨(w.heap.size), 4, none⟩ = some (.int .u8 m.v) ∧ w'.cell? ⟨(w.heap.size), 5, none⟩ = some (.bool m.s) ∧ w'.cell? ⟨(w.heap.size), 6, none⟩ = some (.int .u8 bit) ∧ w'.cell? ⟨(w.heap.size), 7, none⟩ = some (.bool brk))) (by kernel_rfl) ⟨blk_cell Kq 0, blk_cell Kq 1, blk_cell Kq 2, blk_cell Kq 3, blk_cell Kq 4, blk_cell Kq 5, blk_cell Kq 6, blk_cell Kq 7⟩ (fun hHeld => ?_)
  refine tk 0 (v := ?_) rfl ?_ ?_; rotate_left; (focus (intro w hSw; (try dsimp only at hSw); go_simp; with_reducible rfl)); simp only [Act.put, tA, tB, tC]
  refine tk 1 (v := ?_) rfl ?_ ?_; rotate_left; (focus (intro w hSw; (try dsimp only at hSw); go_simp; with_reducible rfl)); simp only [Act.put, tA, tB, tC]
  refine tk 2 (v := ?_) rfl ?_ ?_; rotate_left; (focus (intro w hSw; (try dsimp only at hSw); go_simp; with_reducible rfl)); simp only [Act.put, tA, tB, tC]
  refine tk 3 (v := ?_) rfl ?_ ?_; rotate_left; (focus (intro w hSw; (try dsimp only at hSw); go_simp; with_reducible rfl)); simp only [Act.put, tA, tB, tC]
  refine tk 4 (v := ?_) rfl ?_ ?_; rotate_left; (focus (intro w hSw; (try dsimp only at hSw); go_simp; with_reducible rfl)); simp only [Act.put, tA, tB, tC]
  refine tk 6 (v := ?_) rfl ?_ ?_; rotate_left; (focus (intro w hSw; (try dsimp only at hSw); go_simp; with_reducible rfl)); simp only [Act.put, tA, tB, tC]
  refine tk 7 (v := ?_) rfl ?_ ?_; rotate_left; (focus (intro w hSw; (try dsimp only at hSw); go_simp; with_reducible rfl)); simp only [Act.put, tA, tB, tC]
  refine tk 8 (v := ?_) rfl ?_ ?_; rotate_left; (focus (intro w hSw; (try dsimp only at hSw); go_simp; with_reducible rfl)); simp only [Act.put, tA, tB, tC]
  refine tk 9 (v := ?_) rfl ?_ ?_; rotate_left; (focus (intro w hSw; (try dsimp only at hSw); go_simp; with_reducible rfl)); simp only [Act.put, tA, tB, tC]
  refine tk 10 (v := ?_) rfl ?_ ?_; rotate_left; (focus (intro w hSw; (try dsimp only at hSw); go_simp; with_reducible rfl)); simp only [Act.put, tA, tB, tC]
  refine tk 11 (v := ?_) rfl ?_ ?_; rotate_left; (focus (intro w hSw; (try dsimp only at hSw); go_simp; with_reducible rfl)); simp only [Act.put, tA, tB, tC]
  refine wpAnyH_ready (rs := [5]) (by kernel_rfl) (by simp) ?_
  refine AllReadyH.cons (o := ⟨_, _, _, _, _, _⟩) rfl (fun K hK => ?_) (AllReadyH.nil)
  go_simp
  refine (get_any f bit _).mono ?_
  rintro e w32 ⟨rfl, b32⟩
  replace b32 : Below x7.heap.size x7 w32 := (Below.refl _ _).drew.trans b32
  clear cy0 cy1 zy0 zy1 cz0 cz1 zz0 zz1 ney nez cq0 cq1 cq2 cq3 cq4 cq5 cq6 cq7 neq
  replace Ky := kp b32 Ky
  replace Kz := kp b32 Kz
  replace Kq := kp b32 Kq
  replace Ow := Ow.grown b32
  replace bsw : bs ≤ w32.heap.size := Nat.le_trans bsw b32.size
  replace bl := bl.trans (b32.mono bl.size)
  clear b32
  obtain ⟨cy0, zy0, cy1, zy1, ney⟩ := b2z Ky
  obtain ⟨cz0, zz0, cz1, zz1, nez⟩ := b2z Kz
  obtain ⟨cq0, cq1, cq2, cq3, cq4, cq5, cq6, cq7, neq⟩ := b8c Kq
  refine hK.out _ _ ⟨blk_cell Kq 0, blk_cell Kq 1, blk_cell Kq 2, blk_cell Kq 3, blk_cell Kq 4, blk_cell Kq 5, blk_cell Kq 6, blk_cell Kq 7⟩ (fun hHeld => ?_)
  clear hK K
  refine wpAnyH_ready (rs := [12]) (by kernel_rfl) (by simp) ?_
  refine AllReadyH.cons (o := ⟨_, _, _, _, _, _⟩) rfl (fun K hK => ?_) (AllReadyH.nil)
  go_simp
  refine (set_any f bit a _).mono ?_
  rintro e w33 ⟨rfl, b33⟩
  clear cy0 cy1 zy0 zy1 cz0 cz1 zz0 zz1 ney nez cq0 cq1 cq2 cq3 cq4 cq5 cq6 cq7 neq
  replace Ky := kp b33 Ky
  replace Kz := kp b33 Kz
  replace Kq := kp b33 Kq
  replace Ow := Ow.grown b33
  replace bsw : bs ≤ w33.heap.size := Nat.le_trans bsw b33.size
  replace bl := bl.trans (b33.mono bl.size)
  clear b33
  obtain ⟨cy0, zy0, cy1, zy1, ney⟩ := b2z Ky
  obtain ⟨cz0, zz0, cz1, zz1, nez⟩ := b2z Kz
  obtain ⟨cq0, cq1, cq2, cq3, cq4, cq5, cq6, cq7, neq⟩ := b8c Kq
  refine hK.out _ _ ⟨blk_cell Kq 0, blk_cell Kq 1, blk_cell Kq 2, blk_cell Kq 3, blk_cell Kq 4, blk_cell Kq 5, blk_cell Kq 6, blk_cell Kq 7⟩ (fun hHeld => ?_)
  clear hK K
  refine tk 13 (v := ?_) rfl ?_ ?_; rotate_left; (focus (intro w hSw; (try dsimp only at hSw); go_simp; with_reducible rfl)); simp only [Act.put, tA, tB, tC]
  refine wpAnyH_ready (rs := [14]) (by kernel_rfl) (by simp) ?_
  refine AllReadyH.cons (o := ⟨_, _, _, _, _, _⟩) rfl (fun K hK => ?_) (AllReadyH.nil)
  go_simp
  obtain ⟨w34, hw34⟩ : ∃ ww, ww = (w33.alloc (.cells #[.int .u8 (getF f bit).v, .bool (getF f bit).s, .int .u8 (setF f bit a).p, .int .u8 (setF f bit a).s] 46)) := ⟨_, rfl⟩
  rw [← hw34]
  have b34 : Below w33.heap.size w33 w34 := by rw [hw34]; (repeat first | exact .refl _ _ | exact (Below.refl _ _).drew | refine .drew ?_ | refine .alloc ?_ (by simp <;> omega) _)
  have HQ : ∀ j u, (cellsQ [((getF f bit, setF f bit a) : RQ)])[j]? = some u → w34.cell? ⟨w33.heap.size, j, none⟩ = some u := by rw [hw34]; exact newQ
  clear hw34
  clear cy0 cy1 zy0 zy1 cz0 cz1 zz0 zz1 ney nez cq0 cq1 cq2 cq3 cq4 cq5 cq6 cq7 neq
  replace Ky := kp b34 Ky
  replace Kz := kp b34 Kz
  replace Kq := kp b34 Kq
  replace Ow := Ow.grown b34
  replace bsw : bs ≤ w34.heap.size := Nat.le_trans bsw b34.size
  replace bl := bl.trans (b34.mono bl.size)
  clear b34
  obtain ⟨cy0, zy0, cy1, zy1, ney⟩ := b2z Ky
  obtain ⟨cz0, zz0, cz1, zz1, nez⟩ := b2z Kz
  obtain ⟨cq0, cq1, cq2, cq3, cq4, cq5, cq6, cq7, neq⟩ := b8c Kq
  refine hK.out _ _ ⟨blk_cell Kq 0, blk_cell Kq 1, blk_cell Kq 2, blk_cell Kq 3, blk_cell Kq 4, blk_cell Kq 5, blk_cell Kq 6, blk_cell Kq 7⟩ (fun hHeld => ?_)
  clear hK K
  refine wpAnyH_ready (rs := [15]) (by kernel_rfl) (by simp) ?_
  refine AllReadyH.cons (o := ⟨_, _, _, _, _, _⟩) rfl (fun K hK => ?_) (AllReadyH.nil)
  refine app_qop (.tmp 126) (.tmp 140) rfl rfl Ow w33.heap.size 1 1 [((getF f bit, setF f bit a) : RQ)] rfl rfl HQ (by simp) bsw ?_
  intro v18 x18 hO hb
  clear cy0 cy1 zy0 zy1 cz0 cz1 zz0 zz1 ney nez cq0 cq1 cq2 cq3 cq4 cq5 cq6 cq7 neq
  replace Ky := (hb.block _ (by first | exact lty | omega)).trans Ky
  replace Kz := (hb.block _ (by first | exact ltz | omega)).trans Kz
  replace Kq := (hb.block _ (by first | exact ltq | omega)).trans Kq
  replace bl := bl.trans (hb.mono (by omega))
  replace bsw := Nat.le_trans bsw hb.size
  clear Ow hb HQ
  have Ow := hO
  clear hO
  obtain ⟨cy0, zy0, cy1, zy1, ney⟩ := b2z Ky
  obtain ⟨cz0, zz0, cz1, zz1, nez⟩ := b2z Kz
  obtain ⟨cq0, cq1, cq2, cq3, cq4, cq5, cq6, cq7, neq⟩ := b8c Kq
  refine hK.out _ _ ⟨blk_cell Kq 0, blk_cell Kq 1, blk_cell Kq 2, blk_cell Kq 3, blk_cell Kq 4, blk_cell Kq 5, blk_cell Kq 6, blk_cell Kq 7⟩ (fun hHeld => ?_)
  clear hK K
  refine tk 16 (v := ?_) rfl ?_ ?_; rotate_left; (focus (intro w hSw; (try dsimp only at hSw); go_simp; with_reducible rfl)); simp only [Act.put, tA, tB, tC]
  refine wpAnyH_done (by kernel_rfl) (NoPanic.normal ?_) _
  go_upto_region 19 with fail
  refine wp_region_noPanic ?_
  refine wp_region_held_drew (S := (fun w' => w'.cell? ⟨(w.heap.size), 0, none⟩ = some (.int .u8 f.p) ∧ w'.cell? ⟨(w.heap.size), 1, none⟩ = some (.int .u8 f.s) ∧ w'.cell? ⟨(w.heap.size), 2, none⟩ = some (.int .u8 a.v) ∧ w'.cell? ⟨(w.heap.size), 3, none⟩ = some (.bool a.s) ∧ w'.cell? ⟨(w.heap.size), 4, none⟩ = some (.int .u8 m.v) ∧ w'.cell? ⟨(w.heap.size), 5, none⟩ = some (.bool m.s) ∧ w'.cell? ⟨(w.heap.size), 6, none⟩ = some (.int .u8 bit) ∧ w'.cell? ⟨(w.heap.size), 7, none⟩ = some (.bool brk))) (by kernel_rfl) ⟨blk_cell Kq 0, blk_cell Kq 1, blk_cell Kq 2, blk_cell Kq 3, blk_cell Kq 4, blk_cell Kq 5, blk_cell Kq 6, blk_cell Kq 7⟩ (fun hHeld => ?_)
  refine tk 0 (v := ?_) rfl ?_ ?_; rotate_left; (focus (intro w hSw; (try dsimp only at hSw); go_simp; with_reducible rfl)); simp only [Act.put, tA, tB, tC]
  refine tk 1 (v := ?_) rfl ?_ ?_; rotate_left; (focus (intro w hSw; (try dsimp only at hSw); go_simp; with_reducible rfl)); simp only [Act.put, tA, tB, tC]
  refine tk 2 (v := ?_) rfl ?_ ?_; rotate_left; (focus (intro w hSw; (try dsimp only at hSw); go_simp; with_reducible rfl)); simp only [Act.put, tA, tB, tC]
  refine tk 3 (v := ?_) rfl ?_ ?_; rotate_left; (focus (intro w hSw; (try dsimp only at hSw); go_simp; with_reducible rfl)); simp only [Act.put, tA, tB, tC]
  refine tk 4 (v := ?_) rfl ?_ ?_; rotate_left; (focus (intro w hSw; (try dsimp only at hSw); go_simp; with_reducible rfl)); simp only [Act.put, tA, tB, tC]
  refine tk 6 (v := ?_) rfl ?_ ?_; rotate_left; (focus (intro w hSw; (try dsimp only at hSw); go_simp; with_reducible rfl)); simp only [Act.put, tA, tB, tC]
  refine tk 7 (v := ?_) rfl ?_ ?_; rotate_left; (focus (intro w hSw; (try dsimp only at hSw); go_simp; with_reducible rfl)); simp only [Act.put, tA, tB, tC]
  refine wpAnyH_ready (rs := [5]) (by kernel_rfl) (by simp) ?_
  refine AllReadyH.cons (o := ⟨_, _, _, _, _, _⟩) rfl (fun K hK => ?_) (AllReadyH.nil)
  go_simp
  refine (push_is f brk _).mono ?_
  rintro e w35 ⟨rfl, b35⟩
  replace b35 : Below x18.heap.size x18 w35 := (Below.refl _ _).drew.trans b35
  clear cy0 cy1 zy0 zy1 cz0 cz1 zz0 zz1 ney nez cq0 cq1 cq2 cq3 cq4 cq5 cq6 cq7 neq
  replace Ky := kp b35 Ky
  replace Kz := kp b35 Kz
  replace Kq := kp b35 Kq
  replace Ow := Ow.grown b35
  replace bsw : bs ≤ w35.heap.size := Nat.le_trans bsw b35.size
  replace bl := bl.trans (b35.mono bl.size)
  clear b35
  obtain ⟨cy0, zy0, cy1, zy1, ney⟩ := b2z Ky
  obtain ⟨cz0, zz0, cz1, zz1, nez⟩ := b2z Kz
  obtain ⟨cq0, cq1, cq2, cq3, cq4, cq5, cq6, cq7, neq⟩ := b8c Kq
  refine hK.out _ _ ⟨blk_cell Kq 0, blk_cell Kq 1, blk_cell Kq 2, blk_cell Kq 3, blk_cell Kq 4, blk_cell Kq 5, blk_cell Kq 6, blk_cell Kq 7⟩ (fun hHeld => ?_)
  clear hK K
  refine wpAnyH_ready (rs := [8]) (by kernel_rfl) (by simp) ?_
  refine AllReadyH.cons (o := ⟨_, _, _, _, _, _⟩) rfl (fun K hK => ?_) (AllReadyH.nil)
  go_simp
  refine (pull_is a _).mono ?_
  rintro e w36 ⟨rfl, b36⟩
  clear cy0 cy1 zy0 zy1 cz0 cz1 zz0 zz1 ney nez cq0 cq1 cq2 cq3 cq4 cq5 cq6 cq7 neq
  replace Ky := kp b36 Ky
  replace Kz := kp b36 Kz
  replace Kq := kp b36 Kq
  replace Ow := Ow.grown b36
  replace bsw : bs ≤ w36.heap.size := Nat.le_trans bsw b36.size
  replace bl := bl.trans (b36.mono bl.size)
  clear b36
  obtain ⟨cy0, zy0, cy1, zy1, ney⟩ := b2z Ky
  obtain ⟨cz0, zz0, cz1, zz1, nez⟩ := b2z Kz
  obtain ⟨cq0, cq1, cq2, cq3, cq4, cq5, cq6, cq7, neq⟩ := b8c Kq
  refine hK.out _ _ ⟨blk_cell Kq 0, blk_cell Kq 1, blk_cell Kq 2, blk_cell Kq 3, blk_cell Kq 4, blk_cell Kq 5, blk_cell Kq 6, blk_cell Kq 7⟩ (fun hHeld => ?_)
  clear hK K
  refine tk 9 (v := ?_) rfl ?_ ?_; rotate_left; (focus (intro w hSw; (try dsimp only at hSw); go_simp; with_reducible rfl)); simp only [Act.put, tA, tB, tC]
  refine wpAnyH_ready (rs := [10]) (by kernel_rfl) (by simp) ?_
  refine AllReadyH.cons (o := ⟨_, _, _, _, _, _⟩) rfl (fun K hK => ?_) (AllReadyH.nil)
  go_simp
  obtain ⟨w37, hw37⟩ : ∃ ww, ww = (w36.alloc (.cells #[.int .u8 (pushB f brk).v, .bool (pushB f brk).s, .int .u8 (pullF a).p, .int .u8 (pullF a).s] 46)) := ⟨_, rfl⟩
  rw [← hw37]
  have b37 : Below w36.heap.size w36 w37 := by rw [hw37]; (repeat first | exact .refl _ _ | exact (Below.refl _ _).drew | refine .drew ?_ | refine .alloc ?_ (by simp <;> omega) _)
  have HQ : ∀ j u, (cellsQ [((pushB f brk, pullF a) : RQ)])[j]? = some u → w37.cell? ⟨w36.heap.size, j, none⟩ = some u := by rw [hw37]; exact newQ
  clear hw37
  clear cy0 cy1 zy0 zy1 cz0 cz1 zz0 zz1 ney nez cq0 cq1 cq2 cq3 cq4 cq5 cq6 cq7 neq
  replace Ky := kp b37 Ky
  replace Kz := kp b37 Kz
  replace Kq := kp b37 Kq
  replace Ow := Ow.grown b37
  replace bsw : bs ≤ w37.heap.size := Nat.le_trans bsw b37.size
  replace bl := bl.trans (b37.mono bl.size)
  clear b37
  obtain ⟨cy0, zy0, cy1, zy1, ney⟩ := b2z Ky
  obtain ⟨cz0, zz0, cz1, zz1, nez⟩ := b2z Kz
  obtain ⟨cq0, cq1, cq2, cq3, cq4, cq5, cq6, cq7, neq⟩ := b8c Kq
  refine hK.out _ _ ⟨blk_cell Kq 0, blk_cell Kq 1, blk_cell Kq 2, blk_cell Kq 3, blk_cell Kq 4, blk_cell Kq 5, blk_cell Kq 6, blk_cell Kq 7⟩ (fun hHeld => ?_)
  clear hK K
  refine wpAnyH_ready (rs := [11]) (by kernel_rfl) (by simp) ?_
  refine AllReadyH.cons (o := ⟨_, _, _, _, _, _⟩) rfl (fun K hK => ?_) (AllReadyH.nil)
  refine app_qop (.tmp 142) (.tmp 152) rfl rfl Ow w36.heap.size 1 1 [((pushB f brk, pullF a) : RQ)] rfl rfl HQ (by simp) bsw ?_
  intro v19 x19 hO hb
  clear cy0 cy1 zy0 zy1 cz0 cz1 zz0 zz1 ney nez cq0 cq1 cq2 cq3 cq4 cq5 cq6 cq7 neq
  replace Ky := (hb.block _ (by first | exact lty | omega)).trans Ky
  replace Kz := (hb.block _ (by first | exact ltz | omega)).trans Kz
  replace Kq := (hb.block _ (by first | exact ltq | omega)).trans Kq
  replace bl := bl.trans (hb.mono (by omega))
  replace bsw := Nat.le_trans bsw hb.size
  clear Ow hb HQ
  have Ow := hO
  clear hO
  obtain ⟨cy0, zy0, cy1, zy1, ney⟩ := b2z Ky
  obtain ⟨cz0, zz0, cz1, zz1, nez⟩ := b2z Kz
  obtain ⟨cq0, cq1, cq2, cq3, cq4, cq5, cq6, cq7, neq⟩ := b8c Kq
  refine hK.out _ _ ⟨blk_cell Kq 0, blk_cell Kq 1, blk_cell Kq 2, blk_cell Kq 3, blk_cell Kq 4, blk_cell Kq 5, blk_cell Kq 6, blk_cell Kq 7⟩ (fun hHeld => ?_)
  clear hK K
  refine tk 12 (v := ?_) rfl ?_ ?_; rotate_left; (focus (intro w hSw; (try dsimp only at hSw); go_simp; with_reducible rfl)); simp only [Act.put, tA, tB, tC]
  refine wpAnyH_done (by kernel_rfl) (NoPanic.normal ?_) _
  go_upto_region 20 with fail
  refine wp_region_noPanic ?_
  refine wp_region_held_drew (S := (fun w' => w'.cell? ⟨(w.heap.size), 0, none⟩ = some (.int .u8 f.p) ∧ w'.cell? ⟨(w.heap.size), 1, none⟩ = some (.int .u8 f.s) ∧ w'.cell? ⟨(w.heap.size), 2, none⟩ = some (.int .u8 a.v) ∧ w'.cell? ⟨(w.heap.size), 3, none⟩ = some (.bool a.s) ∧ w'.cell? ⟨(w.heap.size), 4, none⟩ = some (.int .u8 m.v) ∧ w'.cell? ⟨(w.heap.size), 5, none⟩ = some (.bool m.s) ∧ w'.cell? ⟨(w.heap.size), 6, none⟩ = some (.int .u8 bit) ∧ w'.cell? ⟨(w.heap.size), 7, none⟩ = some (.bool brk))) (by kernel_rfl) ⟨blk_cell Kq 0, blk_cell Kq 1, blk_cell Kq 2, blk_cell Kq 3, blk_cell Kq 4, blk_cell Kq 5, blk_cell Kq 6, blk_cell Kq 7⟩ (fun hHeld => ?_)
  refine tk 0 (v := ?_) rfl ?_ ?_; rotate_left; (focus (intro w hSw; (try dsimp only at hSw); go_simp; with_reducible rfl)); simp only [Act.put, tA, tB, tC]
  refine tk 1 (v := ?_) rfl ?_ ?_; rotate_left; (focus (intro w hSw; (try dsimp only at hSw); go_simp; with_reducible rfl)); simp only [Act.put, tA, tB, tC]
  refine tk 2 (v := ?_) rfl ?_ ?_; rotate_left; (focus (intro w hSw; (try dsimp only at hSw); go_simp; with_reducible rfl)); simp only [Act.put, tA, tB, tC]
  refine tk 3 (v := ?_) rfl ?_ ?_; rotate_left; (focus (intro w hSw; (try dsimp only at hSw); go_simp; with_reducible rfl)); simp only [Act.put, tA, tB, tC]
  refine tk 4 (v := ?_) rfl ?_ ?_; rotate_left; (focus (intro w hSw; (try dsimp only at hSw); go_simp; with_reducible rfl)); simp only [Act.put, tA, tB, tC]
  refine tk 5 (v := ?_) rfl ?_ ?_; rotate_left; (focus (intro w hSw; (try dsimp only at hSw); go_simp; with_reducible rfl)); simp only [Act.put, tA, tB, tC]
  refine tk 6 (v := ?_) rfl ?_ ?_; rotate_left; (focus (intro w hSw; (try dsimp only at hSw); go_simp; with_reducible rfl)); simp only [Act.put, tA, tB, tC]
  refine tk 9 (v := ?_) rfl ?_ ?_; rotate_left; (focus (intro w hSw; (try dsimp only at hSw); go_simp; with_reducible rfl)); simp only [Act.put, tA, tB, tC]
  refine tk 10 (v := ?_) rfl ?_ ?_; rotate_left; (focus (intro w hSw; (try dsimp only at hSw); go_simp; with_reducible rfl)); simp only [Act.put, tA, tB, tC]
  refine tk 11 (v := ?_) rfl ?_ ?_; rotate_left; (focus (intro w hSw; (try dsimp only at hSw); go_simp; with_reducible rfl)); simp only [Act.put, tA, tB, tC]
  refine tk 12 (v := ?_) rfl ?_ ?_; rotate_left; (focus (intro w hSw; (try dsimp only at hSw); go_simp; with_reducible rfl)); simp only [Act.put, tA, tB, tC]
  refine tk 13 (v := ?_) rfl ?_ ?_; rotate_left; (focus (intro w hSw; (try dsimp only at hSw); go_simp; with_reducible rfl)); simp only [Act.put, tA, tB, tC]
  refine tk 14 (v := ?_) rfl ?_ ?_; rotate_left; (focus (intro w hSw; (try dsimp only at hSw); go_simp; with_reducible rfl)); simp only [Act.put, tA, tB, tC]
  refine tk 17 (v := ?_) rfl ?_ ?_; rotate_left; (focus (intro w hSw; (try dsimp only at hSw); go_simp; with_reducible rfl)); simp only [Act.put, tA, tB, tC]
  refine tk 18 (v := ?_) rfl ?_ ?_; rotate_left; (focus (intro w hSw; (try dsimp only at hSw); go_simp; with_reducible rfl)); simp only [Act.put, tA, tB, tC]
  refine tk 19 (v := ?_) rfl ?_ ?_; rotate_left; (focus (intro w hSw; (try dsimp only at hSw); go_simp; with_reducible rfl)); simp only [Act.put, tA, tB, tC]
  refine tk 20 (v := ?_) rfl ?_ ?_; rotate_left; (focus (intro w hSw; (try dsimp only at hSw); go_simp; with_reducible rfl)); simp only [Act.put, tA, tB, tC]
  refine wpAnyH_ready (rs := [7]) (by kernel_rfl) (by simp) ?_
  refine AllReadyH.cons (o := ⟨_, _, _, _, _, _⟩) rfl (fun K hK => ?_) (AllReadyH.nil)
  go_simp
  refine (cmp_is f a m _).mono ?_
  rintro e w38 ⟨rfl, b38⟩
  replace b38 : Below x19.heap.size x19 w38 := (Below.refl _ _).drew.trans b38
  clear cy0 cy1 zy0 zy1 cz0 cz1 zz0 zz1 ney nez cq0 cq1 cq2 cq3 cq4 cq5 cq6 cq7 neq
  replace Ky := kp b38 Ky
  replace Kz := kp b38 Kz
  replace Kq := kp b38 Kq
  replace Ow := Ow.grown b38
  replace bsw : bs ≤ w38.heap.size := Nat.le_trans bsw b38.size
  replace bl := bl.trans (b38.mono bl.size)
  clear b38
  obtain ⟨cy0, zy0, cy1, zy1, ney⟩ := b2z Ky
  obtain ⟨cz0, zz0, cz1, zz1, nez⟩ := b2z Kz
  obtain ⟨cq0, cq1, cq2, cq3, cq4, cq5, cq6, cq7, neq⟩ := b8c Kq
  refine hK.out _ _ ⟨blk_cell Kq 0, blk_cell Kq 1, blk_cell Kq 2, blk_cell Kq 3, blk_cell Kq 4, blk_cell Kq 5, blk_cell Kq 6, blk_cell Kq 7⟩ (fun hHeld => ?_)
  clear hK K
  refine tk 8 (v := ?_) rfl ?_ ?_; rotate_left; (focus (intro w hSw; (try dsimp only at hSw); go_simp; with_reducible rfl)); simp only [Act.put, tA, tB, tC]
  refine wpAnyH_ready (rs := [15]) (by kernel_rfl) (by simp) ?_
  refine AllReadyH.cons (o := ⟨_, _, _, _, _, _⟩) rfl (fun K hK => ?_) (AllReadyH.nil)
  go_simp
  refine (bit_is f a m _).mono ?_
  rintro e w39 ⟨rfl, b39⟩
  clear cy0 cy1 zy0 zy1 cz0 cz1 zz0 zz1 ney nez cq0 cq1 cq2 cq3 cq4 cq5 cq6 cq7 neq
  replace Ky := kp b39 Ky
  replace Kz := kp b39 Kz
  replace Kq := kp b39 Kq
  replace Ow := Ow.grown b39
  replace bsw : bs ≤ w39.heap.size := Nat.le_trans bsw b39.size
  replace bl := bl.trans (b39.mono bl.size)
  clear b39
  obtain ⟨cy0, zy0, cy1, zy1, ney⟩ := b2z Ky
  obtain ⟨cz0, zz0, cz1, zz1, nez⟩ := b2z Kz
  obtain ⟨cq0, cq1, cq2, cq3, cq4, cq5, cq6, cq7, neq⟩ := b8c Kq
  refine hK.out _ _ ⟨blk_cell Kq 0, blk_cell Kq 1, blk_cell Kq 2, blk_cell Kq 3, blk_cell Kq 4, blk_cell Kq 5, blk_cell Kq 6, blk_cell Kq 7⟩ (fun hHeld => ?_)
  clear hK K
  refine tk 16 (v := ?_) rfl ?_ ?_; rotate_left; (focus (intro w hSw; (try dsimp only at hSw); go_simp; with_reducible rfl)); simp only [Act.put, tA, tB, tC]
  refine wpAnyH_ready (rs := [21]) (by kernel_rfl) (by simp) ?_
  refine AllReadyH.cons (o := ⟨_, _, _, _, _, _⟩) rfl (fun K hK => ?_) (AllReadyH.nil)
  go_simp
  refine (nz_any f a _).mono ?_
  rintro e w40 ⟨rfl, b40⟩
  clear cy0 cy1 zy0 zy1 cz0 cz1 zz0 zz1 ney nez cq0 cq1 cq2 cq3 cq4 cq5 cq6 cq7 neq
  replace Ky := kp b40 Ky
  replace Kz := kp b40 Kz
  replace Kq := kp b40 Kq
  replace Ow := Ow.grown b40
  replace bsw : bs ≤ w40.heap.size := Nat.le_trans bsw b40.size
  replace bl := bl.trans (b40.mono bl.size)
  clear b40
  obtain ⟨cy0, zy0, cy1, zy1, ney⟩ := b2z Ky
  obtain ⟨cz0, zz0, cz1, zz1, nez⟩ := b2z Kz
  obtain ⟨cq0, cq1, cq2, cq3, cq4, cq5, cq6, cq7, neq⟩ := b8c Kq
  refine hK.out _ _ ⟨blk_cell Kq 0, blk_cell Kq 1, blk_cell Kq 2, blk_cell Kq 3, blk_cell Kq 4, blk_cell Kq 5, blk_cell Kq 6, blk_cell Kq 7⟩ (fun hHeld => ?_)
  clear hK K
  refine tk 22 (v := ?_) rfl ?_ ?_; rotate_left; (focus (intro w hSw; (try dsimp only at hSw); go_simp; with_reducible rfl)); simp only [Act.put, tA, tB, tC]
  refine wpAnyH_ready (rs := [23]) (by kernel_rfl) (by simp) ?_
  refine AllReadyH.cons (o := ⟨_, _, _, _, _, _⟩) rfl (fun K hK => ?_) (AllReadyH.nil)
  go_simp
  obtain ⟨w41, hw41⟩ : ∃ ww, ww = (w40.alloc (.cells #[.int .u8 0, .bool false, .int .u8 (sbxF f a m).p, .int .u8 (sbxF f a m).s, .int .u8 0, .bool false, .int .u8 (bitF f a m).p, .int .u8 (bitF f a m).s, .int .u8 0, .bool false, .int .u8 (nzF f a).p, .int .u8 (nzF f a).s] 46)) := ⟨_, rfl⟩
  rw [← hw41]
  have b41 : Below w40.heap.size w40 w41 := by rw [hw41]; (repeat first | exact .refl _ _ | exact (Below.refl _ _).drew | refine .drew ?_ | refine .alloc ?_ (by simp <;> omega) _)
  have HQ : ∀ j u, (cellsQ [((⟨0, false⟩, sbxF f a m) : RQ), ((⟨0, false⟩, bitF f a m) : RQ), ((⟨0, false⟩, nzF f a) : RQ)])[j]? = some u → w41.cell? ⟨w40.heap.size, j, none⟩ = some u := by rw [hw41]; exact newQ3
  clear hw41
  clear cy0 cy1 zy0 zy1 cz0 cz1 zz0 zz1 ney nez cq0 cq1 cq2 cq3 cq4 cq5 cq6 cq7 neq
  replace Ky := kp b41 Ky
  replace Kz := kp b41 Kz
  replace Kq := kp b41 Kq
  replace Ow := Ow.grown b41
  replace bsw : bs ≤ w41.heap.size := Nat.le_trans bsw b41.size
  replace bl := bl.trans (b41.mono bl.size)
  clear b41
  obtain ⟨cy0, zy0, cy1, zy1, ney⟩ := b2z Ky
  obtain ⟨cz0, zz0, cz1, zz1, nez⟩ := b2z Kz
  obtain ⟨cq0, cq1, cq2, cq3, cq4, cq5, cq6, cq7, neq⟩ := b8c Kq
  refine hK.out _ _ ⟨blk_cell Kq 0, blk_cell Kq 1, blk_cell Kq 2, blk_cell Kq 3, blk_cell Kq 4, blk_cell Kq 5, blk_cell Kq 6, blk_cell Kq 7⟩ (fun hHeld => ?_)
  clear hK K
  refine wpAnyH_ready (rs := [24]) (by kernel_rfl) (by simp) ?_
  refine AllReadyH.cons (o := ⟨_, _, _, _, _, _⟩) rfl (fun K hK => ?_) (AllReadyH.nil)
  refine app_qop (.tmp 154) (.tmp 177) rfl rfl Ow w40.heap.size 3 3 [((⟨0, false⟩, sbxF f a m) : RQ), ((⟨0, false⟩, bitF f a m) : RQ), ((⟨0, false⟩, nzF f a) : RQ)] rfl rfl HQ (by simp) bsw ?_
  intro v20 x20 hO hb
  clear cy0 cy1 zy0 zy1 cz0 cz1 zz0 zz1 ney nez cq0 cq1 cq2 cq3 cq4 cq5 cq6 cq7 neq
  replace Ky := (hb.block _ (by first | exact lty | omega)).trans Ky
  replace Kz := (hb.block _ (by first | exact ltz | omega)).trans Kz
  replace Kq := (hb.block _ (by first | exact ltq | omega)).trans Kq
  replace bl := bl.trans (hb.mono (by omega))
  replace bsw := Nat.le_trans bsw hb.size
  clear Ow hb HQ
  have Ow := hO
  clear hO
  obtain ⟨cy0, zy0, cy1, zy1, ney⟩ := b2z Ky
  obtain ⟨cz0, zz0, cz1, zz1, nez⟩ := b2z Kz
  obtain ⟨cq0, cq1, cq2, cq3, cq4, cq5, cq6, cq7, neq⟩ := b8c Kq
  refine hK.out _ _ ⟨blk_cell Kq 0, blk_cell Kq 1, blk_cell Kq 2, blk_cell Kq 3, blk_cell Kq 4, blk_cell Kq 5, blk_cell Kq 6, blk_cell Kq 7⟩ (fun hHeld => ?_)
  clear hK K
  refine tk 25 (v := ?_) rfl ?_ ?_; rotate_left; (focus (intro w hSw; (try dsimp only at hSw); go_simp; with_reducible rfl)); simp only [Act.put, tA, tB, tC]
  refine wpAnyH_done (by kernel_rfl) (NoPanic.normal ?_) _
  go_wp2_with fail
  go_ret
  exact ⟨_, rfl, Ow.mono (by omega), bl⟩
end Go.Proofs.Ytdgjenlejalgeaa
