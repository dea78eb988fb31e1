import Derived.Test.YtdgjenlejalgeaaBl10
namespace Go.Proofs.Ytdgjenlejalgeaa
open Go.RowKit Go.Sx
set_option maxRecDepth 100000 in
set_option maxHeartbeats 12800000 in
theorem aalike_law (p s av mv bit qa qm qp : Int) (ta tm brk : Bool) (p0 : 0 ≤ p) (p1 : p ≤ 255) (s0 : 0 ≤ s) (s1 : s ≤ 255) (w : World) : Calls Try.prog 7 #[.agg #[.int .u8 p, .int .u8 s, .int .u8 av, .bool ta, .int .u8 mv, .bool tm, .int .u8 bit, .bool brk, .int .u8 qa, .int .u8 qm, .int .u8 qp]] w fun e w' => e = .returned (.bool true) ∧ Below w.heap.size w w' := by
  obtain ⟨F, hF⟩ : ∃ F, F = clF ⟨p, s⟩ := ⟨_, rfl⟩
  have HF := hidI hF; clear hF
  go_enter Try.func7, Try.ntmps7
  go_upto_region 1 with fail
  obtain ⟨w0, hw0⟩ : ∃ ww, ww = (w.alloc (.cells #[.int .u8 p, .int .u8 s, .int .u8 av, .bool ta, .int .u8 mv, .bool tm, .int .u8 bit, .bool brk, .int .u8 qa, .int .u8 qm, .int .u8 qp] 41)) := ⟨_, rfl⟩
  rw [← hw0]
  have Kx : w0.heap[w.heap.size]? = some (.cells #[.int .u8 p, .int .u8 s, .int .u8 av, .bool ta, .int .u8 mv, .bool tm, .int .u8 bit, .bool brk, .int .u8 qa, .int .u8 qm, .int .u8 qp] 41 (0, 0)) := by rw [hw0]; exact blk_new' _ (by simp)
  have bl : Below w.heap.size w w0 := by rw [hw0]; (repeat first | exact .refl _ _ | exact (Below.refl _ _).drew | refine .drew ?_ | refine .alloc ?_ (by simp <;> omega) _)
  clear hw0
  obtain ⟨cx0, cx1, cx2, cx3, cx4, cx5, cx6, cx7, cx8, cx9, cx10, nex⟩ := b11c Kx
  refine wp_region_noPanic ?_
  refine wp_region_held_drew (S := (fun w' => w'.cell? ⟨(w.heap.size), 0, none⟩ = some (.int .u8 p) ∧ w'.cell? ⟨(w.heap.size), 1, none⟩ = some (.int .u8 s) ∧ w'.cell? ⟨(w.heap.size), 2, none⟩ = some (.int .u8 av) ∧ w'.cell? ⟨(w.heap.size), 3, none⟩ = some (.bool ta) ∧ w'.cell? ⟨(w.heap.size), 4, none⟩ = some (.int .u8 mv) ∧ w'.cell? ⟨(w.heap.size), 5, none⟩ = some (.bool tm) ∧ w'.cell? ⟨(w.heap.size), 6, none⟩ = some (.int .u8 bit) ∧ w'.cell? ⟨(w.heap.size), 7, none⟩ = some (.bool brk) ∧ w'.cell? ⟨(w.heap.size), 8, none⟩ = some (.int .u8 qa) ∧ w'.cell? ⟨(w.heap.size), 9, none⟩ = some (.int .u8 qm) ∧ w'.cell? ⟨(w.heap.size), 10, none⟩ = some (.int .u8 qp))) (by kernel_rfl) ⟨blk_cell Kx 0, blk_cell Kx 1, blk_cell Kx 2, blk_cell Kx 3, blk_cell Kx 4, blk_cell Kx 5, blk_cell Kx 6, blk_cell Kx 7, blk_cell Kx 8, blk_cell Kx 9, blk_cell Kx 10⟩ (fun hHeld => ?_)
  refine tk 0 (v := ?_) rfl ?_ ?_; rotate_left; (focus (intro w hSw; (try dsimp only at hSw); go_simp; with_reducible rfl)); simp only [Act.put, tA, tB, tC]
  refine tk 1 (v := ?_) rfl ?_ ?_; rotate_left; (focus (intro w hSw; (try dsimp only at hSw); go_simp; with_reducible rfl)); simp only [Act.put, tA, tB, tC]
  refine tk 2 (v := ?_) rfl ?_ ?_; rotate_left; (focus (intro w hSw; (try dsimp only at hSw); go_simp; with_reducible rfl)); simp only [Act.put, tA, tB, tC]
  refine tk 3 (v := ?_) rfl ?_ ?_; rotate_left; (focus (intro w hSw; (try dsimp only at hSw); go_simp; with_reducible rfl)); simp only [Act.put, tA, tB, tC]
  refine tk 4 (v := ?_) rfl ?_ ?_; rotate_left; (focus (intro w hSw; (try dsimp only at hSw); go_simp; with_reducible rfl)); simp only [Act.put, tA, tB, tC]
  refine tk 5 (v := ?_) rfl ?_ ?_; rotate_left; (focus (intro w hSw; (try dsimp only at hSw); go_simp; with_reducible rfl)); simp only [Act.put, tA, tB, tC]
  refine tk 6 (v := ?_) rfl ?_ ?_; rotate_left; (focus (intro w hSw; (try dsimp only at hSw); go_simp; with_reducible rfl)); simp only [Act.put, tA, tB, tC]
  refine tk 7 (v := ?_) rfl ?_ ?_; rotate_left; (focus (intro w hSw; (try dsimp only at hSw); go_simp; with_reducible rfl)); simp only [Act.put, tA, tB, tC]
  refine wpAnyH_ready (rs := [8]) (by kernel_rfl) (by simp) ?_
  refine AllReadyH.cons (o := ⟨_, _, _, _, _, _⟩) rfl (fun K hK => ?_) (AllReadyH.nil)
  go_simp
  have l3 : w.heap.size ≤ w0.heap.size := bl.size
  have qx3 : (w.heap.size) ≠ w0.heap.size := by have := blk_lt Kx; omega
  have q3x := qx3.symm
  obtain ⟨w1, hw1⟩ : ∃ ww, ww = (w0.alloc (.cells #[.int .u8 0, .int .u8 0, .int .u8 0, .bool false, .int .u8 0, .bool false, .int .u8 0, .bool false] 27)).drew := ⟨_, rfl⟩
  rw [← hw1]
  have b1 : Below w0.heap.size w0 w1 := by rw [hw1]; (repeat first | exact .refl _ _ | exact (Below.refl _ _).drew | refine .drew ?_ | refine .alloc ?_ (by simp <;> omega) _)
  have K3 : w1.heap[w0.heap.size]? = some (.cells #[.int .u8 0, .int .u8 0, .int .u8 0, .bool false, .int .u8 0, .bool false, .int .u8 0, .bool false] 27 (0, 0)) := by rw [hw1]; exact (drew_heap _ _).trans (blk_new _ _)
  clear hw1
  clear cx0 cx1 cx2 cx3 cx4 cx5 cx6 cx7 cx8 cx9 cx10 nex
  replace Kx := kp b1 Kx
  replace bl := bl.trans (b1.mono bl.size)
  clear b1
  obtain ⟨cx0, cx1, cx2, cx3, cx4, cx5, cx6, cx7, cx8, cx9, cx10, nex⟩ := b11c Kx
  obtain ⟨c30, z30, c31, z31, c32, z32, c33, z33, c34, z34, c35, z35, c36, z36, c37, z37, ne3⟩ := b8z K3
  refine hK.out _ _ ⟨blk_cell Kx 0, blk_cell Kx 1, blk_cell Kx 2, blk_cell Kx 3, blk_cell Kx 4, blk_cell Kx 5, blk_cell Kx 6, blk_cell Kx 7, blk_cell Kx 8, blk_cell Kx 9, blk_cell Kx 10⟩ (fun hHeld => ?_)
  clear hK K
  refine wpAnyH_ready (rs := [9]) (by kernel_rfl) (by simp) ?_
  refine AllReadyH.cons (o := ⟨_, _, _, _, _, _⟩) rfl (fun K hK => ?_) (AllReadyH.nil)
  go_simp
  clear cx0 cx1 cx2 cx3 cx4 cx5 cx6 cx7 cx8 cx9 cx10 c30 c31 c32 c33 c34 c35 c36 c37 nex ne3 z30 z31 z32 z33 z34 z35 z36 z37
  obtain ⟨w2, hw2⟩ : ∃ ww, ww = ((((((((w1.setCell ⟨w0.heap.size, 0, none⟩ (.int .u8 p)).setCell ⟨w0.heap.size, 1, none⟩ (.int .u8 s)).setCell ⟨w0.heap.size, 2, none⟩ (.int .u8 av)).setCell ⟨w0.heap.size, 3, none⟩ (.bool ta)).setCell ⟨w0.heap.size, 4, none⟩ (.int .u8 mv)).setCell ⟨w0.heap.size, 5, none⟩ (.bool tm)).setCell ⟨w0.heap.size, 6, none⟩ (.int .u8 bit)).setCell ⟨w0.heap.size, 7, none⟩ (.bool brk)) := ⟨_, rfl⟩
  rw [← hw2]
  have nnx : w0.heap.size ≠ (w.heap.size) := by first | omega | (have := blk_lt Kx; have := blk_lt K3; have := bl.size; omega)
  replace Kx : w2.heap[(w.heap.size)]? = some (.cells #[.int .u8 p, .int .u8 s, .int .u8 av, .bool ta, .int .u8 mv, .bool tm, .int .u8 bit, .bool brk, .int .u8 qa, .int .u8 qm, .int .u8 qp] 41 (0, 0)) := by rw [hw2]; exact ((blk_other (by exact nnx) _).trans ((blk_other (by exact nnx) _).trans ((blk_other (by exact nnx) _).trans ((blk_other (by exact nnx) _).trans ((blk_other (by exact nnx) _).trans ((blk_other (by exact nnx) _).trans ((blk_other (by exact nnx) _).trans ((blk_other (by exact nnx) _).trans Kx))))))))
  clear nnx
  replace K3 : w2.heap[w0.heap.size]? = some (.cells #[.int .u8 p, .int .u8 s, .int .u8 av, .bool ta, .int .u8 mv, .bool tm, .int .u8 bit, .bool brk] 27 (0, 0)) := by rw [hw2]; exact (by have := (blk_set (blk_set (blk_set (blk_set (blk_set (blk_set (blk_set (blk_set K3 0 (.int .u8 p)) 1 (.int .u8 s)) 2 (.int .u8 av)) 3 (.bool ta)) 4 (.int .u8 mv)) 5 (.bool tm)) 6 (.int .u8 bit)) 7 (.bool brk)); simpa using this)
  replace bl : Below w.heap.size w w2 := by rw [hw2]; exact ((((((((bl.setCell (p := ⟨w0.heap.size, 0, none⟩) (by show w.heap.size ≤ w0.heap.size; omega) _).setCell (p := ⟨w0.heap.size, 1, none⟩) (by show w.heap.size ≤ w0.heap.size; omega) _).setCell (p := ⟨w0.heap.size, 2, none⟩) (by show w.heap.size ≤ w0.heap.size; omega) _).setCell (p := ⟨w0.heap.size, 3, none⟩) (by show w.heap.size ≤ w0.heap.size; omega) _).setCell (p := ⟨w0.heap.size, 4, none⟩) (by show w.heap.size ≤ w0.heap.size; omega) _).setCell (p := ⟨w0.heap.size, 5, none⟩) (by show w.heap.size ≤ w0.heap.size; omega) _).setCell (p := ⟨w0.heap.size, 6, none⟩) (by show w.heap.size ≤ w0.heap.size; omega) _).setCell (p := ⟨w0.heap.size, 7, none⟩) (by show w.heap.size ≤ w0.heap.size; omega) _)
  clear hw2
  obtain ⟨cx0, cx1, cx2, cx3, cx4, cx5, cx6, cx7, cx8, cx9, cx10, nex⟩ := b11c Kx
  obtain ⟨c30, z30, c31, z31, c32, z32, c33, z33, c34, z34, c35, z35, c36, z36, c37, z37, ne3⟩ := b8z K3
  refine hK.out _ _ ⟨blk_cell Kx 0, blk_cell Kx 1, blk_cell Kx 2, blk_cell Kx 3, blk_cell Kx 4, blk_cell Kx 5, blk_cell Kx 6, blk_cell Kx 7, blk_cell Kx 8, blk_cell Kx 9, blk_cell Kx 10⟩ (fun hHeld => ?_)
  clear hK K
  refine tk 10 (v := ?_) rfl ?_ ?_; rotate_left; (focus (intro w hSw; (try dsimp only at hSw); go_simp; with_reducible rfl)); simp only [Act.put, tA, tB, tC]
  refine tk 11 (v := ?_) rfl ?_ ?_; rotate_left; (focus (intro w hSw; (try dsimp only at hSw); go_simp; with_reducible rfl)); simp only [Act.put, tA, tB, tC]
  refine tk 12 (v := ?_) rfl ?_ ?_; rotate_left; (focus (intro w hSw; (try dsimp only at hSw); go_simp; with_reducible rfl)); simp only [Act.put, tA, tB, tC]
  refine wpAnyH_done (by kernel_rfl) (NoPanic.normal ?_) _
  go_wp2_with fail
  refine (rcheck_any ⟨p, s⟩ p0 p1 s0 s1 _).mono ?_
  rw [← HF.out]
  rintro e w3 ⟨rfl, b3⟩
  clear cx0 cx1 cx2 cx3 cx4 cx5 cx6 cx7 cx8 cx9 cx10 c30 c31 c32 c33 c34 c35 c36 c37 nex ne3 z30 z31 z32 z33 z34 z35 z36 z37
  replace Kx := kp b3 Kx
  replace K3 := kp b3 K3
  replace bl := bl.trans (b3.mono bl.size)
  clear b3
  obtain ⟨cx0, cx1, cx2, cx3, cx4, cx5, cx6, cx7, cx8, cx9, cx10, nex⟩ := b11c Kx
  obtain ⟨c30, z30, c31, z31, c32, z32, c33, z33, c34, z34, c35, z35, c36, z36, c37, z37, ne3⟩ := b8z K3
  go_upto_region 3 with fail
  clear cx0 cx1 cx2 cx3 cx4 cx5 cx6 cx7 cx8 cx9 cx10 c30 c31 c32 c33 c34 c35 c36 c37 nex ne3 z30 z31 z32 z33 z34 z35 z36 z37
  obtain ⟨w4, hw4⟩ : ∃ ww, ww = ((w3.setCell ⟨w0.heap.size, 0, none⟩ (.int .u8 F.p)).setCell ⟨w0.heap.size, 1, none⟩ (.int .u8 F.s)) := ⟨_, rfl⟩
  rw [← hw4]
  have nnx : w0.heap.size ≠ (w.heap.size) := by first | omega | (have := blk_lt Kx; have := blk_lt K3; have := bl.size; omega)
  replace Kx : w4.heap[(w.heap.size)]? = some (.cells #[.int .u8 p, .int .u8 s, .int .u8 av, .bool ta, .int .u8 mv, .bool tm, .int .u8 bit, .bool brk, .int .u8 qa, .int .u8 qm, .int .u8 qp] 41 (0, 0)) := by rw [hw4]; exact ((blk_other (by exact nnx) _).trans ((blk_other (by exact nnx) _).trans Kx))
  clear nnx
  replace K3 : w4.heap[w0.heap.size]? = some (.cells #[.int .u8 F.p, .int .u8 F.s, .int .u8 av, .bool ta, .int .u8 mv, .bool tm, .int .u8 bit, .bool brk] 27 (0, 0)) := by rw [hw4]; exact (by have := (blk_set (blk_set K3 0 (.int .u8 F.p)) 1 (.int .u8 F.s)); simpa using this)
  replace bl : Below w.heap.size w w4 := by rw [hw4]; exact ((bl.setCell (p := ⟨w0.heap.size, 0, none⟩) (by show w.heap.size ≤ w0.heap.size; omega) _).setCell (p := ⟨w0.heap.size, 1, none⟩) (by show w.heap.size ≤ w0.heap.size; omega) _)
  clear hw4
  obtain ⟨cx0, cx1, cx2, cx3, cx4, cx5, cx6, cx7, cx8, cx9, cx10, nex⟩ := b11c Kx
  obtain ⟨c30, z30, c31, z31, c32, z32, c33, z33, c34, z34, c35, z35, c36, z36, c37, z37, ne3⟩ := b8z K3
  go_upto_region 4 with fail
  have l7 : w.heap.size ≤ w4.heap.size := bl.size
  have qx7 : (w.heap.size) ≠ w4.heap.size := by have := blk_lt Kx; omega
  have q7x := qx7.symm
  have q37 : w0.heap.size ≠ w4.heap.size := by have := blk_lt K3; omega
  have q73 := q37.symm
  obtain ⟨w5, hw5⟩ : ∃ ww, ww = (w4.alloc (.cells #[.int .u8 F.p, .int .u8 F.s, .int .u8 av, .bool ta, .int .u8 mv, .bool tm, .int .u8 bit, .bool brk] 27)) := ⟨_, rfl⟩
  rw [← hw5]
  have b5 : Below w4.heap.size w4 w5 := by rw [hw5]; (repeat first | exact .refl _ _ | exact (Below.refl _ _).drew | refine .drew ?_ | refine .alloc ?_ (by simp <;> omega) _)
  have K7 : w5.heap[w4.heap.size]? = some (.cells #[.int .u8 F.p, .int .u8 F.s, .int .u8 av, .bool ta, .int .u8 mv, .bool tm, .int .u8 bit, .bool brk] 27 (0, 0)) := by rw [hw5]; exact blk_new _ _
  clear hw5
  clear cx0 cx1 cx2 cx3 cx4 cx5 cx6 cx7 cx8 cx9 cx10 c30 c31 c32 c33 c34 c35 c36 c37 nex ne3 z30 z31 z32 z33 z34 z35 z36 z37
  replace Kx := kp b5 Kx
  replace K3 := kp b5 K3
  replace bl := bl.trans (b5.mono bl.size)
  clear b5
  obtain ⟨cx0, cx1, cx2, cx3, cx4, cx5, cx6, cx7, cx8, cx9, cx10, nex⟩ := b11c Kx
  obtain ⟨c30, z30, c31, z31, c32, z32, c33, z33, c34, z34, c35, z35, c36, z36, c37, z37, ne3⟩ := b8z K3
  obtain ⟨c70, z70, c71, z71, c72, z72, c73, z73, c74, z74, c75, z75, c76, z76, c77, z77, ne7⟩ := b8z K7
  go_upto_if 26 with fail
  go_cut [] (fun wx => wx.heap[(w.heap.size)]? = some (.cells #[.int .u8 p, .int .u8 s, .int .u8 av, .bool ta, .int .u8 mv, .bool tm, .int .u8 bit, .bool brk, .int .u8 qa, .int .u8 qm, .int .u8 qp] 41 (0, 0)) ∧ wx.heap[w0.heap.size]? = some (.cells #[.int .u8 F.p, .int .u8 F.s, .int .u8 av, .bool ta, .int .u8 mv, .bool tm, .int .u8 bit, .bool brk] 27 (0, 0)) ∧ wx.heap[w4.heap.size]? = some (.cells #[.int .u8 F.p, .int .u8 F.s, .int .u8 (if ta = true then qa else av), .bool ta, .int .u8 mv, .bool tm, .int .u8 bit, .bool brk] 27 (0, 0)) ∧ Below w.heap.size w wx)
  case first =>
    cases ta
    · go_wp2_with fail
      go_meet
      exact ⟨Kx, K3, K7, bl⟩
    · go_wp2_with fail
      clear cx0 cx1 cx2 cx3 cx4 cx5 cx6 cx7 cx8 cx9 cx10 c30 c31 c32 c33 c34 c35 c36 c37 c70 c71 c72 c73 c74 c75 c76 c77 nex ne3 ne7 z30 z31 z32 z33 z34 z35 z36 z37 z70 z71 z72 z73 z74 z75 z76 z77
      obtain ⟨w6, hw6⟩ : ∃ ww, ww = (w5.setCell ⟨w4.heap.size, 2, none⟩ (.int .u8 qa)) := ⟨_, rfl⟩
      rw [← hw6]
      have nnx : w4.heap.size ≠ (w.heap.size) := by first | omega | (have := blk_lt Kx; have := blk_lt K7; have := bl.size; omega)
      replace Kx : w6.heap[(w.heap.size)]? = some (.cells #[.int .u8 p, .int .u8 s, .int .u8 av, .bool true, .int .u8 mv, .bool tm, .int .u8 bit, .bool brk, .int .u8 qa, .int .u8 qm, .int .u8 qp] 41 (0, 0)) := by rw [hw6]; exact ((blk_other (by exact nnx) _).trans Kx)
      clear nnx
      have nn3 : w4.heap.size ≠ w0.heap.size := by first | omega | (have := blk_lt K3; have := blk_lt K7; have := bl.size; omega)
      replace K3 : w6.heap[w0.heap.size]? = some (.cells #[.int .u8 F.p, .int .u8 F.s, .int .u8 av, .bool true, .int .u8 mv, .bool tm, .int .u8 bit, .bool brk] 27 (0, 0)) := by rw [hw6]; exact ((blk_other (by exact nn3) _).trans K3)
      clear nn3
      replace K7 : w6.heap[w4.heap.size]? = some (.cells #[.int .u8 F.p, .int .u8 F.s, .int .u8 qa, .bool true, .int .u8 mv, .bool tm, .int .u8 bit, .bool brk] 27 (0, 0)) := by rw [hw6]; exact (by have := (blk_set K7 2 (.int .u8 qa)); simpa using this)
      replace bl : Below w.heap.size w w6 := by rw [hw6]; exact (bl.setCell (p := ⟨w4.heap.size, 2, none⟩) (by show w.heap.size ≤ w4.heap.size; omega) _)
      clear hw6
      obtain ⟨cx0, cx1, cx2, cx3, cx4, cx5, cx6, cx7, cx8, cx9, cx10, nex⟩ := b11c Kx
      obtain ⟨c30, z30, c31, z31, c32, z32, c33, z33, c34, z34, c35, z35, c36, z36, c37, z37, ne3⟩ := b8z K3
      obtain ⟨c70, z70, c71, z71, c72, z72, c73, z73, c74, z74, c75, z75, c76, z76, c77, z77, ne7⟩ := b8z K7
      go_meet
      exact ⟨Kx, K3, K7, bl⟩
  case rest =>
  clear cx0 cx1 cx2 cx3 cx4 cx5 cx6 cx7 cx8 cx9 cx10 c30 c31 c32 c33 c34 c35 c36 c37 c70 c71 c72 c73 c74 c75 c76 c77 nex ne3 ne7 z30 z31 z32 z33 z34 z35 z36 z37 z70 z71 z72 z73 z74 z75 z76 z77
  clear Kx K3 K7 bl
  obtain ⟨Kx, K3, K7, bl⟩ := hcut
  obtain ⟨u26, rfl⟩ : ∃ ww, ww = wc := ⟨_, rfl⟩
  obtain ⟨cx0, cx1, cx2, cx3, cx4, cx5, cx6, cx7, cx8, cx9, cx10, nex⟩ := b11c Kx
  obtain ⟨c30, z30, c31, z31, c32, z32, c33, z33, c34, z34, c35, z35, c36, z36, c37, z37, ne3⟩ := b8z K3
  obtain ⟨c70, z70, c71, z71, c72, z72, c73, z73, c74, z74, c75, z75, c76, z76, c77, z77, ne7⟩ := b8z K7
  go_upto_if 32 with fail
  go_cut [] (fun wx => wx.heap[(w.heap.size)]? = some (.cells #[.int .u8 p, .int .u8 s, .int .u8 av, .bool ta, .int .u8 mv, .bool tm, .int .u8 bit, .bool brk, .int .u8 qa, .int .u8 qm, .int .u8 qp] 41 (0, 0)) ∧ wx.heap[w0.heap.size]? = some (.cells #[.int .u8 F.p, .int .u8 F.s, .int .u8 av, .bool ta, .int .u8 mv, .bool tm, .int .u8 bit, .bool brk] 27 (0, 0)) ∧ wx.heap[w4.heap.size]? = some (.cells #[.int .u8 F.p, .int .u8 F.s, .int .u8 (if ta = true then qa else av), .bool ta, .int .u8 (if tm = true then qm else mv), .bool tm, .int .u8 bit, .bool brk] 27 (0, 0)) ∧ Below w.heap.size w wx)
  case first =>
    cases tm
    · go_wp2_with fail
      go_meet
      exact ⟨Kx, K3, K7, bl⟩
    · go_wp2_with fail
      clear cx0 cx1 cx2 cx3 cx4 cx5 cx6 cx7 cx8 cx9 cx10 c30 c31 c32 c33 c34 c35 c36 c37 c70 c71 c72 c73 c74 c75 c76 c77 nex ne3 ne7 z30 z31 z32 z33 z34 z35 z36 z37 z70 z71 z72 z73 z74 z75 z76 z77
      obtain ⟨w6, hw6⟩ : ∃ ww, ww = (u26.setCell ⟨w4.heap.size, 4, none⟩ (.int .u8 qm)) := ⟨_, rfl⟩
      rw [← hw6]
      have nnx : w4.heap.size ≠ (w.heap.size) := by first | omega | (have := blk_lt Kx; have := blk_lt K7; have := bl.size; omega)
      replace Kx : w6.heap[(w.heap.size)]? = some (.cells #[.int .u8 p, .int .u8 s, .int .u8 av, .bool ta, .int .u8 mv, .bool true, .int .u8 bit, .bool brk, .int .u8 qa, .int .u8 qm, .int .u8 qp] 41 (0, 0)) := by rw [hw6]; exact ((blk_other (by exact nnx) _).trans Kx)
      clear nnx
      have nn3 : w4.heap.size ≠ w0.heap.size := by first | omega | (have := blk_lt K3; have := blk_lt K7; have := bl.size; omega)
      replace K3 : w6.heap[w0.heap.size]? = some (.cells #[.int .u8 F.p, .int .u8 F.s, .int .u8 av, .bool ta, .int .u8 mv, .bool true, .int .u8 bit, .bool brk] 27 (0, 0)) := by rw [hw6]; exact ((blk_other (by exact nn3) _).trans K3)
      clear nn3
      replace K7 : w6.heap[w4.heap.size]? = some (.cells #[.int .u8 F.p, .int .u8 F.s, .int .u8 (if ta = true then qa else av), .bool ta, .int .u8 qm, .bool true, .int .u8 bit, .bool brk] 27 (0, 0)) := by rw [hw6]; exact (by have := (blk_set K7 4 (.int .u8 qm)); simpa using this)
      replace bl : Below w.heap.size w w6 := by rw [hw6]; exact (bl.setCell (p := ⟨w4.heap.size, 4, none⟩) (by show w.heap.size ≤ w4.heap.size; omega) _)
      clear hw6
      obtain ⟨cx0, cx1, cx2, cx3, cx4, cx5, cx6, cx7, cx8, cx9, cx10, nex⟩ := b11c Kx
      obtain ⟨c30, z30, c31, z31, c32, z32, c33, z33, c34, z34, c35, z35, c36, z36, c37, z37, ne3⟩ := b8z K3
      obtain ⟨c70, z70, c71, z71, c72, z72, c73, z73, c74, z74, c75, z75, c76, z76, c77, z77, ne7⟩ := b8z K7
      go_meet
      exact ⟨Kx, K3, K7, bl⟩
  case rest =>
  clear cx0 cx1 cx2 cx3 cx4 cx5 cx6 cx7 cx8 cx9 cx10 c30 c31 c32 c33 c34 c35 c36 c37 c70 c71 c72 c73 c74 c75 c76 c77 nex ne3 ne7 z30 z31 z32 z33 z34 z35 z36 z37 z70 z71 z72 z73 z74 z75 z76 z77
  clear Kx K3 K7 bl
  obtain ⟨Kx, K3, K7, bl⟩ := hcut
  obtain ⟨u32, rfl⟩ : ∃ ww, ww = wc := ⟨_, rfl⟩
  obtain ⟨cx0, cx1, cx2, cx3, cx4, cx5, cx6, cx7, cx8, cx9, cx10, nex⟩ := b11c Kx
  obtain ⟨c30, z30, c31, z31, c32, z32, c33, z33, c34, z34, c35, z35, c36, z36, c37, z37, ne3⟩ := b8z K3
  obtain ⟨c70, z70, c71, z71, c72, z72, c73, z73, c74, z74, c75, z75, c76, z76, c77, z77, ne7⟩ := b8z K7
  go_upto_region 9 with fail
  clear cx0 cx1 cx2 cx3 cx4 cx5 cx6 cx7 cx8 cx9 cx10 c30 c31 c32 c33 c34 c35 c36 c37 c70 c71 c72 c73 c74 c75 c76 c77 nex ne3 ne7 z30 z31 z32 z33 z34 z35 z36 z37 z70 z71 z72 z73 z74 z75 z76 z77
  obtain ⟨w6, hw6⟩ : ∃ ww, ww = (u32.setCell ⟨w4.heap.size, 0, none⟩ (.int .u8 (bits BinOp.or IntKind.u8 (bits BinOp.andNot IntKind.u8 F.p F.s) (bits BinOp.and IntKind.u8 qp F.s)))) := ⟨_, rfl⟩
  rw [← hw6]
  have nnx : w4.heap.size ≠ (w.heap.size) := by first | omega | (have := blk_lt Kx; have := blk_lt K7; have := bl.size; omega)
  replace Kx : w6.heap[(w.heap.size)]? = some (.cells #[.int .u8 p, .int .u8 s, .int .u8 av, .bool ta, .int .u8 mv, .bool tm, .int .u8 bit, .bool brk, .int .u8 qa, .int .u8 qm, .int .u8 qp] 41 (0, 0)) := by rw [hw6]; exact ((blk_other (by exact nnx) _).trans Kx)
  clear nnx
  have nn3 : w4.heap.size ≠ w0.heap.size := by first | omega | (have := blk_lt K3; have := blk_lt K7; have := bl.size; omega)
  replace K3 : w6.heap[w0.heap.size]? = some (.cells #[.int .u8 F.p, .int .u8 F.s, .int .u8 av, .bool ta, .int .u8 mv, .bool tm, .int .u8 bit, .bool brk] 27 (0, 0)) := by rw [hw6]; exact ((blk_other (by exact nn3) _).trans K3)
  clear nn3
  replace K7 : w6.heap[w4.heap.size]? = some (.cells #[.int .u8 (bits BinOp.or IntKind.u8 (bits BinOp.andNot IntKind.u8 F.p F.s) (bits BinOp.and IntKind.u8 qp F.s)), .int .u8 F.s, .int .u8 (if ta = true then qa else av), .bool ta, .int .u8 (if tm = true then qm else mv), .bool tm, .int .u8 bit, .bool brk] 27 (0, 0)) := by rw [hw6]; exact (by have := (blk_set K7 0 (.int .u8 (bits BinOp.or IntKind.u8 (bits BinOp.andNot IntKind.u8 F.p F.s) (bits BinOp.and IntKind.u8 qp F.s)))); simpa using this)
  replace bl : Below w.heap.size w w6 := by rw [hw6]; exact (bl.setCell (p := ⟨w4.heap.size, 0, none⟩) (by show w.heap.size ≤ w4.heap.size; omega) _)
  clear hw6
  obtain ⟨cx0, cx1, cx2, cx3, cx4, cx5, cx6, cx7, cx8, cx9, cx10, nex⟩ := b11c Kx
  obtain ⟨c30, z30, c31, z31, c32, z32, c33, z33, c34, z34, c35, z35, c36, z36, c37, z37, ne3⟩ := b8z K3
  obtain ⟨c70, z70, c71, z71, c72, z72, c73, z73, c74, z74, c75, z75, c76, z76, c77, z77, ne7⟩ := b8z K7
  refine wp_region_noPanic ?_
  refine wp_region_held_drew (S := (fun w' => w'.cell? ⟨w0.heap.size, 0, none⟩ = some (.int .u8 F.p) ∧ w'.cell? ⟨w0.heap.size, 1, none⟩ = some (.int .u8 F.s) ∧ w'.cell? ⟨w0.heap.size, 2, none⟩ = some (.int .u8 av) ∧ w'.cell? ⟨w0.heap.size, 3, none⟩ = some (.bool ta) ∧ w'.cell? ⟨w0.heap.size, 4, none⟩ = some (.int .u8 mv) ∧ w'.cell? ⟨w0.heap.size, 5, none⟩ = some (.bool tm) ∧ w'.cell? ⟨w0.heap.size, 6, none⟩ = some (.int .u8 bit) ∧ w'.cell? ⟨w0.heap.size, 7, none⟩ = some (.bool brk) ∧ w'.cell? ⟨w4.heap.size, 0, none⟩ = some (.int .u8 (bits BinOp.or IntKind.u8 (bits BinOp.andNot IntKind.u8 F.p F.s) (bits BinOp.and IntKind.u8 qp F.s))) ∧ w'.cell? ⟨w4.heap.size, 1, none⟩ = some (.int .u8 F.s) ∧ w'.cell? ⟨w4.heap.size, 2, none⟩ = some (.int .u8 (if ta = true then qa else av)) ∧ w'.cell? ⟨w4.heap.size, 3, none⟩ = some (.bool ta) ∧ w'.cell? ⟨w4.heap.size, 4, none⟩ = some (.int .u8 (if tm = true then qm else mv)) ∧ w'.cell? ⟨w4.heap.size, 5, none⟩ = some (.bool tm) ∧ w'.cell? ⟨w4.heap.size, 6, none⟩ = some (.int .u8 bit) ∧ w'.cell? ⟨w4.heap.size, 7, none⟩ = some (.bool brk))) (by kernel_rfl) ⟨blk_cell K3 0, blk_cell K3 1, blk_cell K3 2, blk_cell K3 3, blk_cell K3 4, blk_cell K3 5, blk_cell K3 6, blk_cell K3 7, blk_cell K7 0, blk_cell K7 1, blk_cell K7 2, blk_cell K7 3, blk_cell K7 4, blk_cell K7 5, blk_cell K7 6, blk_cell K7 7⟩ (fun hHeld => ?_)
  refine tk 0 (v := ?_) rfl ?_ ?_; rotate_left; (focus (intro w hSw; (try dsimp only at hSw); go_simp; with_reducible rfl)); simp only [Act.put, tA, tB, tC]
  refine tk 2 (v := ?_) rfl ?_ ?_; rotate_left; (focus (intro w hSw; (try dsimp only at hSw); go_simp; with_reducible rfl)); simp only [Act.put, tA, tB, tC]
  refine wpAnyH_ready (rs := [1]) (by kernel_rfl) (by simp) ?_
  refine AllReadyH.cons (o := ⟨_, _, _, _, _, _⟩) rfl (fun K hK => ?_) (AllReadyH.nil)
  go_simp
  refine (told_any ⟨F.p, F.s⟩ ⟨av, ta⟩ ⟨mv, tm⟩ bit brk _).mono ?_
  rintro e w7 ⟨vX, rfl, OX, b7⟩
  obtain ⟨gx, capX, hv, _, RX⟩ := OX.form (by simp [toldL])
  replace hv : vX = .slice (some ⟨gx, 0, none⟩) 13 capX := hv
  subst hv
  clear OX
  replace b7 : Below w6.heap.size w6 w7 := (Below.refl _ _).drew.trans b7
  clear cx0 cx1 cx2 cx3 cx4 cx5 cx6 cx7 cx8 cx9 cx10 c30 c31 c32 c33 c34 c35 c36 c37 c70 c71 c72 c73 c74 c75 c76 c77 nex ne3 ne7 z30 z31 z32 z33 z34 z35 z36 z37 z70 z71 z72 z73 z74 z75 z76 z77
  replace Kx := kp b7 Kx
  replace K3 := kp b7 K3
  replace K7 := kp b7 K7
  replace bl := bl.trans (b7.mono bl.size)
  clear b7
  obtain ⟨cx0, cx1, cx2, cx3, cx4, cx5, cx6, cx7, cx8, cx9, cx10, nex⟩ := b11c Kx
  obtain ⟨c30, z30, c31, z31, c32, z32, c33, z33, c34, z34, c35, z35, c36, z36, c37, z37, ne3⟩ := b8z K3
  obtain ⟨c70, z70, c71, z71, c72, z72, c73, z73, c74, z74, c75, z75, c76, z76, c77, z77, ne7⟩ := b8z K7
  refine hK.out _ _ ⟨blk_cell K3 0, blk_cell K3 1, blk_cell K3 2, blk_cell K3 3, blk_cell K3 4, blk_cell K3 5, blk_cell K3 6, blk_cell K3 7, blk_cell K7 0, blk_cell K7 1, blk_cell K7 2, blk_cell K7 3, blk_cell K7 4, blk_cell K7 5, blk_cell K7 6, blk_cell K7 7⟩ (fun hHeld => ?_)
  clear hK K
  refine wpAnyH_ready (rs := [3]) (by kernel_rfl) (by simp) ?_
  refine AllReadyH.cons (o := ⟨_, _, _, _, _, _⟩) rfl (fun K hK => ?_) (AllReadyH.nil)
  go_simp
  refine (told_any ⟨bits BinOp.or IntKind.u8 (bits BinOp.andNot IntKind.u8 F.p F.s) (bits BinOp.and IntKind.u8 qp F.s), F.s⟩ ⟨(if ta = true then qa else av), ta⟩ ⟨(if tm = true then qm else mv), tm⟩ bit brk _).mono ?_
  rintro e w8 ⟨vY, rfl, OY, b8⟩
  obtain ⟨gy, capY, hv, _, RY⟩ := OY.form (by simp [toldL])
  replace hv : vY = .slice (some ⟨gy, 0, none⟩) 13 capY := hv
  subst hv
  clear OY
  clear cx0 cx1 cx2 cx3 cx4 cx5 cx6 cx7 cx8 cx9 cx10 c30 c31 c32 c33 c34 c35 c36 c37 c70 c71 c72 c73 c74 c75 c76 c77 nex ne3 ne7 z30 z31 z32 z33 z34 z35 z36 z37 z70 z71 z72 z73 z74 z75 z76 z77
  replace Kx := kp b8 Kx
  replace K3 := kp b8 K3
  replace K7 := kp b8 K7
  replace RX := RX.below b8
  replace bl := bl.trans (b8.mono bl.size)
  clear b8
  obtain ⟨cx0, cx1, cx2, cx3, cx4, cx5, cx6, cx7, cx8, cx9, cx10, nex⟩ := b11c Kx
  obtain ⟨c30, z30, c31, z31, c32, z32, c33, z33, c34, z34, c35, z35, c36, z36, c37, z37, ne3⟩ := b8z K3
  obtain ⟨c70, z70, c71, z71, c72, z72, c73, z73, c74, z74, c75, z75, c76, z76, c77, z77, ne7⟩ := b8z K7
  refine hK.out _ _ ⟨blk_cell K3 0, blk_cell K3 1, blk_cell K3 2, blk_cell K3 3, blk_cell K3 4, blk_cell K3 5, blk_cell K3 6, blk_cell K3 7, blk_cell K7 0, blk_cell K7 1, blk_cell K7 2, blk_cell K7 3, blk_cell K7 4, blk_cell K7 5, blk_cell K7 6, blk_cell K7 7⟩ (fun hHeld => ?_)
  clear hK K
  refine tk 4 (v := ?_) rfl ?_ ?_; rotate_left; (focus (intro w hSw; (try dsimp only at hSw); go_simp; with_reducible rfl)); simp only [Act.put, tA, tB, tC]
  refine tk 5 (v := ?_) rfl ?_ ?_; rotate_left; (focus (intro w hSw; (try dsimp only at hSw); go_simp; with_reducible rfl)); simp only [Act.put, tA, tB, tC]
  refine wpAnyH_done (by kernel_rfl) (NoPanic.normal ?_) _
  clear cx0 cx1 cx2 cx3 cx4 cx5 cx6 cx7 cx8 cx9 cx10 c30 c31 c32 c33 c34 c35 c36 c37 c70 c71 c72 c73 c74 c75 c76 c77 nex ne3 ne7 z30 z31 z32 z33 z34 z35 z36 z37 z70 z71 z72 z73 z74 z75 z76 z77
  clear Kx K3 K7
  have NI := hidI (ni_told bit brk (ni_other F.p F.s qp) (ni_byte av qa ta) (ni_byte mv qm tm))
  obtain ⟨LX, hLX⟩ : ∃ l, l = (toldL ⟨F.p, F.s⟩ ⟨av, ta⟩ ⟨mv, tm⟩ bit brk) := ⟨_, rfl⟩
  obtain ⟨LY, hLY⟩ : ∃ l, l = (toldL ⟨bits BinOp.or IntKind.u8 (bits BinOp.andNot IntKind.u8 F.p F.s) (bits BinOp.and IntKind.u8 qp F.s), F.s⟩ ⟨(if ta = true then qa else av), ta⟩ ⟨(if tm = true then qm else mv), tm⟩ bit brk) := ⟨_, rfl⟩
  have nX : Hid (LX.length = 13) := by show _ = _; rw [hLX]; rfl
  have nY : Hid (LY.length = 13) := by show _ = _; rw [hLY]; rfl
  rw [← hLX] at RX
  rw [← hLY] at RY
  have NI2 : Hid (∀ (i : Nat) (x y : RQ), LX[i]? = some x → LY[i]? = some y → AB x.1 y.1 ∧ AF x.2 y.2) := by rw [hLX, hLY]; exact NI.out
  clear NI hLX hLY
  generalize (if ta = true then qa else av) = A2
  generalize (if tm = true then qm else mv) = M2
  go_wp2_with fail
  go_loopw [10] (fun i wr => ∃ k : Nat, k ≤ 13 ∧ i = .int .i64 k ∧ Below w.heap.size w wr ∧ QRow wr gx LX ∧ QRow wr gy LY) (fun i _ => 13 - (intOf i).toNat)
  case atStart => exact ⟨0, by omega, rfl, bl, RX, RY⟩
  case round =>
    clear RX RY bl
    obtain ⟨k, hk, rfl, bl, RX, RY⟩ := hrel
    by_cases hlt : k < 13
    · obtain ⟨x, hx⟩ : ∃ x, LX[k]? = some x := ⟨LX[k]'(by rw [nX.out]; exact hlt), List.getElem?_eq_getElem _⟩
      obtain ⟨y, hy⟩ : ∃ y, LY[k]? = some y := ⟨LY[k]'(by rw [nY.out]; exact hlt), List.getElem?_eq_getElem _⟩
      obtain ⟨hAB, hAF⟩ := NI2.out k x y hx hy
      obtain ⟨dx0, dx1, dx2, dx3⟩ := RX.c k x hx
      obtain ⟨dy0, dy1, dy2, dy3⟩ := RY.c k y hy
      obtain ⟨xb, xp, xs⟩ := x
      obtain ⟨yb, yp, ys⟩ := y
      obtain ⟨f1, f2⟩ := hAF
      simp only at f1 f2 dx0 dx1 dx2 dx3 dy0 dy1 dy2 dy3 hAB
      subst f1
      have e2 : bits BinOp.andNot IntKind.u8 yp xs = bits BinOp.andNot IntKind.u8 xp xs := f2.symm
      have HAB := hidI hAB
      clear f2 hAB hx hy
      have hlt' : (k : Int) < 13 := by omega
      go_upto_region 15 with fail
      have lx := RX.lt
      have ly := RY.lt
      refine wp_region_noPanic ?_
      refine wp_region_held_drew (S := (fun w' => w'.cell? ⟨gx, k * 4, none⟩ = some (.int .u8 xb.v) ∧ w'.cell? ⟨gx, k * 4 + 1, none⟩ = some (.bool xb.s) ∧ w'.cell? ⟨gx, k * 4 + 2, none⟩ = some (.int .u8 xp) ∧ w'.cell? ⟨gx, k * 4 + 3, none⟩ = some (.int .u8 xs) ∧ w'.cell? ⟨gy, k * 4, none⟩ = some (.int .u8 yb.v) ∧ w'.cell? ⟨gy, k * 4 + 1, none⟩ = some (.bool yb.s) ∧ w'.cell? ⟨gy, k * 4 + 2, none⟩ = some (.int .u8 yp) ∧ w'.cell? ⟨gy, k * 4 + 3, none⟩ = some (.int .u8 xs))) (by kernel_rfl) ⟨dx0, dx1, dx2, dx3, dy0, dy1, dy2, dy3⟩ (fun hHeld => ?_)
      refine tk 0 (v := ?_) rfl ?_ ?_; rotate_left; (focus (intro w hSw; (try dsimp only at hSw); go_simp; with_reducible rfl)); simp only [Act.put, tA, tB, tC]
      refine tk 1 (v := ?_) rfl ?_ ?_; rotate_left; (focus (intro w hSw; (try dsimp only at hSw); go_simp; with_reducible rfl)); simp only [Act.put, tA, tB, tC]
      refine tk 2 (v := ?_) rfl ?_ ?_; rotate_left; (focus (intro w hSw; (try dsimp only at hSw); go_simp; with_reducible rfl)); simp only [Act.put, tA, tB, tC]
      refine tk 3 (v := ?_) rfl ?_ ?_; rotate_left; (focus (intro w hSw; (try dsimp only at hSw); go_simp; with_reducible rfl)); simp only [Act.put, tA, tB, tC]
      refine tk 4 (v := ?_) rfl ?_ ?_; rotate_left; (focus (intro w hSw; (try dsimp only at hSw); go_simp; with_reducible rfl)); simp only [Act.put, tA, tB, tC]
      refine tk 5 (v := ?_) rfl ?_ ?_; rotate_left; (focus (intro w hSw; (try dsimp only at hSw); go_simp; with_reducible rfl)); simp only [Act.put, tA, tB, tC]
      refine tk 6 (v := ?_) rfl ?_ ?_; rotate_left; (focus (intro w hSw; (try dsimp only at hSw); go_simp; with_reducible rfl)); simp only [Act.put, tA, tB, tC]
      refine tk 7 (v := ?_) rfl ?_ ?_; rotate_left; (focus (intro w hSw; (try dsimp only at hSw); go_simp; with_reducible rfl)); simp only [Act.put, tA, tB, tC]
      refine tk 8 (v := ?_) rfl ?_ ?_; rotate_left; (focus (intro w hSw; (try dsimp only at hSw); go_simp; with_reducible rfl)); simp only [Act.put, tA, tB, tC]
      refine tk 9 (v := ?_) rfl ?_ ?_; rotate_left; (focus (intro w hSw; (try dsimp only at hSw); go_simp; with_reducible rfl)); simp only [Act.put, tA, tB, tC]
      refine wpAnyH_ready (rs := [10]) (by kernel_rfl) (by simp) ?_
      refine AllReadyH.cons (o := ⟨_, _, _, _, _, _⟩) rfl (fun K hK => ?_) (AllReadyH.nil)
      go_simp
      refine (alike_any xb yb HAB.out _).mono ?_
      rintro e w9 ⟨rfl, b9'⟩
      have b9 : Below wr.heap.size wr w9 := (Below.refl _ _).drew.trans b9'
      clear b9'
      replace RX := RX.below b9
      replace RY := RY.below b9
      replace bl := bl.trans (b9.mono bl.size)
      refine hK.out _ _ ⟨(b9.cell (p := ⟨gx, k * 4, none⟩) lx).trans dx0, (b9.cell (p := ⟨gx, k * 4 + 1, none⟩) lx).trans dx1, (b9.cell (p := ⟨gx, k * 4 + 2, none⟩) lx).trans dx2, (b9.cell (p := ⟨gx, k * 4 + 3, none⟩) lx).trans dx3, (b9.cell (p := ⟨gy, k * 4, none⟩) ly).trans dy0, (b9.cell (p := ⟨gy, k * 4 + 1, none⟩) ly).trans dy1, (b9.cell (p := ⟨gy, k * 4 + 2, none⟩) ly).trans dy2, (b9.cell (p := ⟨gy, k * 4 + 3, none⟩) ly).trans dy3⟩ (fun hHeld => ?_)
      clear hK K
      refine tk 11 (v := ?_) rfl ?_ ?_; rotate_left; (focus (intro w hSw; (try dsimp only at hSw); go_simp; with_reducible rfl)); simp only [Act.put, tA, tB, tC]
      refine tk 12 (v := ?_) rfl ?_ ?_; rotate_left; (focus (intro w hSw; (try dsimp only at hSw); go_simp; with_reducible rfl)); simp only [Act.put, tA, tB, tC]
      refine tk 13 (v := ?_) rfl ?_ ?_; rotate_left; (focus (intro w hSw; (try dsimp only at hSw); go_simp; with_reducible rfl)); simp only [Act.put, tA, tB, tC]
      refine tk 14 (v := ?_) rfl ?_ ?_; rotate_left; (focus (intro w hSw; (try dsimp only at hSw); go_simp; with_reducible rfl)); simp only [Act.put, tA, tB, tC]
      refine tk 15 (v := ?_) rfl ?_ ?_; rotate_left; (focus (intro w hSw; (try dsimp only at hSw); go_simp; with_reducible rfl)); simp only [Act.put, tA, tB, tC]
      refine tk 16 (v := ?_) rfl ?_ ?_; rotate_left; (focus (intro w hSw; (try dsimp only at hSw); go_simp; with_reducible rfl)); simp only [Act.put, tA, tB, tC]
      refine tk 17 (v := ?_) rfl ?_ ?_; rotate_left; (focus (intro w hSw; (try dsimp only at hSw); go_simp; with_reducible rfl)); simp only [Act.put, tA, tB, tC]
      refine tk 18 (v := ?_) rfl ?_ ?_; rotate_left; (focus (intro w hSw; (try dsimp only at hSw); go_simp; with_reducible rfl)); simp only [Act.put, tA, tB, tC]
      refine tk 19 (v := ?_) rfl ?_ ?_; rotate_left; (focus (intro w hSw; (try dsimp only at hSw); go_simp; with_reducible rfl)); simp only [Act.put, tA, tB, tC]
      refine tk 20 (v := ?_) rfl ?_ ?_; rotate_left; (focus (intro w hSw; (try dsimp only at hSw); go_simp; with_reducible rfl)); simp only [Act.put, tA, tB, tC]
      refine tk 21 (v := ?_) rfl ?_ ?_; rotate_left; (focus (intro w hSw; (try dsimp only at hSw); go_simp; with_reducible rfl)); simp only [Act.put, tA, tB, tC]
      refine tk 22 (v := ?_) rfl ?_ ?_; rotate_left; (focus (intro w hSw; (try dsimp only at hSw); go_simp; with_reducible rfl)); simp only [Act.put, tA, tB, tC]
      refine tk 23 (v := ?_) rfl ?_ ?_; rotate_left; (focus (intro w hSw; (try dsimp only at hSw); go_simp; with_reducible rfl)); simp only [Act.put, tA, tB, tC]
      refine tk 24 (v := ?_) rfl ?_ ?_; rotate_left; (focus (intro w hSw; (try dsimp only at hSw); go_simp; with_reducible rfl)); simp only [Act.put, tA, tB, tC]
      refine tk 25 (v := ?_) rfl ?_ ?_; rotate_left; (focus (intro w hSw; (try dsimp only at hSw); go_simp; with_reducible rfl)); simp only [Act.put, tA, tB, tC]
      refine tk 26 (v := ?_) rfl ?_ ?_; rotate_left; (focus (intro w hSw; (try dsimp only at hSw); go_simp; with_reducible rfl)); simp only [Act.put, tA, tB, tC]
      refine tk 27 (v := ?_) rfl ?_ ?_; rotate_left; (focus (intro w hSw; (try dsimp only at hSw); go_simp; with_reducible rfl)); simp only [Act.put, tA, tB, tC]
      refine tk 28 (v := ?_) rfl ?_ ?_; rotate_left; (focus (intro w hSw; (try dsimp only at hSw); go_simp; with_reducible rfl)); simp only [Act.put, tA, tB, tC]
      refine tk 29 (v := ?_) rfl ?_ ?_; rotate_left; (focus (intro w hSw; (try dsimp only at hSw); go_simp; with_reducible rfl)); simp only [Act.put, tA, tB, tC]
      refine tk 30 (v := ?_) rfl ?_ ?_; rotate_left; (focus (intro w hSw; (try dsimp only at hSw); go_simp; with_reducible rfl)); simp only [Act.put, tA, tB, tC]
      refine tk 31 (v := ?_) rfl ?_ ?_; rotate_left; (focus (intro w hSw; (try dsimp only at hSw); go_simp; with_reducible rfl)); simp only [Act.put, tA, tB, tC]
      refine tk 32 (v := ?_) rfl ?_ ?_; rotate_left; (focus (intro w hSw; (try dsimp only at hSw); go_simp; with_reducible rfl)); simp only [Act.put, tA, tB, tC]
      refine tk 33 (v := ?_) rfl ?_ ?_; rotate_left; (focus (intro w hSw; (try dsimp only at hSw); go_simp; with_reducible rfl)); simp only [Act.put, tA, tB, tC]
      refine tk 34 (v := ?_) rfl ?_ ?_; rotate_left; (focus (intro w hSw; (try dsimp only at hSw); go_simp; with_reducible rfl)); simp only [Act.put, tA, tB, tC]
      refine tk 35 (v := ?_) rfl ?_ ?_; rotate_left; (focus (intro w hSw; (try dsimp only at hSw); go_simp; with_reducible rfl)); simp only [Act.put, tA, tB, tC]
      refine tk 36 (v := ?_) rfl ?_ ?_; rotate_left; (focus (intro w hSw; (try dsimp only at hSw); go_simp; with_reducible rfl)); simp only [Act.put, tA, tB, tC]
      refine tk 37 (v := ?_) rfl ?_ ?_; rotate_left; (focus (intro w hSw; (try dsimp only at hSw); go_simp; with_reducible rfl)); simp only [Act.put, tA, tB, tC]
      refine tk 38 (v := ?_) rfl ?_ ?_; rotate_left; (focus (intro w hSw; (try dsimp only at hSw); go_simp; with_reducible rfl)); simp only [Act.put, tA, tB, tC]
      refine tk 39 (v := ?_) rfl ?_ ?_; rotate_left; (focus (intro w hSw; (try dsimp only at hSw); go_simp; with_reducible rfl)); simp only [Act.put, tA, tB, tC]
      refine tk 40 (v := ?_) rfl ?_ ?_; rotate_left; (focus (intro w hSw; (try dsimp only at hSw); go_simp; with_reducible rfl)); simp only [Act.put, tA, tB, tC]
      refine tk 41 (v := ?_) rfl ?_ ?_; rotate_left; (focus (intro w hSw; (try dsimp only at hSw); go_simp; with_reducible rfl)); simp only [Act.put, tA, tB, tC]
      refine tk 42 (v := ?_) rfl ?_ ?_; rotate_left; (focus (intro w hSw; (try dsimp only at hSw); go_simp; with_reducible rfl)); simp only [Act.put, tA, tB, tC]
      refine tk 43 (v := ?_) rfl ?_ ?_; rotate_left; (focus (intro w hSw; (try dsimp only at hSw); go_simp; with_reducible rfl)); simp only [Act.put, tA, tB, tC]
      refine tk 44 (v := ?_) rfl ?_ ?_; rotate_left; (focus (intro w hSw; (try dsimp only at hSw); go_simp; with_reducible rfl)); simp only [Act.put, tA, tB, tC]
      refine tk 45 (v := ?_) rfl ?_ ?_; rotate_left; (focus (intro w hSw; (try dsimp only at hSw); go_simp; with_reducible rfl)); simp only [Act.put, tA, tB, tC]
      refine tk 46 (v := ?_) rfl ?_ ?_; rotate_left; (focus (intro w hSw; (try dsimp only at hSw); go_simp; with_reducible rfl)); simp only [Act.put, tA, tB, tC]
      refine tk 47 (v := ?_) rfl ?_ ?_; rotate_left; (focus (intro w hSw; (try dsimp only at hSw); go_simp; with_reducible rfl)); simp only [Act.put, tA, tB, tC]
      refine tk 48 (v := ?_) rfl ?_ ?_; rotate_left; (focus (intro w hSw; (try dsimp only at hSw); go_simp; with_reducible rfl)); simp only [Act.put, tA, tB, tC]
      refine tk 49 (v := ?_) rfl ?_ ?_; rotate_left; (focus (intro w hSw; (try dsimp only at hSw); go_simp; with_reducible rfl)); simp only [Act.put, tA, tB, tC]
      refine tk 50 (v := ?_) rfl ?_ ?_; rotate_left; (focus (intro w hSw; (try dsimp only at hSw); go_simp; with_reducible rfl)); simp only [Act.put, tA, tB, tC]
      refine tk 51 (v := ?_) rfl ?_ ?_; rotate_left; (focus (intro w hSw; (try dsimp only at hSw); go_simp; with_reducible rfl)); simp only [Act.put, tA, tB, tC]
      refine tk 52 (v := ?_) rfl ?_ ?_; rotate_left; (focus (intro w hSw; (try dsimp only at hSw); go_simp; with_reducible rfl)); simp only [Act.put, tA, tB, tC]
      refine tk 53 (v := ?_) rfl ?_ ?_; rotate_left; (focus (intro w hSw; (try dsimp only at hSw); go_simp; with_reducible rfl)); simp only [Act.put, tA, tB, tC]
      refine tk 54 (v := ?_) rfl ?_ ?_; rotate_left; (focus (intro w hSw; (try dsimp only at hSw); go_simp; with_reducible rfl)); simp only [Act.put, tA, tB, tC]
      refine tk 55 (v := ?_) rfl ?_ ?_; rotate_left; (focus (intro w hSw; (try dsimp only at hSw); go_simp; with_reducible rfl)); simp only [Act.put, tA, tB, tC]
      refine wpAnyH_done (by kernel_rfl) (NoPanic.normal ?_) _
      go_wp2_with fail
      go_roundw
      case rel => exact ⟨k + 1, by omega, by simp, bl, RX, RY⟩
      case measure => simp [intOf]; omega
    · obtain rfl : k = 13 := by omega
      go_wp2_with fail
      refine (awake_any _).mono ?_
      rintro e wz ⟨rfl, bz⟩
      go_wp2_with fail
      go_ret
      exact ⟨rfl, bl.trans (bz.mono bl.size)⟩
end Go.Proofs.Ytdgjenlejalgeaa
