import Derived.Test.YtdgjenlejalgeaaBl3
namespace Go.Proofs.Ytdgjenlejalgeaa
open Go.RowKit Go.Sx
def nzF (f : Fl) (x : By) : Fl := setF (setF f 128 ⟨trI (decide (127 < x.v)), anyB [x]⟩) 2 ⟨trI (x.v == 0), anyB [x]⟩
def lbF (x : By) (q : Int) : By := ⟨A8 q 1, anyB [x]⟩
set_option maxHeartbeats 1600000 in
theorem nz_any (f : Fl) (x : By) (w : World) : Calls Try.prog 15 #[f.V, x.V] w fun e w' => e = .returned (nzF f x).V ∧ Below w.heap.size w w' := by
  go_enter Try.func15, Try.ntmps15
  go_upto_region 1 with fail
  obtain ⟨w0, hw0⟩ : ∃ ww, ww = (((w.alloc (.cells #[.int .u8 f.p, .int .u8 f.s] 23)).alloc (.cells #[.int .u8 x.v, .bool x.s] 25)).alloc (.cells #[.int .u8 0, .int .u8 0] 23)) := ⟨_, rfl⟩
  rw [← hw0]
  have Kf : B2 w0 (w.heap.size) (.int .u8 f.p) (.int .u8 f.s) 23 := by rw [hw0]; exact blk_alloc (blk_alloc (blk_new' _ (by simp)) _) _
  have Kx : B2 w0 (w.heap.size + 1) (.int .u8 x.v) (.bool x.s) 25 := by rw [hw0]; exact blk_alloc (blk_new' _ (by simp)) _
  have Kr : B2 w0 (w.heap.size + 1 + 1) (.int .u8 0) (.int .u8 0) 23 := by rw [hw0]; exact blk_new' _ (by simp)
  have qfx : w.heap.size ≠ w.heap.size + 1 := by omega
  have qfr : w.heap.size ≠ w.heap.size + 1 + 1 := by omega
  have qxf : w.heap.size + 1 ≠ w.heap.size := by omega
  have qxr : w.heap.size + 1 ≠ w.heap.size + 1 + 1 := by omega
  have qrf : w.heap.size + 1 + 1 ≠ w.heap.size := by omega
  have qrx : w.heap.size + 1 + 1 ≠ w.heap.size + 1 := by omega
  have bl : Below w.heap.size w w0 := by rw [hw0]; (repeat first | exact .refl _ _ | exact (Below.refl _ _).drew | refine .drew ?_ | refine .alloc ?_ (by simp <;> omega) _)
  clear hw0
  obtain ⟨cf0, zf0, cf1, zf1, nef⟩ := b2z Kf
  obtain ⟨cx0, zx0, cx1, zx1, nex⟩ := b2z Kx
  obtain ⟨cr0, zr0, cr1, zr1, ner⟩ := b2z Kr
  refine wp_region_noPanic ?_
  refine wp_region_held_drew (S := (fun w' => w'.cell? ⟨(w.heap.size), 0, none⟩ = some (.int .u8 f.p) ∧ w'.cell? ⟨(w.heap.size), 1, none⟩ = some (.int .u8 f.s) ∧ w'.cell? ⟨(w.heap.size + 1), 0, none⟩ = some (.int .u8 x.v) ∧ w'.cell? ⟨(w.heap.size + 1), 1, none⟩ = some (.bool x.s))) (by kernel_rfl) ⟨blk_cell Kf 0, blk_cell Kf 1, blk_cell Kx 0, blk_cell Kx 1⟩ (fun hHeld => ?_)
  refine tk 0 (v := ?_) rfl ?_ ?_; rotate_left; (focus (intro w hSw; (try dsimp only at hSw); go_simp; with_reducible rfl)); simp only [Act.put, tA, tB, tC]
  refine tk 1 (v := ?_) rfl ?_ ?_; rotate_left; (focus (intro w hSw; (try dsimp only at hSw); go_simp; with_reducible rfl)); simp only [Act.put, tA, tB, tC]
  refine tk 2 (v := ?_) rfl ?_ ?_; rotate_left; (focus (intro w hSw; (try dsimp only at hSw); go_simp; with_reducible rfl)); simp only [Act.put, tA, tB, tC]
  refine tk 3 (v := ?_) rfl ?_ ?_; rotate_left; (focus (intro w hSw; (try dsimp only at hSw); go_simp; with_reducible rfl)); simp only [Act.put, tA, tB, tC]
  refine tk 4 (v := ?_) rfl ?_ ?_; rotate_left; (focus (intro w hSw; (try dsimp only at hSw); go_simp; with_reducible rfl)); simp only [Act.put, tA, tB, tC]
  refine tk 8 (v := ?_) rfl ?_ ?_; rotate_left; (focus (intro w hSw; (try dsimp only at hSw); go_simp; with_reducible rfl)); simp only [Act.put, tA, tB, tC]
  refine tk 9 (v := ?_) rfl ?_ ?_; rotate_left; (focus (intro w hSw; (try dsimp only at hSw); go_simp; with_reducible rfl)); simp only [Act.put, tA, tB, tC]
  refine tk 10 (v := ?_) rfl ?_ ?_; rotate_left; (focus (intro w hSw; (try dsimp only at hSw); go_simp; with_reducible rfl)); simp only [Act.put, tA, tB, tC]
  refine tk 11 (v := ?_) rfl ?_ ?_; rotate_left; (focus (intro w hSw; (try dsimp only at hSw); go_simp; with_reducible rfl)); simp only [Act.put, tA, tB, tC]
  refine wpAnyH_ready (rs := [5, 12]) (by kernel_rfl) (by simp) ?_
  refine AllReadyH.cons (o := ⟨_, _, _, _, _, _⟩) rfl (fun K hK => ?_) (AllReadyH.cons (o := ⟨_, _, _, _, _, _⟩) rfl (fun K hK => ?_) (AllReadyH.nil))
  · go_simp
    obtain ⟨w1, hw1⟩ : ∃ ww, ww = (w0.alloc (.cells #[.int .u8 x.v, .bool x.s] 25)).drew := ⟨_, rfl⟩
    rw [← hw1]
    have b1 : Below w0.heap.size w0 w1 := by rw [hw1]; (repeat first | exact .refl _ _ | exact (Below.refl _ _).drew | refine .drew ?_ | refine .alloc ?_ (by simp <;> omega) _)
    have Rl : ByAt w1 (some ⟨w0.heap.size, 0, none⟩) [x] := by rw [hw1]; exact (byAt1 _ _ x).below (Below.refl _ _).drew
    clear hw1
    clear cf0 cf1 zf0 zf1 cx0 cx1 zx0 zx1 cr0 cr1 zr0 zr1 nef nex ner
    replace Kf := kp b1 Kf
    replace Kx := kp b1 Kx
    replace Kr := kp b1 Kr
    replace bl := bl.trans (b1.mono bl.size)
    clear b1
    obtain ⟨cf0, zf0, cf1, zf1, nef⟩ := b2z Kf
    obtain ⟨cx0, zx0, cx1, zx1, nex⟩ := b2z Kx
    obtain ⟨cr0, zr0, cr1, zr1, ner⟩ := b2z Kr
    refine hK.out _ _ ⟨blk_cell Kf 0, blk_cell Kf 1, blk_cell Kx 0, blk_cell Kx 1⟩ (fun hHeld => ?_)
    clear hK K
    refine wpAnyH_ready (rs := [6, 12]) (by kernel_rfl) (by simp) ?_
    refine AllReadyH.cons (o := ⟨_, _, _, _, _, _⟩) rfl (fun K hK => ?_) (AllReadyH.cons (o := ⟨_, _, _, _, _, _⟩) rfl (fun K hK => ?_) (AllReadyH.nil))
    · go_simp
      refine (truth_any _ [x] _ 1 _ rfl (by omega) Rl).mono ?_
      rintro e w2 ⟨rfl, b2⟩
      clear cf0 cf1 zf0 zf1 cx0 cx1 zx0 zx1 cr0 cr1 zr0 zr1 nef nex ner
      replace Kf := kp b2 Kf
      replace Kx := kp b2 Kx
      replace Kr := kp b2 Kr
      replace Rl := Rl.below b2
      replace bl := bl.trans (b2.mono bl.size)
      clear b2
      obtain ⟨cf0, zf0, cf1, zf1, nef⟩ := b2z Kf
      obtain ⟨cx0, zx0, cx1, zx1, nex⟩ := b2z Kx
      obtain ⟨cr0, zr0, cr1, zr1, ner⟩ := b2z Kr
      refine hK.out _ _ ⟨blk_cell Kf 0, blk_cell Kf 1, blk_cell Kx 0, blk_cell Kx 1⟩ (fun hHeld => ?_)
      clear hK K
      refine wpAnyH_ready (rs := [7, 12]) (by kernel_rfl) (by simp) ?_
      refine AllReadyH.cons (o := ⟨_, _, _, _, _, _⟩) rfl (fun K hK => ?_) (AllReadyH.cons (o := ⟨_, _, _, _, _, _⟩) rfl (fun K hK => ?_) (AllReadyH.nil))
      · go_simp
        refine (set_any f 128 ⟨trI (decide (127 < x.v)), anyB [x]⟩ _).mono ?_
        rintro e w3 ⟨rfl, b3⟩
        clear cf0 cf1 zf0 zf1 cx0 cx1 zx0 zx1 cr0 cr1 zr0 zr1 nef nex ner
        replace Kf := kp b3 Kf
        replace Kx := kp b3 Kx
        replace Kr := kp b3 Kr
        replace Rl := Rl.below b3
        replace bl := bl.trans (b3.mono bl.size)
        clear b3
        obtain ⟨cf0, zf0, cf1, zf1, nef⟩ := b2z Kf
        obtain ⟨cx0, zx0, cx1, zx1, nex⟩ := b2z Kx
        obtain ⟨cr0, zr0, cr1, zr1, ner⟩ := b2z Kr
        refine hK.out _ _ ⟨blk_cell Kf 0, blk_cell Kf 1, blk_cell Kx 0, blk_cell Kx 1⟩ (fun hHeld => ?_)
        clear hK K
        refine wpAnyH_ready (rs := [12]) (by kernel_rfl) (by simp) ?_
        refine AllReadyH.cons (o := ⟨_, _, _, _, _, _⟩) rfl (fun K hK => ?_) (AllReadyH.nil)
        go_simp
        obtain ⟨w4, hw4⟩ : ∃ ww, ww = (w3.alloc (.cells #[.int .u8 x.v, .bool x.s] 25)) := ⟨_, rfl⟩
        rw [← hw4]
        have b4 : Below w3.heap.size w3 w4 := by rw [hw4]; (repeat first | exact .refl _ _ | exact (Below.refl _ _).drew | refine .drew ?_ | refine .alloc ?_ (by simp <;> omega) _)
        have Rm : ByAt w4 (some ⟨w3.heap.size, 0, none⟩) [x] := by rw [hw4]; exact byAt1 _ _ x
        clear hw4
        clear cf0 cf1 zf0 zf1 cx0 cx1 zx0 zx1 cr0 cr1 zr0 zr1 nef nex ner
        replace Kf := kp b4 Kf
        replace Kx := kp b4 Kx
        replace Kr := kp b4 Kr
        replace Rl := Rl.below b4
        replace bl := bl.trans (b4.mono bl.size)
        clear b4
        obtain ⟨cf0, zf0, cf1, zf1, nef⟩ := b2z Kf
        obtain ⟨cx0, zx0, cx1, zx1, nex⟩ := b2z Kx
        obtain ⟨cr0, zr0, cr1, zr1, ner⟩ := b2z Kr
        refine hK.out _ _ ⟨blk_cell Kf 0, blk_cell Kf 1, blk_cell Kx 0, blk_cell Kx 1⟩ (fun hHeld => ?_)
        clear hK K
        refine wpAnyH_ready (rs := [13]) (by kernel_rfl) (by simp) ?_
        refine AllReadyH.cons (o := ⟨_, _, _, _, _, _⟩) rfl (fun K hK => ?_) (AllReadyH.nil)
        go_simp
        refine (truth_any _ [x] _ 1 _ rfl (by omega) Rm).mono ?_
        rintro e w5 ⟨rfl, b5⟩
        clear cf0 cf1 zf0 zf1 cx0 cx1 zx0 zx1 cr0 cr1 zr0 zr1 nef nex ner
        replace Kf := kp b5 Kf
        replace Kx := kp b5 Kx
        replace Kr := kp b5 Kr
        replace Rl := Rl.below b5
        replace Rm := Rm.below b5
        replace bl := bl.trans (b5.mono bl.size)
        clear b5
        obtain ⟨cf0, zf0, cf1, zf1, nef⟩ := b2z Kf
        obtain ⟨cx0, zx0, cx1, zx1, nex⟩ := b2z Kx
        obtain ⟨cr0, zr0, cr1, zr1, ner⟩ := b2z Kr
        refine hK.out _ _ ⟨blk_cell Kf 0, blk_cell Kf 1, blk_cell Kx 0, blk_cell Kx 1⟩ (fun hHeld => ?_)
        clear hK K
        refine wpAnyH_ready (rs := [14]) (by kernel_rfl) (by simp) ?_
        refine AllReadyH.cons (o := ⟨_, _, _, _, _, _⟩) rfl (fun K hK => ?_) (AllReadyH.nil)
        go_simp
        refine (set_any (setF f 128 ⟨trI (decide (127 < x.v)), anyB [x]⟩) 2 ⟨trI (x.v == 0), anyB [x]⟩ _).mono ?_
        rintro e w6 ⟨rfl, b6⟩
        clear cf0 cf1 zf0 zf1 cx0 cx1 zx0 zx1 cr0 cr1 zr0 zr1 nef nex ner
        replace Kf := kp b6 Kf
        replace Kx := kp b6 Kx
        replace Kr := kp b6 Kr
        replace Rl := Rl.below b6
        replace Rm := Rm.below b6
        replace bl := bl.trans (b6.mono bl.size)
        clear b6
        obtain ⟨cf0, zf0, cf1, zf1, nef⟩ := b2z Kf
        obtain ⟨cx0, zx0, cx1, zx1, nex⟩ := b2z Kx
        obtain ⟨cr0, zr0, cr1, zr1, ner⟩ := b2z Kr
        refine hK.out _ _ ⟨blk_cell Kf 0, blk_cell Kf 1, blk_cell Kx 0, blk_cell Kx 1⟩ (fun hHeld => ?_)
        clear hK K
        refine wpAnyH_ready (rs := [15]) (by kernel_rfl) (by simp) ?_
        refine AllReadyH.cons (o := ⟨_, _, _, _, _, _⟩) rfl (fun K hK => ?_) (AllReadyH.nil)
        go_simp
        clear cf0 cf1 zf0 zf1 cx0 cx1 zx0 zx1 cr0 cr1 zr0 zr1 nef nex ner
        obtain ⟨w7, hw7⟩ : ∃ ww, ww = ((w6.setCell ⟨(w.heap.size + 1 + 1), 0, none⟩ (.int .u8 (setF (setF f 128 ⟨trI (decide (127 < x.v)), anyB [x]⟩) 2 ⟨trI (x.v == 0), anyB [x]⟩).p)).setCell ⟨(w.heap.size + 1 + 1), 1, none⟩ (.int .u8 (setF (setF f 128 ⟨trI (decide (127 < x.v)), anyB [x]⟩) 2 ⟨trI (x.v == 0), anyB [x]⟩).s)) := ⟨_, rfl⟩
        rw [← hw7]
        have nnf : (w.heap.size + 1 + 1) ≠ (w.heap.size) := by first | omega | (have := blk_lt Kf; have := blk_lt Kr; have := bl.size; omega)
        replace Kf : B2 w7 (w.heap.size) (.int .u8 f.p) (.int .u8 f.s) 23 := by rw [hw7]; exact ((oth2 nnf _ _).trans Kf)
        clear nnf
        have nnx : (w.heap.size + 1 + 1) ≠ (w.heap.size + 1) := by first | omega | (have := blk_lt Kx; have := blk_lt Kr; have := bl.size; omega)
        replace Kx : B2 w7 (w.heap.size + 1) (.int .u8 x.v) (.bool x.s) 25 := by rw [hw7]; exact ((oth2 nnx _ _).trans Kx)
        clear nnx
        replace Kr : B2 w7 (w.heap.size + 1 + 1) (.int .u8 (setF (setF f 128 ⟨trI (decide (127 < x.v)), anyB [x]⟩) 2 ⟨trI (x.v == 0), anyB [x]⟩).p) (.int .u8 (setF (setF f 128 ⟨trI (decide (127 < x.v)), anyB [x]⟩) 2 ⟨trI (x.v == 0), anyB [x]⟩).s) 23 := by rw [hw7]; exact (set2 Kr _ _)
        replace bl : Below w.heap.size w w7 := by rw [hw7]; exact bs2 bl (by first | exact Nat.le_refl _ | omega | (have := bl.size; omega)) _ _
        clear hw7
        obtain ⟨cf0, zf0, cf1, zf1, nef⟩ := b2z Kf
        obtain ⟨cx0, zx0, cx1, zx1, nex⟩ := b2z Kx
        obtain ⟨cr0, zr0, cr1, zr1, ner⟩ := b2z Kr
        refine hK.out _ _ ⟨blk_cell Kf 0, blk_cell Kf 1, blk_cell Kx 0, blk_cell Kx 1⟩ (fun hHeld => ?_)
        clear hK K
        refine wpAnyH_done (by kernel_rfl) (NoPanic.normal ?_) _
        go_wp2_with fail
        exact bodyPost_ret (v := (setF (setF f 128 ⟨trI (decide (127 < x.v)), anyB [x]⟩) 2 ⟨trI (x.v == 0), anyB [x]⟩).V) (by simp [results, Try.results15, go_sem, cr0, cr1]) rfl ⟨rfl, bl⟩
      · go_simp
        obtain ⟨w3, hw3⟩ : ∃ ww, ww = (w2.alloc (.cells #[.int .u8 x.v, .bool x.s] 25)) := ⟨_, rfl⟩
        rw [← hw3]
        have b3 : Below w2.heap.size w2 w3 := by rw [hw3]; (repeat first | exact .refl _ _ | exact (Below.refl _ _).drew | refine .drew ?_ | refine .alloc ?_ (by simp <;> omega) _)
        have Rm : ByAt w3 (some ⟨w2.heap.size, 0, none⟩) [x] := by rw [hw3]; exact byAt1 _ _ x
        clear hw3
        clear cf0 cf1 zf0 zf1 cx0 cx1 zx0 zx1 cr0 cr1 zr0 zr1 nef nex ner
        replace Kf := kp b3 Kf
        replace Kx := kp b3 Kx
        replace Kr := kp b3 Kr
        replace Rl := Rl.below b3
        replace bl := bl.trans (b3.mono bl.size)
        clear b3
        obtain ⟨cf0, zf0, cf1, zf1, nef⟩ := b2z Kf
        obtain ⟨cx0, zx0, cx1, zx1, nex⟩ := b2z Kx
        obtain ⟨cr0, zr0, cr1, zr1, ner⟩ := b2z Kr
        refine hK.out _ _ ⟨blk_cell Kf 0, blk_cell Kf 1, blk_cell Kx 0, blk_cell Kx 1⟩ (fun hHeld => ?_)
        clear hK K
        refine wpAnyH_ready (rs := [7]) (by kernel_rfl) (by simp) ?_
        refine AllReadyH.cons (o := ⟨_, _, _, _, _, _⟩) rfl (fun K hK => ?_) (AllReadyH.nil)
        go_simp
        refine (set_any f 128 ⟨trI (decide (127 < x.v)), anyB [x]⟩ _).mono ?_
        rintro e w4 ⟨rfl, b4⟩
        clear cf0 cf1 zf0 zf1 cx0 cx1 zx0 zx1 cr0 cr1 zr0 zr1 nef nex ner
        replace Kf := kp b4 Kf
        replace Kx := kp b4 Kx
        replace Kr := kp b4 Kr
        replace Rl := Rl.below b4
        replace Rm := Rm.below b4
        replace bl := bl.trans (b4.mono bl.size)
        clear b4
        obtain ⟨cf0, zf0, cf1, zf1, nef⟩ := b2z Kf
        obtain ⟨cx0, zx0, cx1, zx1, nex⟩ := b2z Kx
        obtain ⟨cr0, zr0, cr1, zr1, ner⟩ := b2z Kr
        refine hK.out _ _ ⟨blk_cell Kf 0, blk_cell Kf 1, blk_cell Kx 0, blk_cell Kx 1⟩ (fun hHeld => ?_)
        clear hK K
        refine wpAnyH_ready (rs := [13]) (by kernel_rfl) (by simp) ?_
        refine AllReadyH.cons (o := ⟨_, _, _, _, _, _⟩) rfl (fun K hK => ?_) (AllReadyH.nil)
        go_simp
        refine (truth_any _ [x] _ 1 _ rfl (by omega) Rm).mono ?_
        rintro e w5 ⟨rfl, b5⟩
        clear cf0 cf1 zf0 zf1 cx0 cx1 zx0 zx1 cr0 cr1 zr0 zr1 nef nex ner
        replace Kf := kp b5 Kf
        replace Kx := kp b5 Kx
        replace Kr := kp b5 Kr
        replace Rl := Rl.below b5
        replace Rm := Rm.below b5
        replace bl := bl.trans (b5.mono bl.size)
        clear b5
        obtain ⟨cf0, zf0, cf1, zf1, nef⟩ := b2z Kf
        obtain ⟨cx0, zx0, cx1, zx1, nex⟩ := b2z Kx
        obtain ⟨cr0, zr0, cr1, zr1, ner⟩ := b2z Kr
        refine hK.out _ _ ⟨blk_cell Kf 0, blk_cell Kf 1, blk_cell Kx 0, blk_cell Kx 1⟩ (fun hHeld => ?_)
        clear hK K
        refine wpAnyH_ready (rs := [14]) (by kernel_rfl) (by simp) ?_
        refine AllReadyH.cons (o := ⟨_, _, _, _, _, _⟩) rfl (fun K hK => ?_) (AllReadyH.nil)
        go_simp
        refine (set_any (setF f 128 ⟨trI (decide (127 < x.v)), anyB [x]⟩) 2 ⟨trI (x.v == 0), anyB [x]⟩ _).mono ?_
        rintro e w6 ⟨rfl, b6⟩
        clear cf0 cf1 zf0 zf1 cx0 cx1 zx0 zx1 cr0 cr1 zr0 zr1 nef nex ner
        replace Kf := kp b6 Kf
        replace Kx := kp b6 Kx
        replace Kr := kp b6 Kr
        replace Rl := Rl.below b6
        replace Rm := Rm.below b6
        replace bl := bl.trans (b6.mono bl.size)
        clear b6
        obtain ⟨cf0, zf0, cf1, zf1, nef⟩ := b2z Kf
        obtain ⟨cx0, zx0, cx1, zx1, nex⟩ := b2z Kx
        obtain ⟨cr0, zr0, cr1, zr1, ner⟩ := b2z Kr
        refine hK.out _ _ ⟨blk_cell Kf 0, blk_cell Kf 1, blk_cell Kx 0, blk_cell Kx 1⟩ (fun hHeld => ?_)
        clear hK K
        refine wpAnyH_ready (rs := [15]) (by kernel_rfl) (by simp) ?_
        refine AllReadyH.cons (o := ⟨_, _, _, _, _, _⟩) rfl (fun K hK => ?_) (AllReadyH.nil)
        go_simp
        clear cf0 cf1 zf0 zf1 cx0 cx1 zx0 zx1 cr0 cr1 zr0 zr1 nef nex ner
        obtain ⟨w7, hw7⟩ : ∃ ww, ww = ((w6.setCell ⟨(w.heap.size + 1 + 1), 0, none⟩ (.int .u8 (setF (setF f 128 ⟨trI (decide (127 < x.v)), anyB [x]⟩) 2 ⟨trI (x.v == 0), anyB [x]⟩).p)).setCell ⟨(w.heap.size + 1 + 1), 1, none⟩ (.int .u8 (setF (setF f 128 ⟨trI (decide (127 < x.v)), anyB [x]⟩) 2 ⟨trI (x.v == 0), anyB [x]⟩).s)) := ⟨_, rfl⟩
        rw [← hw7]
        have nnf : (w.heap.size + 1 + 1) ≠ (w.heap.size) := by first | omega | (have := blk_lt Kf; have := blk_lt Kr; have := bl.size; omega)
        replace Kf : B2 w7 (w.heap.size) (.int .u8 f.p) (.int .u8 f.s) 23 := by rw [hw7]; exact ((oth2 nnf _ _).trans Kf)
        clear nnf
        have nnx : (w.heap.size + 1 + 1) ≠ (w.heap.size + 1) := by first | omega | (have := blk_lt Kx; have := blk_lt Kr; have := bl.size; omega)
        replace Kx : B2 w7 (w.heap.size + 1) (.int .u8 x.v) (.bool x.s) 25 := by rw [hw7]; exact ((oth2 nnx _ _).trans Kx)
        clear nnx
        replace Kr : B2 w7 (w.heap.size + 1 + 1) (.int .u8 (setF (setF f 128 ⟨trI (decide (127 < x.v)), anyB [x]⟩) 2 ⟨trI (x.v == 0), anyB [x]⟩).p) (.int .u8 (setF (setF f 128 ⟨trI (decide (127 < x.v)), anyB [x]⟩) 2 ⟨trI (x.v == 0), anyB [x]⟩).s) 23 := by rw [hw7]; exact (set2 Kr _ _)
        replace bl : Below w.heap.size w w7 := by rw [hw7]; exact bs2 bl (by first | exact Nat.le_refl _ | omega | (have := bl.size; omega)) _ _
        clear hw7
        obtain ⟨cf0, zf0, cf1, zf1, nef⟩ := b2z Kf
        obtain ⟨cx0, zx0, cx1, zx1, nex⟩ := b2z Kx
        obtain ⟨cr0, zr0, cr1, zr1, ner⟩ := b2z Kr
        refine hK.out _ _ ⟨blk_cell Kf 0, blk_cell Kf 1, blk_cell Kx 0, blk_cell Kx 1⟩ (fun hHeld => ?_)
        clear hK K
        refine wpAnyH_done (by kernel_rfl) (NoPanic.normal ?_) _
        go_wp2_with fail
        exact bodyPost_ret (v := (setF (setF f 128 ⟨trI (decide (127 < x.v)), anyB [x]⟩) 2 ⟨trI (x.v == 0), anyB [x]⟩).V) (by simp [results, Try.results15, go_sem, cr0, cr1]) rfl ⟨rfl, bl⟩
    · go_simp
      obtain ⟨w2, hw2⟩ : ∃ ww, ww = (w1.alloc (.cells #[.int .u8 x.v, .bool x.s] 25)) := ⟨_, rfl⟩
      rw [← hw2]
      have b2 : Below w1.heap.size w1 w2 := by rw [hw2]; (repeat first | exact .refl _ _ | exact (Below.refl _ _).drew | refine .drew ?_ | refine .alloc ?_ (by simp <;> omega) _)
      have Rm : ByAt w2 (some ⟨w1.heap.size, 0, none⟩) [x] := by rw [hw2]; exact byAt1 _ _ x
      clear hw2
      clear cf0 cf1 zf0 zf1 cx0 cx1 zx0 zx1 cr0 cr1 zr0 zr1 nef nex ner
      replace Kf := kp b2 Kf
      replace Kx := kp b2 Kx
      replace Kr := kp b2 Kr
      replace Rl := Rl.below b2
      replace bl := bl.trans (b2.mono bl.size)
      clear b2
      obtain ⟨cf0, zf0, cf1, zf1, nef⟩ := b2z Kf
      obtain ⟨cx0, zx0, cx1, zx1, nex⟩ := b2z Kx
      obtain ⟨cr0, zr0, cr1, zr1, ner⟩ := b2z Kr
      refine hK.out _ _ ⟨blk_cell Kf 0, blk_cell Kf 1, blk_cell Kx 0, blk_cell Kx 1⟩ (fun hHeld => ?_)
      clear hK K
      refine wpAnyH_ready (rs := [6]) (by kernel_rfl) (by simp) ?_
      refine AllReadyH.cons (o := ⟨_, _, _, _, _, _⟩) rfl (fun K hK => ?_) (AllReadyH.nil)
      go_simp
      refine (truth_any _ [x] _ 1 _ rfl (by omega) Rl).mono ?_
      rintro e w3 ⟨rfl, b3⟩
      clear cf0 cf1 zf0 zf1 cx0 cx1 zx0 zx1 cr0 cr1 zr0 zr1 nef nex ner
      replace Kf := kp b3 Kf
      replace Kx := kp b3 Kx
      replace Kr := kp b3 Kr
      replace Rl := Rl.below b3
      replace Rm := Rm.below b3
      replace bl := bl.trans (b3.mono bl.size)
      clear b3
      obtain ⟨cf0, zf0, cf1, zf1, nef⟩ := b2z Kf
      obtain ⟨cx0, zx0, cx1, zx1, nex⟩ := b2z Kx
      obtain ⟨cr0, zr0, cr1, zr1, ner⟩ := b2z Kr
      refine hK.out _ _ ⟨blk_cell Kf 0, blk_cell Kf 1, blk_cell Kx 0, blk_cell Kx 1⟩ (fun hHeld => ?_)
      clear hK K
      refine wpAnyH_ready (rs := [7]) (by kernel_rfl) (by simp) ?_
      refine AllReadyH.cons (o := ⟨_, _, _, _, _, _⟩) rfl (fun K hK => ?_) (AllReadyH.nil)
      go_simp
      refine (set_any f 128 ⟨trI (decide (127 < x.v)), anyB [x]⟩ _).mono ?_
      rintro e w4 ⟨rfl, b4⟩
      clear cf0 cf1 zf0 zf1 cx0 cx1 zx0 zx1 cr0 cr1 zr0 zr1 nef nex ner
      replace Kf := kp b4 Kf
      replace Kx := kp b4 Kx
      replace Kr := kp b4 Kr
      replace Rl := Rl.below b4
      replace Rm := Rm.below b4
      replace bl := bl.trans (b4.mono bl.size)
      clear b4
      obtain ⟨cf0, zf0, cf1, zf1, nef⟩ := b2z Kf
      obtain ⟨cx0, zx0, cx1, zx1, nex⟩ := b2z Kx
      obtain ⟨cr0, zr0, cr1, zr1, ner⟩ := b2z Kr
      refine hK.out _ _ ⟨blk_cell Kf 0, blk_cell Kf 1, blk_cell Kx 0, blk_cell Kx 1⟩ (fun hHeld => ?_)
      clear hK K
      refine wpAnyH_ready (rs := [13]) (by kernel_rfl) (by simp) ?_
      refine AllReadyH.cons (o := ⟨_, _, _, _, _, _⟩) rfl (fun K hK => ?_) (AllReadyH.nil)
      go_simp
      refine (truth_any _ [x] _ 1 _ rfl (by omega) Rm).mono ?_
      rintro e w5 ⟨rfl, b5⟩
      clear cf0 cf1 zf0 zf1 cx0 cx1 zx0 zx1 cr0 cr1 zr0 zr1 nef nex ner
      replace Kf := kp b5 Kf
      replace Kx := kp b5 Kx
      replace Kr := kp b5 Kr
      replace Rl := Rl.below b5
      replace Rm := Rm.below b5
      replace bl := bl.trans (b5.mono bl.size)
      clear b5
      obtain ⟨cf0, zf0, cf1, zf1, nef⟩ := b2z Kf
      obtain ⟨cx0, zx0, cx1, zx1, nex⟩ := b2z Kx
      obtain ⟨cr0, zr0, cr1, zr1, ner⟩ := b2z Kr
      refine hK.out _ _ ⟨blk_cell Kf 0, blk_cell Kf 1, blk_cell Kx 0, blk_cell Kx 1⟩ (fun hHeld => ?_)
      clear hK K
      refine wpAnyH_ready (rs := [14]) (by kernel_rfl) (by simp) ?_
      refine AllReadyH.cons (o := ⟨_, _, _, _, _, _⟩) rfl (fun K hK => ?_) (AllReadyH.nil)
      go_simp
      refine (set_any (setF f 128 ⟨trI (decide (127 < x.v)), anyB [x]⟩) 2 ⟨trI (x.v == 0), anyB [x]⟩ _).mono ?_
      rintro e w6 ⟨rfl, b6⟩
      clear cf0 cf1 zf0 zf1 cx0 cx1 zx0 zx1 cr0 cr1 zr0 zr1 nef nex ner
      replace Kf := kp b6 Kf
      replace Kx := kp b6 Kx
      replace Kr := kp b6 Kr
      replace Rl := Rl.below b6
      replace Rm := Rm.below b6
      replace bl := bl.trans (b6.mono bl.size)
      clear b6
      obtain ⟨cf0, zf0, cf1, zf1, nef⟩ := b2z Kf
      obtain ⟨cx0, zx0, cx1, zx1, nex⟩ := b2z Kx
      obtain ⟨cr0, zr0, cr1, zr1, ner⟩ := b2z Kr
      refine hK.out _ _ ⟨blk_cell Kf 0, blk_cell Kf 1, blk_cell Kx 0, blk_cell Kx 1⟩ (fun hHeld => ?_)
      clear hK K
      refine wpAnyH_ready (rs := [15]) (by kernel_rfl) (by simp) ?_
      refine AllReadyH.cons (o := ⟨_, _, _, _, _, _⟩) rfl (fun K hK => ?_) (AllReadyH.nil)
      go_simp
      clear cf0 cf1 zf0 zf1 cx0 cx1 zx0 zx1 cr0 cr1 zr0 zr1 nef nex ner
      obtain ⟨w7, hw7⟩ : ∃ ww, ww = ((w6.setCell ⟨(w.heap.size + 1 + 1), 0, none⟩ (.int .u8 (setF (setF f 128 ⟨trI (decide (127 < x.v)), anyB [x]⟩) 2 ⟨trI (x.v == 0), anyB [x]⟩).p)).setCell ⟨(w.heap.size + 1 + 1), 1, none⟩ (.int .u8 (setF (setF f 128 ⟨trI (decide (127 < x.v)), anyB [x]⟩) 2 ⟨trI (x.v == 0), anyB [x]⟩).s)) := ⟨_, rfl⟩
      rw [← hw7]
      have nnf : (w.heap.size + 1 + 1) ≠ (w.heap.size) := by first | omega | (have := blk_lt Kf; have := blk_lt Kr; have := bl.size; omega)
      replace Kf : B2 w7 (w.heap.size) (.int .u8 f.p) (.int .u8 f.s) 23 := by rw [hw7]; exact ((oth2 nnf _ _).trans Kf)
      clear nnf
      have nnx : (w.heap.size + 1 + 1) ≠ (w.heap.size + 1) := by first | omega | (have := blk_lt Kx; have := blk_lt Kr; have := bl.size; omega)
      replace Kx : B2 w7 (w.heap.size + 1) (.int .u8 x.v) (.bool x.s) 25 := by rw [hw7]; exact ((oth2 nnx _ _).trans Kx)
      clear nnx
      replace Kr : B2 w7 (w.heap.size + 1 + 1) (.int .u8 (setF (setF f 128 ⟨trI (decide (127 < x.v)), anyB [x]⟩) 2 ⟨trI (x.v == 0), anyB [x]⟩).p) (.int .u8 (setF (setF f 128 ⟨trI (decide (127 < x.v)), anyB [x]⟩) 2 ⟨trI (x.v == 0), anyB [x]⟩).s) 23 := by rw [hw7]; exact (set2 Kr _ _)
      replace bl : Below w.heap.size w w7 := by rw [hw7]; exact bs2 bl (by first | exact Nat.le_refl _ | omega | (have := bl.size; omega)) _ _
      clear hw7
      obtain ⟨cf0, zf0, cf1, zf1, nef⟩ := b2z Kf
      obtain ⟨cx0, zx0, cx1, zx1, nex⟩ := b2z Kx
      obtain ⟨cr0, zr0, cr1, zr1, ner⟩ := b2z Kr
      refine hK.out _ _ ⟨blk_cell Kf 0, blk_cell Kf 1, blk_cell Kx 0, blk_cell Kx 1⟩ (fun hHeld => ?_)
      clear hK K
      refine wpAnyH_done (by kernel_rfl) (NoPanic.normal ?_) _
      go_wp2_with fail
      exact bodyPost_ret (v := (setF (setF f 128 ⟨trI (decide (127 < x.v)), anyB [x]⟩) 2 ⟨trI (x.v == 0), anyB [x]⟩).V) (by simp [results, Try.results15, go_sem, cr0, cr1]) rfl ⟨rfl, bl⟩
  · go_simp
    obtain ⟨w1, hw1⟩ : ∃ ww, ww = (w0.alloc (.cells #[.int .u8 x.v, .bool x.s] 25)).drew := ⟨_, rfl⟩
    rw [← hw1]
    have b1 : Below w0.heap.size w0 w1 := by rw [hw1]; (repeat first | exact .refl _ _ | exact (Below.refl _ _).drew | refine .drew ?_ | refine .alloc ?_ (by simp <;> omega) _)
    have Rm : ByAt w1 (some ⟨w0.heap.size, 0, none⟩) [x] := by rw [hw1]; exact (byAt1 _ _ x).below (Below.refl _ _).drew
    clear hw1
    clear cf0 cf1 zf0 zf1 cx0 cx1 zx0 zx1 cr0 cr1 zr0 zr1 nef nex ner
    replace Kf := kp b1 Kf
    replace Kx := kp b1 Kx
    replace Kr := kp b1 Kr
    replace bl := bl.trans (b1.mono bl.size)
    clear b1
    obtain ⟨cf0, zf0, cf1, zf1, nef⟩ := b2z Kf
    obtain ⟨cx0, zx0, cx1, zx1, nex⟩ := b2z Kx
    obtain ⟨cr0, zr0, cr1, zr1, ner⟩ := b2z Kr
    refine hK.out _ _ ⟨blk_cell Kf 0, blk_cell Kf 1, blk_cell Kx 0, blk_cell Kx 1⟩ (fun hHeld => ?_)
    clear hK K
    refine wpAnyH_ready (rs := [5]) (by kernel_rfl) (by simp) ?_
    refine AllReadyH.cons (o := ⟨_, _, _, _, _, _⟩) rfl (fun K hK => ?_) (AllReadyH.nil)
    go_simp
    obtain ⟨w2, hw2⟩ : ∃ ww, ww = (w1.alloc (.cells #[.int .u8 x.v, .bool x.s] 25)) := ⟨_, rfl⟩
    rw [← hw2]
    have b2 : Below w1.heap.size w1 w2 := by rw [hw2]; (repeat first | exact .refl _ _ | exact (Below.refl _ _).drew | refine .drew ?_ | refine .alloc ?_ (by simp <;> omega) _)
    have Rl : ByAt w2 (some ⟨w1.heap.size, 0, none⟩) [x] := by rw [hw2]; exact byAt1 _ _ x
    clear hw2
    clear cf0 cf1 zf0 zf1 cx0 cx1 zx0 zx1 cr0 cr1 zr0 zr1 nef nex ner
    replace Kf := kp b2 Kf
    replace Kx := kp b2 Kx
    replace Kr := kp b2 Kr
    replace Rm := Rm.below b2
    replace bl := bl.trans (b2.mono bl.size)
    clear b2
    obtain ⟨cf0, zf0, cf1, zf1, nef⟩ := b2z Kf
    obtain ⟨cx0, zx0, cx1, zx1, nex⟩ := b2z Kx
    obtain ⟨cr0, zr0, cr1, zr1, ner⟩ := b2z Kr
    refine hK.out _ _ ⟨blk_cell Kf 0, blk_cell Kf 1, blk_cell Kx 0, blk_cell Kx 1⟩ (fun hHeld => ?_)
    clear hK K
    refine wpAnyH_ready (rs := [6]) (by kernel_rfl) (by simp) ?_
    refine AllReadyH.cons (o := ⟨_, _, _, _, _, _⟩) rfl (fun K hK => ?_) (AllReadyH.nil)
    go_simp
    refine (truth_any _ [x] _ 1 _ rfl (by omega) Rl).mono ?_
    rintro e w3 ⟨rfl, b3⟩
    clear cf0 cf1 zf0 zf1 cx0 cx1 zx0 zx1 cr0 cr1 zr0 zr1 nef nex ner
    replace Kf := kp b3 Kf
    replace Kx := kp b3 Kx
    replace Kr := kp b3 Kr
    replace Rm := Rm.below b3
    replace Rl := Rl.below b3
    replace bl := bl.trans (b3.mono bl.size)
    clear b3
    obtain ⟨cf0, zf0, cf1, zf1, nef⟩ := b2z Kf
    obtain ⟨cx0, zx0, cx1, zx1, nex⟩ := b2z Kx
    obtain ⟨cr0, zr0, cr1, zr1, ner⟩ := b2z Kr
    refine hK.out _ _ ⟨blk_cell Kf 0, blk_cell Kf 1, blk_cell Kx 0, blk_cell Kx 1⟩ (fun hHeld => ?_)
    clear hK K
    refine wpAnyH_ready (rs := [7]) (by kernel_rfl) (by simp) ?_
    refine AllReadyH.cons (o := ⟨_, _, _, _, _, _⟩) rfl (fun K hK => ?_) (AllReadyH.nil)
    go_simp
    refine (set_any f 128 ⟨trI (decide (127 < x.v)), anyB [x]⟩ _).mono ?_
    rintro e w4 ⟨rfl, b4⟩
    clear cf0 cf1 zf0 zf1 cx0 cx1 zx0 zx1 cr0 cr1 zr0 zr1 nef nex ner
    replace Kf := kp b4 Kf
    replace Kx := kp b4 Kx
    replace Kr := kp b4 Kr
    replace Rm := Rm.below b4
    replace Rl := Rl.below b4
    replace bl := bl.trans (b4.mono bl.size)
    clear b4
    obtain ⟨cf0, zf0, cf1, zf1, nef⟩ := b2z Kf
    obtain ⟨cx0, zx0, cx1, zx1, nex⟩ := b2z Kx
    obtain ⟨cr0, zr0, cr1, zr1, ner⟩ := b2z Kr
    refine hK.out _ _ ⟨blk_cell Kf 0, blk_cell Kf 1, blk_cell Kx 0, blk_cell Kx 1⟩ (fun hHeld => ?_)
    clear hK K
    refine wpAnyH_ready (rs := [13]) (by kernel_rfl) (by simp) ?_
    refine AllReadyH.cons (o := ⟨_, _, _, _, _, _⟩) rfl (fun K hK => ?_) (AllReadyH.nil)
    go_simp
    refine (truth_any _ [x] _ 1 _ rfl (by omega) Rm).mono ?_
    rintro e w5 ⟨rfl, b5⟩
    clear cf0 cf1 zf0 zf1 cx0 cx1 zx0 zx1 cr0 cr1 zr0 zr1 nef nex ner
    replace Kf := kp b5 Kf
    replace Kx := kp b5 Kx
    replace Kr := kp b5 Kr
    replace Rm := Rm.below b5
    replace Rl := Rl.below b5
    replace bl := bl.trans (b5.mono bl.size)
    clear b5
    obtain ⟨cf0, zf0, cf1, zf1, nef⟩ := b2z Kf
    obtain ⟨cx0, zx0, cx1, zx1, nex⟩ := b2z Kx
    obtain ⟨cr0, zr0, cr1, zr1, ner⟩ := b2z Kr
    refine hK.out _ _ ⟨blk_cell Kf 0, blk_cell Kf 1, blk_cell Kx 0, blk_cell Kx 1⟩ (fun hHeld => ?_)
    clear hK K
    refine wpAnyH_ready (rs := [14]) (by kernel_rfl) (by simp) ?_
    refine AllReadyH.cons (o := ⟨_, _, _, _, _, _⟩) rfl (fun K hK => ?_) (AllReadyH.nil)
    go_simp
    refine (set_any (setF f 128 ⟨trI (decide (127 < x.v)), anyB [x]⟩) 2 ⟨trI (x.v == 0), anyB [x]⟩ _).mono ?_
    rintro e w6 ⟨rfl, b6⟩
    clear cf0 cf1 zf0 zf1 cx0 cx1 zx0 zx1 cr0 cr1 zr0 zr1 nef nex ner
    replace Kf := kp b6 Kf
    replace Kx := kp b6 Kx
    replace Kr := kp b6 Kr
    replace Rm := Rm.below b6
    replace Rl := Rl.below b6
    replace bl := bl.trans (b6.mono bl.size)
    clear b6
    obtain ⟨cf0, zf0, cf1, zf1, nef⟩ := b2z Kf
    obtain ⟨cx0, zx0, cx1, zx1, nex⟩ := b2z Kx
    obtain ⟨cr0, zr0, cr1, zr1, ner⟩ := b2z Kr
    refine hK.out _ _ ⟨blk_cell Kf 0, blk_cell Kf 1, blk_cell Kx 0, blk_cell Kx 1⟩ (fun hHeld => ?_)
    clear hK K
    refine wpAnyH_ready (rs := [15]) (by kernel_rfl) (by simp) ?_
    refine AllReadyH.cons (o := ⟨_, _, _, _, _, _⟩) rfl (fun K hK => ?_) (AllReadyH.nil)
    go_simp
    clear cf0 cf1 zf0 zf1 cx0 cx1 zx0 zx1 cr0 cr1 zr0 zr1 nef nex ner
    obtain ⟨w7, hw7⟩ : ∃ ww, ww = ((w6.setCell ⟨(w.heap.size + 1 + 1), 0, none⟩ (.int .u8 (setF (setF f 128 ⟨trI (decide (127 < x.v)), anyB [x]⟩) 2 ⟨trI (x.v == 0), anyB [x]⟩).p)).setCell ⟨(w.heap.size + 1 + 1), 1, none⟩ (.int .u8 (setF (setF f 128 ⟨trI (decide (127 < x.v)), anyB [x]⟩) 2 ⟨trI (x.v == 0), anyB [x]⟩).s)) := ⟨_, rfl⟩
    rw [← hw7]
    have nnf : (w.heap.size + 1 + 1) ≠ (w.heap.size) := by first | omega | (have := blk_lt Kf; have := blk_lt Kr; have := bl.size; omega)
    replace Kf : B2 w7 (w.heap.size) (.int .u8 f.p) (.int .u8 f.s) 23 := by rw [hw7]; exact ((oth2 nnf _ _).trans Kf)
    clear nnf
    have nnx : (w.heap.size + 1 + 1) ≠ (w.heap.size + 1) := by first | omega | (have := blk_lt Kx; have := blk_lt Kr; have := bl.size; omega)
    replace Kx : B2 w7 (w.heap.size + 1) (.int .u8 x.v) (.bool x.s) 25 := by rw [hw7]; exact ((oth2 nnx _ _).trans Kx)
    clear nnx
    replace Kr : B2 w7 (w.heap.size + 1 + 1) (.int .u8 (setF (setF f 128 ⟨trI (decide (127 < x.v)), anyB [x]⟩) 2 ⟨trI (x.v == 0), anyB [x]⟩).p) (.int .u8 (setF (setF f 128 ⟨trI (decide (127 < x.v)), anyB [x]⟩) 2 ⟨trI (x.v == 0), anyB [x]⟩).s) 23 := by rw [hw7]; exact (set2 Kr _ _)
    replace bl : Below w.heap.size w w7 := by rw [hw7]; exact bs2 bl (by first | exact Nat.le_refl _ | omega | (have := bl.size; omega)) _ _
    clear hw7
    obtain ⟨cf0, zf0, cf1, zf1, nef⟩ := b2z Kf
    obtain ⟨cx0, zx0, cx1, zx1, nex⟩ := b2z Kx
    obtain ⟨cr0, zr0, cr1, zr1, ner⟩ := b2z Kr
    refine hK.out _ _ ⟨blk_cell Kf 0, blk_cell Kf 1, blk_cell Kx 0, blk_cell Kx 1⟩ (fun hHeld => ?_)
    clear hK K
    refine wpAnyH_done (by kernel_rfl) (NoPanic.normal ?_) _
    go_wp2_with fail
    exact bodyPost_ret (v := (setF (setF f 128 ⟨trI (decide (127 < x.v)), anyB [x]⟩) 2 ⟨trI (x.v == 0), anyB [x]⟩).V) (by simp [results, Try.results15, go_sem, cr0, cr1]) rfl ⟨rfl, bl⟩
set_option maxHeartbeats 1600000 in
theorem shifted_any (f : Fl) (x y : By) (w : World) : Calls Try.prog 54 #[f.V, x.V, y.V] w fun e w' => e = .returned (.tuple #[x.V, (nzF (setF f 1 y) x).V]) ∧ Below w.heap.size w w' := by
  go_enter Try.func54, Try.ntmps54
  go_upto_region 1 with fail
  obtain ⟨w0, hw0⟩ : ∃ ww, ww = (((((w.alloc (.cells #[.int .u8 f.p, .int .u8 f.s] 23)).alloc (.cells #[.int .u8 x.v, .bool x.s] 25)).alloc (.cells #[.int .u8 y.v, .bool y.s] 25)).alloc (.cells #[.int .u8 0, .bool false] 25)).alloc (.cells #[.int .u8 0, .int .u8 0] 23)) := ⟨_, rfl⟩
  rw [← hw0]
  have Kf : B2 w0 (w.heap.size) (.int .u8 f.p) (.int .u8 f.s) 23 := by rw [hw0]; exact blk_alloc (blk_alloc (blk_alloc (blk_alloc (blk_new' _ (by simp)) _) _) _) _
  have Kx : B2 w0 (w.heap.size + 1) (.int .u8 x.v) (.bool x.s) 25 := by rw [hw0]; exact blk_alloc (blk_alloc (blk_alloc (blk_new' _ (by simp)) _) _) _
  have Ky : B2 w0 (w.heap.size + 1 + 1) (.int .u8 y.v) (.bool y.s) 25 := by rw [hw0]; exact blk_alloc (blk_alloc (blk_new' _ (by simp)) _) _
  have Ko : B2 w0 (w.heap.size + 1 + 1 + 1) (.int .u8 0) (.bool false) 25 := by rw [hw0]; exact blk_alloc (blk_new' _ (by simp)) _
  have Kr : B2 w0 (w.heap.size + 1 + 1 + 1 + 1) (.int .u8 0) (.int .u8 0) 23 := by rw [hw0]; exact blk_new' _ (by simp)
  have qfx : w.heap.size ≠ w.heap.size + 1 := by omega
  have qfy : w.heap.size ≠ w.heap.size + 1 + 1 := by omega
  have qfo : w.heap.size ≠ w.heap.size + 1 + 1 + 1 := by omega
  have qfr : w.heap.size ≠ w.heap.size + 1 + 1 + 1 + 1 := by omega
  have qxf : w.heap.size + 1 ≠ w.heap.size := by omega
  have qxy : w.heap.size + 1 ≠ w.heap.size + 1 + 1 := by omega
  have qxo : w.heap.size + 1 ≠ w.heap.size + 1 + 1 + 1 := by omega
  have qxr : w.heap.size + 1 ≠ w.heap.size + 1 + 1 + 1 + 1 := by omega
  have qyf : w.heap.size + 1 + 1 ≠ w.heap.size := by omega
  have qyx : w.heap.size + 1 + 1 ≠ w.heap.size + 1 := by omega
  have qyo : w.heap.size + 1 + 1 ≠ w.heap.size + 1 + 1 + 1 := by omega
  have qyr : w.heap.size + 1 + 1 ≠ w.heap.size + 1 + 1 + 1 + 1 := by omega
  have qof : w.heap.size + 1 + 1 + 1 ≠ w.heap.size := by omega
  have qox : w.heap.size + 1 + 1 + 1 ≠ w.heap.size + 1 := by omega
  have qoy : w.heap.size + 1 + 1 + 1 ≠ w.heap.size + 1 + 1 := by omega
  have qor : w.heap.size + 1 + 1 + 1 ≠ w.heap.size + 1 + 1 + 1 + 1 := by omega
  have qrf : w.heap.size + 1 + 1 + 1 + 1 ≠ w.heap.size := by omega
  have qrx : w.heap.size + 1 + 1 + 1 + 1 ≠ w.heap.size + 1 := by omega
  have qry : w.heap.size + 1 + 1 + 1 + 1 ≠ w.heap.size + 1 + 1 := by omega
  have qro : w.heap.size + 1 + 1 + 1 + 1 ≠ w.heap.size + 1 + 1 + 1 := by omega
  have bl : Below w.heap.size w w0 := by rw [hw0]; (repeat first | exact .refl _ _ | exact (Below.refl _ _).drew | refine .drew ?_ | refine .alloc ?_ (by simp <;> omega) _)
  clear hw0
  obtain ⟨cf0, zf0, cf1, zf1, nef⟩ := b2z Kf
  obtain ⟨cx0, zx0, cx1, zx1, nex⟩ := b2z Kx
  obtain ⟨cy0, zy0, cy1, zy1, ney⟩ := b2z Ky
  obtain ⟨co0, zo0, co1, zo1, neo⟩ := b2z Ko
  obtain ⟨cr0, zr0, cr1, zr1, ner⟩ := b2z Kr
  refine wp_region_noPanic ?_
  refine wp_region_held_drew (S := (fun w' => w'.cell? ⟨(w.heap.size), 0, none⟩ = some (.int .u8 f.p) ∧ w'.cell? ⟨(w.heap.size), 1, none⟩ = some (.int .u8 f.s) ∧ w'.cell? ⟨(w.heap.size + 1), 0, none⟩ = some (.int .u8 x.v) ∧ w'.cell? ⟨(w.heap.size + 1), 1, none⟩ = some (.bool x.s) ∧ w'.cell? ⟨(w.heap.size + 1 + 1), 0, none⟩ = some (.int .u8 y.v) ∧ w'.cell? ⟨(w.heap.size + 1 + 1), 1, none⟩ = some (.bool y.s))) (by kernel_rfl) ⟨blk_cell Kf 0, blk_cell Kf 1, blk_cell Kx 0, blk_cell Kx 1, blk_cell Ky 0, blk_cell Ky 1⟩ (fun hHeld => ?_)
  refine tk 0 (v := ?_) rfl ?_ ?_; rotate_left; (focus (intro w hSw; (try dsimp only at hSw); go_simp; with_reducible rfl)); simp only [Act.put, tA, tB, tC]
  refine tk 1 (v := ?_) rfl ?_ ?_; rotate_left; (focus (intro w hSw; (try dsimp only at hSw); go_simp; with_reducible rfl)); simp only [Act.put, tA, tB, tC]
  refine tk 2 (v := ?_) rfl ?_ ?_; rotate_left; (focus (intro w hSw; (try dsimp only at hSw); go_simp; with_reducible rfl)); simp only [Act.put, tA, tB, tC]
  refine tk 4 (v := ?_) rfl ?_ ?_; rotate_left; (focus (intro w hSw; (try dsimp only at hSw); go_simp; with_reducible rfl)); simp only [Act.put, tA, tB, tC]
  refine wpAnyH_ready (rs := [3]) (by kernel_rfl) (by simp) ?_
  refine AllReadyH.cons (o := ⟨_, _, _, _, _, _⟩) rfl (fun K hK => ?_) (AllReadyH.nil)
  go_simp
  refine (set_any f 1 y _).mono ?_
  rintro e w1 ⟨rfl, b1⟩
  replace b1 : Below w0.heap.size w0 w1 := (Below.refl _ _).drew.trans b1
  clear cf0 cf1 zf0 zf1 cx0 cx1 zx0 zx1 cy0 cy1 zy0 zy1 co0 co1 zo0 zo1 cr0 cr1 zr0 zr1 nef nex ney neo ner
  replace Kf := kp b1 Kf
  replace Kx := kp b1 Kx
  replace Ky := kp b1 Ky
  replace Ko := kp b1 Ko
  replace Kr := kp b1 Kr
  replace bl := bl.trans (b1.mono bl.size)
  clear b1
  obtain ⟨cf0, zf0, cf1, zf1, nef⟩ := b2z Kf
  obtain ⟨cx0, zx0, cx1, zx1, nex⟩ := b2z Kx
  obtain ⟨cy0, zy0, cy1, zy1, ney⟩ := b2z Ky
  obtain ⟨co0, zo0, co1, zo1, neo⟩ := b2z Ko
  obtain ⟨cr0, zr0, cr1, zr1, ner⟩ := b2z Kr
  refine hK.out _ _ ⟨blk_cell Kf 0, blk_cell Kf 1, blk_cell Kx 0, blk_cell Kx 1, blk_cell Ky 0, blk_cell Ky 1⟩ (fun hHeld => ?_)
  clear hK K
  refine wpAnyH_ready (rs := [5]) (by kernel_rfl) (by simp) ?_
  refine AllReadyH.cons (o := ⟨_, _, _, _, _, _⟩) rfl (fun K hK => ?_) (AllReadyH.nil)
  go_simp
  refine (nz_any (setF f 1 y) x _).mono ?_
  rintro e w2 ⟨rfl, b2⟩
  clear cf0 cf1 zf0 zf1 cx0 cx1 zx0 zx1 cy0 cy1 zy0 zy1 co0 co1 zo0 zo1 cr0 cr1 zr0 zr1 nef nex ney neo ner
  replace Kf := kp b2 Kf
  replace Kx := kp b2 Kx
  replace Ky := kp b2 Ky
  replace Ko := kp b2 Ko
  replace Kr := kp b2 Kr
  replace bl := bl.trans (b2.mono bl.size)
  clear b2
  obtain ⟨cf0, zf0, cf1, zf1, nef⟩ := b2z Kf
  obtain ⟨cx0, zx0, cx1, zx1, nex⟩ := b2z Kx
  obtain ⟨cy0, zy0, cy1, zy1, ney⟩ := b2z Ky
  obtain ⟨co0, zo0, co1, zo1, neo⟩ := b2z Ko
  obtain ⟨cr0, zr0, cr1, zr1, ner⟩ := b2z Kr
  refine hK.out _ _ ⟨blk_cell Kf 0, blk_cell Kf 1, blk_cell Kx 0, blk_cell Kx 1, blk_cell Ky 0, blk_cell Ky 1⟩ (fun hHeld => ?_)
  clear hK K
  refine wpAnyH_ready (rs := [6]) (by kernel_rfl) (by simp) ?_
  refine AllReadyH.cons (o := ⟨_, _, _, _, _, _⟩) rfl (fun K hK => ?_) (AllReadyH.nil)
  go_simp
  clear cf0 cf1 zf0 zf1 cx0 cx1 zx0 zx1 cy0 cy1 zy0 zy1 co0 co1 zo0 zo1 cr0 cr1 zr0 zr1 nef nex ney neo ner
  obtain ⟨w3, hw3⟩ : ∃ ww, ww = ((w2.setCell ⟨(w.heap.size + 1 + 1 + 1), 0, none⟩ (.int .u8 x.v)).setCell ⟨(w.heap.size + 1 + 1 + 1), 1, none⟩ (.bool x.s)) := ⟨_, rfl⟩
  rw [← hw3]
  have nnf : (w.heap.size + 1 + 1 + 1) ≠ (w.heap.size) := by first | omega | (have := blk_lt Kf; have := blk_lt Ko; have := bl.size; omega)
  replace Kf : B2 w3 (w.heap.size) (.int .u8 f.p) (.int .u8 f.s) 23 := by rw [hw3]; exact ((oth2 nnf _ _).trans Kf)
  clear nnf
  have nnx : (w.heap.size + 1 + 1 + 1) ≠ (w.heap.size + 1) := by first | omega | (have := blk_lt Kx; have := blk_lt Ko; have := bl.size; omega)
  replace Kx : B2 w3 (w.heap.size + 1) (.int .u8 x.v) (.bool x.s) 25 := by rw [hw3]; exact ((oth2 nnx _ _).trans Kx)
  clear nnx
  have nny : (w.heap.size + 1 + 1 + 1) ≠ (w.heap.size + 1 + 1) := by first | omega | (have := blk_lt Ky; have := blk_lt Ko; have := bl.size; omega)
  replace Ky : B2 w3 (w.heap.size + 1 + 1) (.int .u8 y.v) (.bool y.s) 25 := by rw [hw3]; exact ((oth2 nny _ _).trans Ky)
  clear nny
  have nnr : (w.heap.size + 1 + 1 + 1) ≠ (w.heap.size + 1 + 1 + 1 + 1) := by first | omega | (have := blk_lt Kr; have := blk_lt Ko; have := bl.size; omega)
  replace Kr : B2 w3 (w.heap.size + 1 + 1 + 1 + 1) (.int .u8 0) (.int .u8 0) 23 := by rw [hw3]; exact ((oth2 nnr _ _).trans Kr)
  clear nnr
  replace Ko : B2 w3 (w.heap.size + 1 + 1 + 1) (.int .u8 x.v) (.bool x.s) 25 := by rw [hw3]; exact (set2 Ko _ _)
  replace bl : Below w.heap.size w w3 := by rw [hw3]; exact bs2 bl (by first | exact Nat.le_refl _ | omega | (have := bl.size; omega)) _ _
  clear hw3
  obtain ⟨cf0, zf0, cf1, zf1, nef⟩ := b2z Kf
  obtain ⟨cx0, zx0, cx1, zx1, nex⟩ := b2z Kx
  obtain ⟨cy0, zy0, cy1, zy1, ney⟩ := b2z Ky
  obtain ⟨co0, zo0, co1, zo1, neo⟩ := b2z Ko
  obtain ⟨cr0, zr0, cr1, zr1, ner⟩ := b2z Kr
  refine hK.out _ _ ⟨blk_cell Kf 0, blk_cell Kf 1, blk_cell Kx 0, blk_cell Kx 1, blk_cell Ky 0, blk_cell Ky 1⟩ (fun hHeld => ?_)
  clear hK K
  refine wpAnyH_ready (rs := [7]) (by kernel_rfl) (by simp) ?_
  refine AllReadyH.cons (o := ⟨_, _, _, _, _, _⟩) rfl (fun K hK => ?_) (AllReadyH.nil)
  go_simp
  clear cf0 cf1 zf0 zf1 cx0 cx1 zx0 zx1 cy0 cy1 zy0 zy1 co0 co1 zo0 zo1 cr0 cr1 zr0 zr1 nef nex ney neo ner
  obtain ⟨w4, hw4⟩ : ∃ ww, ww = ((w3.setCell ⟨(w.heap.size + 1 + 1 + 1 + 1), 0, none⟩ (.int .u8 (nzF (setF f 1 y) x).p)).setCell ⟨(w.heap.size + 1 + 1 + 1 + 1), 1, none⟩ (.int .u8 (nzF (setF f 1 y) x).s)) := ⟨_, rfl⟩
  rw [← hw4]
  have nnf : (w.heap.size + 1 + 1 + 1 + 1) ≠ (w.heap.size) := by first | omega | (have := blk_lt Kf; have := blk_lt Kr; have := bl.size; omega)
  replace Kf : B2 w4 (w.heap.size) (.int .u8 f.p) (.int .u8 f.s) 23 := by rw [hw4]; exact ((oth2 nnf _ _).trans Kf)
  clear nnf
  have nnx : (w.heap.size + 1 + 1 + 1 + 1) ≠ (w.heap.size + 1) := by first | omega | (have := blk_lt Kx; have := blk_lt Kr; have := bl.size; omega)
  replace Kx : B2 w4 (w.heap.size + 1) (.int .u8 x.v) (.bool x.s) 25 := by rw [hw4]; exact ((oth2 nnx _ _).trans Kx)
  clear nnx
  have nny : (w.heap.size + 1 + 1 + 1 + 1) ≠ (w.heap.size + 1 + 1) := by first | omega | (have := blk_lt Ky; have := blk_lt Kr; have := bl.size; omega)
  replace Ky : B2 w4 (w.heap.size + 1 + 1) (.int .u8 y.v) (.bool y.s) 25 := by rw [hw4]; exact ((oth2 nny _ _).trans Ky)
  clear nny
  have nno : (w.heap.size + 1 + 1 + 1 + 1) ≠ (w.heap.size + 1 + 1 + 1) := by first | omega | (have := blk_lt Ko; have := blk_lt Kr; have := bl.size; omega)
  replace Ko : B2 w4 (w.heap.size + 1 + 1 + 1) (.int .u8 x.v) (.bool x.s) 25 := by rw [hw4]; exact ((oth2 nno _ _).trans Ko)
  clear nno
  replace Kr : B2 w4 (w.heap.size + 1 + 1 + 1 + 1) (.int .u8 (nzF (setF f 1 y) x).p) (.int .u8 (nzF (setF f 1 y) x).s) 23 := by rw [hw4]; exact (set2 Kr _ _)
  replace bl : Below w.heap.size w w4 := by rw [hw4]; exact bs2 bl (by first | exact Nat.le_refl _ | omega | (have := bl.size; omega)) _ _
  clear hw4
  obtain ⟨cf0, zf0, cf1, zf1, nef⟩ := b2z Kf
  obtain ⟨cx0, zx0, cx1, zx1, nex⟩ := b2z Kx
  obtain ⟨cy0, zy0, cy1, zy1, ney⟩ := b2z Ky
  obtain ⟨co0, zo0, co1, zo1, neo⟩ := b2z Ko
  obtain ⟨cr0, zr0, cr1, zr1, ner⟩ := b2z Kr
  refine hK.out _ _ ⟨blk_cell Kf 0, blk_cell Kf 1, blk_cell Kx 0, blk_cell Kx 1, blk_cell Ky 0, blk_cell Ky 1⟩ (fun hHeld => ?_)
  clear hK K
  refine wpAnyH_done (by kernel_rfl) (NoPanic.normal ?_) _
  go_wp2_with fail
  exact bodyPost_ret (v := .tuple #[x.V, (nzF (setF f 1 y) x).V]) (by simp [results, Try.results54, go_sem, co0, co1, cr0, cr1]) rfl ⟨rfl, bl⟩
set_option maxHeartbeats 1600000 in
theorem asl_any (f : Fl) (x : By) (w : World) : Calls Try.prog 33 #[f.V, x.V] w fun e w' => e = .returned (.tuple #[By.V ⟨IntKind.u8.wrap (x.v * 2), anyB [x]⟩, (nzF (setF f 1 (lbF x (x.v / 128))) ⟨IntKind.u8.wrap (x.v * 2), anyB [x]⟩).V]) ∧ Below w.heap.size w w' := by
  go_enter Try.func33, Try.ntmps33
  go_upto_region 1 with fail
  obtain ⟨w0, hw0⟩ : ∃ ww, ww = ((((w.alloc (.cells #[.int .u8 f.p, .int .u8 f.s] 23)).alloc (.cells #[.int .u8 x.v, .bool x.s] 25)).alloc (.cells #[.int .u8 0, .bool false] 25)).alloc (.cells #[.int .u8 0, .int .u8 0] 23)) := ⟨_, rfl⟩
  rw [← hw0]
  have Kf : B2 w0 (w.heap.size) (.int .u8 f.p) (.int .u8 f.s) 23 := by rw [hw0]; exact blk_alloc (blk_alloc (blk_alloc (blk_new' _ (by simp)) _) _) _
  have Kx : B2 w0 (w.heap.size + 1) (.int .u8 x.v) (.bool x.s) 25 := by rw [hw0]; exact blk_alloc (blk_alloc (blk_new' _ (by simp)) _) _
  have Ko : B2 w0 (w.heap.size + 1 + 1) (.int .u8 0) (.bool false) 25 := by rw [hw0]; exact blk_alloc (blk_new' _ (by simp)) _
  have Kr : B2 w0 (w.heap.size + 1 + 1 + 1) (.int .u8 0) (.int .u8 0) 23 := by rw [hw0]; exact blk_new' _ (by simp)
  have qfx : w.heap.size ≠ w.heap.size + 1 := by omega
  have qfo : w.heap.size ≠ w.heap.size + 1 + 1 := by omega
  have qfr : w.heap.size ≠ w.heap.size + 1 + 1 + 1 := by omega
  have qxf : w.heap.size + 1 ≠ w.heap.size := by omega
  have qxo : w.heap.size + 1 ≠ w.heap.size + 1 + 1 := by omega
  have qxr : w.heap.size + 1 ≠ w.heap.size + 1 + 1 + 1 := by omega
  have qof : w.heap.size + 1 + 1 ≠ w.heap.size := by omega
  have qox : w.heap.size + 1 + 1 ≠ w.heap.size + 1 := by omega
  have qor : w.heap.size + 1 + 1 ≠ w.heap.size + 1 + 1 + 1 := by omega
  have qrf : w.heap.size + 1 + 1 + 1 ≠ w.heap.size := by omega
  have qrx : w.heap.size + 1 + 1 + 1 ≠ w.heap.size + 1 := by omega
  have qro : w.heap.size + 1 + 1 + 1 ≠ w.heap.size + 1 + 1 := by omega
  have bl : Below w.heap.size w w0 := by rw [hw0]; (repeat first | exact .refl _ _ | exact (Below.refl _ _).drew | refine .drew ?_ | refine .alloc ?_ (by simp <;> omega) _)
  clear hw0
  obtain ⟨cf0, zf0, cf1, zf1, nef⟩ := b2z Kf
  obtain ⟨cx0, zx0, cx1, zx1, nex⟩ := b2z Kx
  obtain ⟨co0, zo0, co1, zo1, neo⟩ := b2z Ko
  obtain ⟨cr0, zr0, cr1, zr1, ner⟩ := b2z Kr
  refine wp_region_noPanic ?_
  refine wp_region_held_drew (S := (fun w' => w'.cell? ⟨(w.heap.size), 0, none⟩ = some (.int .u8 f.p) ∧ w'.cell? ⟨(w.heap.size), 1, none⟩ = some (.int .u8 f.s) ∧ w'.cell? ⟨(w.heap.size + 1), 0, none⟩ = some (.int .u8 x.v) ∧ w'.cell? ⟨(w.heap.size + 1), 1, none⟩ = some (.bool x.s))) (by kernel_rfl) ⟨blk_cell Kf 0, blk_cell Kf 1, blk_cell Kx 0, blk_cell Kx 1⟩ (fun hHeld => ?_)
  refine tk 0 (v := ?_) rfl ?_ ?_; rotate_left; (focus (intro w hSw; (try dsimp only at hSw); go_simp; with_reducible rfl)); simp only [Act.put, tA, tB, tC]
  refine tk 1 (v := ?_) rfl ?_ ?_; rotate_left; (focus (intro w hSw; (try dsimp only at hSw); go_simp; with_reducible rfl)); simp only [Act.put, tA, tB, tC]
  refine tk 2 (v := ?_) rfl ?_ ?_; rotate_left; (focus (intro w hSw; (try dsimp only at hSw); go_simp; with_reducible rfl)); simp only [Act.put, tA, tB, tC]
  refine tk 3 (v := ?_) rfl ?_ ?_; rotate_left; (focus (intro w hSw; (try dsimp only at hSw); go_simp; with_reducible rfl)); simp only [Act.put, tA, tB, tC]
  refine tk 4 (v := ?_) rfl ?_ ?_; rotate_left; (focus (intro w hSw; (try dsimp only at hSw); go_simp; with_reducible rfl)); simp only [Act.put, tA, tB, tC]
  refine tk 7 (v := ?_) rfl ?_ ?_; rotate_left; (focus (intro w hSw; (try dsimp only at hSw); go_simp; with_reducible rfl)); simp only [Act.put, tA, tB, tC]
  refine wpAnyH_ready (rs := [5]) (by kernel_rfl) (by simp) ?_
  refine AllReadyH.cons (o := ⟨_, _, _, _, _, _⟩) rfl (fun K hK => ?_) (AllReadyH.nil)
  go_simp
  obtain ⟨w1, hw1⟩ : ∃ ww, ww = (w0.alloc (.cells #[.int .u8 x.v, .bool x.s] 25)).drew := ⟨_, rfl⟩
  rw [← hw1]
  have b1 : Below w0.heap.size w0 w1 := by rw [hw1]; (repeat first | exact .refl _ _ | exact (Below.refl _ _).drew | refine .drew ?_ | refine .alloc ?_ (by simp <;> omega) _)
  have Rl : ByAt w1 (some ⟨w0.heap.size, 0, none⟩) [x] := by rw [hw1]; exact (byAt1 _ _ x).below (Below.refl _ _).drew
  clear hw1
  clear cf0 cf1 zf0 zf1 cx0 cx1 zx0 zx1 co0 co1 zo0 zo1 cr0 cr1 zr0 zr1 nef nex neo ner
  replace Kf := kp b1 Kf
  replace Kx := kp b1 Kx
  replace Ko := kp b1 Ko
  replace Kr := kp b1 Kr
  replace bl := bl.trans (b1.mono bl.size)
  clear b1
  obtain ⟨cf0, zf0, cf1, zf1, nef⟩ := b2z Kf
  obtain ⟨cx0, zx0, cx1, zx1, nex⟩ := b2z Kx
  obtain ⟨co0, zo0, co1, zo1, neo⟩ := b2z Ko
  obtain ⟨cr0, zr0, cr1, zr1, ner⟩ := b2z Kr
  refine hK.out _ _ ⟨blk_cell Kf 0, blk_cell Kf 1, blk_cell Kx 0, blk_cell Kx 1⟩ (fun hHeld => ?_)
  clear hK K
  refine wpAnyH_ready (rs := [6]) (by kernel_rfl) (by simp) ?_
  refine AllReadyH.cons (o := ⟨_, _, _, _, _, _⟩) rfl (fun K hK => ?_) (AllReadyH.nil)
  go_simp
  refine (of_any _ [x] _ 1 _ rfl (by omega) Rl).mono ?_
  rintro e w2 ⟨rfl, b2⟩
  clear cf0 cf1 zf0 zf1 cx0 cx1 zx0 zx1 co0 co1 zo0 zo1 cr0 cr1 zr0 zr1 nef nex neo ner
  replace Kf := kp b2 Kf
  replace Kx := kp b2 Kx
  replace Ko := kp b2 Ko
  replace Kr := kp b2 Kr
  replace Rl := Rl.below b2
  replace bl := bl.trans (b2.mono bl.size)
  clear b2
  obtain ⟨cf0, zf0, cf1, zf1, nef⟩ := b2z Kf
  obtain ⟨cx0, zx0, cx1, zx1, nex⟩ := b2z Kx
  obtain ⟨co0, zo0, co1, zo1, neo⟩ := b2z Ko
  obtain ⟨cr0, zr0, cr1, zr1, ner⟩ := b2z Kr
  refine hK.out _ _ ⟨blk_cell Kf 0, blk_cell Kf 1, blk_cell Kx 0, blk_cell Kx 1⟩ (fun hHeld => ?_)
  clear hK K
  refine wpAnyH_ready (rs := [8]) (by kernel_rfl) (by simp) ?_
  refine AllReadyH.cons (o := ⟨_, _, _, _, _, _⟩) rfl (fun K hK => ?_) (AllReadyH.nil)
  go_simp
  refine (lbit7 x _).mono ?_
  rintro e w3 ⟨rfl, b3⟩
  clear cf0 cf1 zf0 zf1 cx0 cx1 zx0 zx1 co0 co1 zo0 zo1 cr0 cr1 zr0 zr1 nef nex neo ner
  replace Kf := kp b3 Kf
  replace Kx := kp b3 Kx
  replace Ko := kp b3 Ko
  replace Kr := kp b3 Kr
  replace Rl := Rl.below b3
  replace bl := bl.trans (b3.mono bl.size)
  clear b3
  obtain ⟨cf0, zf0, cf1, zf1, nef⟩ := b2z Kf
  obtain ⟨cx0, zx0, cx1, zx1, nex⟩ := b2z Kx
  obtain ⟨co0, zo0, co1, zo1, neo⟩ := b2z Ko
  obtain ⟨cr0, zr0, cr1, zr1, ner⟩ := b2z Kr
  refine hK.out _ _ ⟨blk_cell Kf 0, blk_cell Kf 1, blk_cell Kx 0, blk_cell Kx 1⟩ (fun hHeld => ?_)
  clear hK K
  refine wpAnyH_ready (rs := [9]) (by kernel_rfl) (by simp) ?_
  refine AllReadyH.cons (o := ⟨_, _, _, _, _, _⟩) rfl (fun K hK => ?_) (AllReadyH.nil)
  go_simp
  refine (shifted_any f ⟨IntKind.u8.wrap (x.v * 2), anyB [x]⟩ (lbF x (x.v / 128)) _).mono ?_
  rintro e w4 ⟨rfl, b4⟩
  clear cf0 cf1 zf0 zf1 cx0 cx1 zx0 zx1 co0 co1 zo0 zo1 cr0 cr1 zr0 zr1 nef nex neo ner
  replace Kf := kp b4 Kf
  replace Kx := kp b4 Kx
  replace Ko := kp b4 Ko
  replace Kr := kp b4 Kr
  replace Rl := Rl.below b4
  replace bl := bl.trans (b4.mono bl.size)
  clear b4
  obtain ⟨cf0, zf0, cf1, zf1, nef⟩ := b2z Kf
  obtain ⟨cx0, zx0, cx1, zx1, nex⟩ := b2z Kx
  obtain ⟨co0, zo0, co1, zo1, neo⟩ := b2z Ko
  obtain ⟨cr0, zr0, cr1, zr1, ner⟩ := b2z Kr
  refine hK.out _ _ ⟨blk_cell Kf 0, blk_cell Kf 1, blk_cell Kx 0, blk_cell Kx 1⟩ (fun hHeld => ?_)
  clear hK K
  refine tk 10 (v := ?_) rfl ?_ ?_; rotate_left; (focus (intro w hSw; (try dsimp only at hSw); go_simp; with_reducible rfl)); simp only [Act.put, tA, tB, tC]
  refine tk 11 (v := ?_) rfl ?_ ?_; rotate_left; (focus (intro w hSw; (try dsimp only at hSw); go_simp; with_reducible rfl)); simp only [Act.put, tA, tB, tC]
  refine wpAnyH_ready (rs := [12]) (by kernel_rfl) (by simp) ?_
  refine AllReadyH.cons (o := ⟨_, _, _, _, _, _⟩) rfl (fun K hK => ?_) (AllReadyH.nil)
  go_simp
  clear cf0 cf1 zf0 zf1 cx0 cx1 zx0 zx1 co0 co1 zo0 zo1 cr0 cr1 zr0 zr1 nef nex neo ner
  obtain ⟨w5, hw5⟩ : ∃ ww, ww = ((w4.setCell ⟨(w.heap.size + 1 + 1), 0, none⟩ (.int .u8 (IntKind.u8.wrap (x.v * 2)))).setCell ⟨(w.heap.size + 1 + 1), 1, none⟩ (.bool (anyB [x]))) := ⟨_, rfl⟩
  rw [← hw5]
  have nnf : (w.heap.size + 1 + 1) ≠ (w.heap.size) := by first | omega | (have := blk_lt Kf; have := blk_lt Ko; have := bl.size; omega)
  replace Kf : B2 w5 (w.heap.size) (.int .u8 f.p) (.int .u8 f.s) 23 := by rw [hw5]; exact ((oth2 nnf _ _).trans Kf)
  clear nnf
  have nnx : (w.heap.size + 1 + 1) ≠ (w.heap.size + 1) := by first | omega | (have := blk_lt Kx; have := blk_lt Ko; have := bl.size; omega)
  replace Kx : B2 w5 (w.heap.size + 1) (.int .u8 x.v) (.bool x.s) 25 := by rw [hw5]; exact ((oth2 nnx _ _).trans Kx)
  clear nnx
  have nnr : (w.heap.size + 1 + 1) ≠ (w.heap.size + 1 + 1 + 1) := by first | omega | (have := blk_lt Kr; have := blk_lt Ko; have := bl.size; omega)
  replace Kr : B2 w5 (w.heap.size + 1 + 1 + 1) (.int .u8 0) (.int .u8 0) 23 := by rw [hw5]; exact ((oth2 nnr _ _).trans Kr)
  clear nnr
  replace Ko : B2 w5 (w.heap.size + 1 + 1) (.int .u8 (IntKind.u8.wrap (x.v * 2))) (.bool (anyB [x])) 25 := by rw [hw5]; exact (set2 Ko _ _)
  replace bl : Below w.heap.size w w5 := by rw [hw5]; exact bs2 bl (by first | exact Nat.le_refl _ | omega | (have := bl.size; omega)) _ _
  clear hw5
  obtain ⟨cf0, zf0, cf1, zf1, nef⟩ := b2z Kf
  obtain ⟨cx0, zx0, cx1, zx1, nex⟩ := b2z Kx
  obtain ⟨co0, zo0, co1, zo1, neo⟩ := b2z Ko
  obtain ⟨cr0, zr0, cr1, zr1, ner⟩ := b2z Kr
  refine hK.out _ _ ⟨blk_cell Kf 0, blk_cell Kf 1, blk_cell Kx 0, blk_cell Kx 1⟩ (fun hHeld => ?_)
  clear hK K
  refine wpAnyH_ready (rs := [13]) (by kernel_rfl) (by simp) ?_
  refine AllReadyH.cons (o := ⟨_, _, _, _, _, _⟩) rfl (fun K hK => ?_) (AllReadyH.nil)
  go_simp
  clear cf0 cf1 zf0 zf1 cx0 cx1 zx0 zx1 co0 co1 zo0 zo1 cr0 cr1 zr0 zr1 nef nex neo ner
  obtain ⟨w6, hw6⟩ : ∃ ww, ww = ((w5.setCell ⟨(w.heap.size + 1 + 1 + 1), 0, none⟩ (.int .u8 (nzF (setF f 1 (lbF x (x.v / 128))) ⟨IntKind.u8.wrap (x.v * 2), anyB [x]⟩).p)).setCell ⟨(w.heap.size + 1 + 1 + 1), 1, none⟩ (.int .u8 (nzF (setF f 1 (lbF x (x.v / 128))) ⟨IntKind.u8.wrap (x.v * 2), anyB [x]⟩).s)) := ⟨_, rfl⟩
  rw [← hw6]
  have nnf : (w.heap.size + 1 + 1 + 1) ≠ (w.heap.size) := by first | omega | (have := blk_lt Kf; have := blk_lt Kr; have := bl.size; omega)
  replace Kf : B2 w6 (w.heap.size) (.int .u8 f.p) (.int .u8 f.s) 23 := by rw [hw6]; exact ((oth2 nnf _ _).trans Kf)
  clear nnf
  have nnx : (w.heap.size + 1 + 1 + 1) ≠ (w.heap.size + 1) := by first | omega | (have := blk_lt Kx; have := blk_lt Kr; have := bl.size; omega)
  replace Kx : B2 w6 (w.heap.size + 1) (.int .u8 x.v) (.bool x.s) 25 := by rw [hw6]; exact ((oth2 nnx _ _).trans Kx)
  clear nnx
  have nno : (w.heap.size + 1 + 1 + 1) ≠ (w.heap.size + 1 + 1) := by first | omega | (have := blk_lt Ko; have := blk_lt Kr; have := bl.size; omega)
  replace Ko : B2 w6 (w.heap.size + 1 + 1) (.int .u8 (IntKind.u8.wrap (x.v * 2))) (.bool (anyB [x])) 25 := by rw [hw6]; exact ((oth2 nno _ _).trans Ko)
  clear nno
  replace Kr : B2 w6 (w.heap.size + 1 + 1 + 1) (.int .u8 (nzF (setF f 1 (lbF x (x.v / 128))) ⟨IntKind.u8.wrap (x.v * 2), anyB [x]⟩).p) (.int .u8 (nzF (setF f 1 (lbF x (x.v / 128))) ⟨IntKind.u8.wrap (x.v * 2), anyB [x]⟩).s) 23 := by rw [hw6]; exact (set2 Kr _ _)
  replace bl : Below w.heap.size w w6 := by rw [hw6]; exact bs2 bl (by first | exact Nat.le_refl _ | omega | (have := bl.size; omega)) _ _
  clear hw6
  obtain ⟨cf0, zf0, cf1, zf1, nef⟩ := b2z Kf
  obtain ⟨cx0, zx0, cx1, zx1, nex⟩ := b2z Kx
  obtain ⟨co0, zo0, co1, zo1, neo⟩ := b2z Ko
  obtain ⟨cr0, zr0, cr1, zr1, ner⟩ := b2z Kr
  refine hK.out _ _ ⟨blk_cell Kf 0, blk_cell Kf 1, blk_cell Kx 0, blk_cell Kx 1⟩ (fun hHeld => ?_)
  clear hK K
  refine wpAnyH_done (by kernel_rfl) (NoPanic.normal ?_) _
  go_wp2_with fail
  exact bodyPost_ret (v := .tuple #[By.V ⟨IntKind.u8.wrap (x.v * 2), anyB [x]⟩, (nzF (setF f 1 (lbF x (x.v / 128))) ⟨IntKind.u8.wrap (x.v * 2), anyB [x]⟩).V]) (by simp [results, Try.results33, go_sem, co0, co1, cr0, cr1]) rfl ⟨rfl, bl⟩
set_option maxHeartbeats 1600000 in
theorem lsr_any (f : Fl) (x : By) (w : World) : Calls Try.prog 35 #[f.V, x.V] w fun e w' => e = .returned (.tuple #[By.V ⟨x.v / 2, anyB [x]⟩, (nzF (setF f 1 (lbF x (x.v))) ⟨x.v / 2, anyB [x]⟩).V]) ∧ Below w.heap.size w w' := by
  go_enter Try.func35, Try.ntmps35
  go_upto_region 1 with fail
  obtain ⟨w0, hw0⟩ : ∃ ww, ww = ((((w.alloc (.cells #[.int .u8 f.p, .int .u8 f.s] 23)).alloc (.cells #[.int .u8 x.v, .bool x.s] 25)).alloc (.cells #[.int .u8 0, .bool false] 25)).alloc (.cells #[.int .u8 0, .int .u8 0] 23)) := ⟨_, rfl⟩
  rw [← hw0]
  have Kf : B2 w0 (w.heap.size) (.int .u8 f.p) (.int .u8 f.s) 23 := by rw [hw0]; exact blk_alloc (blk_alloc (blk_alloc (blk_new' _ (by simp)) _) _) _
  have Kx : B2 w0 (w.heap.size + 1) (.int .u8 x.v) (.bool x.s) 25 := by rw [hw0]; exact blk_alloc (blk_alloc (blk_new' _ (by simp)) _) _
  have Ko : B2 w0 (w.heap.size + 1 + 1) (.int .u8 0) (.bool false) 25 := by rw [hw0]; exact blk_alloc (blk_new' _ (by simp)) _
  have Kr : B2 w0 (w.heap.size + 1 + 1 + 1) (.int .u8 0) (.int .u8 0) 23 := by rw [hw0]; exact blk_new' _ (by simp)
  have qfx : w.heap.size ≠ w.heap.size + 1 := by omega
  have qfo : w.heap.size ≠ w.heap.size + 1 + 1 := by omega
  have qfr : w.heap.size ≠ w.heap.size + 1 + 1 + 1 := by omega
  have qxf : w.heap.size + 1 ≠ w.heap.size := by omega
  have qxo : w.heap.size + 1 ≠ w.heap.size + 1 + 1 := by omega
  have qxr : w.heap.size + 1 ≠ w.heap.size + 1 + 1 + 1 := by omega
  have qof : w.heap.size + 1 + 1 ≠ w.heap.size := by omega
  have qox : w.heap.size + 1 + 1 ≠ w.heap.size + 1 := by omega
  have qor : w.heap.size + 1 + 1 ≠ w.heap.size + 1 + 1 + 1 := by omega
  have qrf : w.heap.size + 1 + 1 + 1 ≠ w.heap.size := by omega
  have qrx : w.heap.size + 1 + 1 + 1 ≠ w.heap.size + 1 := by omega
  have qro : w.heap.size + 1 + 1 + 1 ≠ w.heap.size + 1 + 1 := by omega
  have bl : Below w.heap.size w w0 := by rw [hw0]; (repeat first | exact .refl _ _ | exact (Below.refl _ _).drew | refine .drew ?_ | refine .alloc ?_ (by simp <;> omega) _)
  clear hw0
  obtain ⟨cf0, zf0, cf1, zf1, nef⟩ := b2z Kf
  obtain ⟨cx0, zx0, cx1, zx1, nex⟩ := b2z Kx
  obtain ⟨co0, zo0, co1, zo1, neo⟩ := b2z Ko
  obtain ⟨cr0, zr0, cr1, zr1, ner⟩ := b2z Kr
  refine wp_region_noPanic ?_
  refine wp_region_held_drew (S := (fun w' => w'.cell? ⟨(w.heap.size), 0, none⟩ = some (.int .u8 f.p) ∧ w'.cell? ⟨(w.heap.size), 1, none⟩ = some (.int .u8 f.s) ∧ w'.cell? ⟨(w.heap.size + 1), 0, none⟩ = some (.int .u8 x.v) ∧ w'.cell? ⟨(w.heap.size + 1), 1, none⟩ = some (.bool x.s))) (by kernel_rfl) ⟨blk_cell Kf 0, blk_cell Kf 1, blk_cell Kx 0, blk_cell Kx 1⟩ (fun hHeld => ?_)
  refine tk 0 (v := ?_) rfl ?_ ?_; rotate_left; (focus (intro w hSw; (try dsimp only at hSw); go_simp; with_reducible rfl)); simp only [Act.put, tA, tB, tC]
  refine tk 1 (v := ?_) rfl ?_ ?_; rotate_left; (focus (intro w hSw; (try dsimp only at hSw); go_simp; with_reducible rfl)); simp only [Act.put, tA, tB, tC]
  refine tk 2 (v := ?_) rfl ?_ ?_; rotate_left; (focus (intro w hSw; (try dsimp only at hSw); go_simp; with_reducible rfl)); simp only [Act.put, tA, tB, tC]
  refine tk 3 (v := ?_) rfl ?_ ?_; rotate_left; (focus (intro w hSw; (try dsimp only at hSw); go_simp; with_reducible rfl)); simp only [Act.put, tA, tB, tC]
  refine tk 4 (v := ?_) rfl ?_ ?_; rotate_left; (focus (intro w hSw; (try dsimp only at hSw); go_simp; with_reducible rfl)); simp only [Act.put, tA, tB, tC]
  refine tk 7 (v := ?_) rfl ?_ ?_; rotate_left; (focus (intro w hSw; (try dsimp only at hSw); go_simp; with_reducible rfl)); simp only [Act.put, tA, tB, tC]
  refine wpAnyH_ready (rs := [5]) (by kernel_rfl) (by simp) ?_
  refine AllReadyH.cons (o := ⟨_, _, _, _, _, _⟩) rfl (fun K hK => ?_) (AllReadyH.nil)
  go_simp
  obtain ⟨w1, hw1⟩ : ∃ ww, ww = (w0.alloc (.cells #[.int .u8 x.v, .bool x.s] 25)).drew := ⟨_, rfl⟩
  rw [← hw1]
  have b1 : Below w0.heap.size w0 w1 := by rw [hw1]; (repeat first | exact .refl _ _ | exact (Below.refl _ _).drew | refine .drew ?_ | refine .alloc ?_ (by simp <;> omega) _)
  have Rl : ByAt w1 (some ⟨w0.heap.size, 0, none⟩) [x] := by rw [hw1]; exact (byAt1 _ _ x).below (Below.refl _ _).drew
  clear hw1
  clear cf0 cf1 zf0 zf1 cx0 cx1 zx0 zx1 co0 co1 zo0 zo1 cr0 cr1 zr0 zr1 nef nex neo ner
  replace Kf := kp b1 Kf
  replace Kx := kp b1 Kx
  replace Ko := kp b1 Ko
  replace Kr := kp b1 Kr
  replace bl := bl.trans (b1.mono bl.size)
  clear b1
  obtain ⟨cf0, zf0, cf1, zf1, nef⟩ := b2z Kf
  obtain ⟨cx0, zx0, cx1, zx1, nex⟩ := b2z Kx
  obtain ⟨co0, zo0, co1, zo1, neo⟩ := b2z Ko
  obtain ⟨cr0, zr0, cr1, zr1, ner⟩ := b2z Kr
  refine hK.out _ _ ⟨blk_cell Kf 0, blk_cell Kf 1, blk_cell Kx 0, blk_cell Kx 1⟩ (fun hHeld => ?_)
  clear hK K
  refine wpAnyH_ready (rs := [6]) (by kernel_rfl) (by simp) ?_
  refine AllReadyH.cons (o := ⟨_, _, _, _, _, _⟩) rfl (fun K hK => ?_) (AllReadyH.nil)
  go_simp
  refine (of_any _ [x] _ 1 _ rfl (by omega) Rl).mono ?_
  rintro e w2 ⟨rfl, b2⟩
  clear cf0 cf1 zf0 zf1 cx0 cx1 zx0 zx1 co0 co1 zo0 zo1 cr0 cr1 zr0 zr1 nef nex neo ner
  replace Kf := kp b2 Kf
  replace Kx := kp b2 Kx
  replace Ko := kp b2 Ko
  replace Kr := kp b2 Kr
  replace Rl := Rl.below b2
  replace bl := bl.trans (b2.mono bl.size)
  clear b2
  obtain ⟨cf0, zf0, cf1, zf1, nef⟩ := b2z Kf
  obtain ⟨cx0, zx0, cx1, zx1, nex⟩ := b2z Kx
  obtain ⟨co0, zo0, co1, zo1, neo⟩ := b2z Ko
  obtain ⟨cr0, zr0, cr1, zr1, ner⟩ := b2z Kr
  refine hK.out _ _ ⟨blk_cell Kf 0, blk_cell Kf 1, blk_cell Kx 0, blk_cell Kx 1⟩ (fun hHeld => ?_)
  clear hK K
  refine wpAnyH_ready (rs := [8]) (by kernel_rfl) (by simp) ?_
  refine AllReadyH.cons (o := ⟨_, _, _, _, _, _⟩) rfl (fun K hK => ?_) (AllReadyH.nil)
  go_simp
  refine (lbit0 x _).mono ?_
  rintro e w3 ⟨rfl, b3⟩
  clear cf0 cf1 zf0 zf1 cx0 cx1 zx0 zx1 co0 co1 zo0 zo1 cr0 cr1 zr0 zr1 nef nex neo ner
  replace Kf := kp b3 Kf
  replace Kx := kp b3 Kx
  replace Ko := kp b3 Ko
  replace Kr := kp b3 Kr
  replace Rl := Rl.below b3
  replace bl := bl.trans (b3.mono bl.size)
  clear b3
  obtain ⟨cf0, zf0, cf1, zf1, nef⟩ := b2z Kf
  obtain ⟨cx0, zx0, cx1, zx1, nex⟩ := b2z Kx
  obtain ⟨co0, zo0, co1, zo1, neo⟩ := b2z Ko
  obtain ⟨cr0, zr0, cr1, zr1, ner⟩ := b2z Kr
  refine hK.out _ _ ⟨blk_cell Kf 0, blk_cell Kf 1, blk_cell Kx 0, blk_cell Kx 1⟩ (fun hHeld => ?_)
  clear hK K
  refine wpAnyH_ready (rs := [9]) (by kernel_rfl) (by simp) ?_
  refine AllReadyH.cons (o := ⟨_, _, _, _, _, _⟩) rfl (fun K hK => ?_) (AllReadyH.nil)
  go_simp
  refine (shifted_any f ⟨x.v / 2, anyB [x]⟩ (lbF x (x.v)) _).mono ?_
  rintro e w4 ⟨rfl, b4⟩
  clear cf0 cf1 zf0 zf1 cx0 cx1 zx0 zx1 co0 co1 zo0 zo1 cr0 cr1 zr0 zr1 nef nex neo ner
  replace Kf := kp b4 Kf
  replace Kx := kp b4 Kx
  replace Ko := kp b4 Ko
  replace Kr := kp b4 Kr
  replace Rl := Rl.below b4
  replace bl := bl.trans (b4.mono bl.size)
  clear b4
  obtain ⟨cf0, zf0, cf1, zf1, nef⟩ := b2z Kf
  obtain ⟨cx0, zx0, cx1, zx1, nex⟩ := b2z Kx
  obtain ⟨co0, zo0, co1, zo1, neo⟩ := b2z Ko
  obtain ⟨cr0, zr0, cr1, zr1, ner⟩ := b2z Kr
  refine hK.out _ _ ⟨blk_cell Kf 0, blk_cell Kf 1, blk_cell Kx 0, blk_cell Kx 1⟩ (fun hHeld => ?_)
  clear hK K
  refine tk 10 (v := ?_) rfl ?_ ?_; rotate_left; (focus (intro w hSw; (try dsimp only at hSw); go_simp; with_reducible rfl)); simp only [Act.put, tA, tB, tC]
  refine tk 11 (v := ?_) rfl ?_ ?_; rotate_left; (focus (intro w hSw; (try dsimp only at hSw); go_simp; with_reducible rfl)); simp only [Act.put, tA, tB, tC]
  refine wpAnyH_ready (rs := [12]) (by kernel_rfl) (by simp) ?_
  refine AllReadyH.cons (o := ⟨_, _, _, _, _, _⟩) rfl (fun K hK => ?_) (AllReadyH.nil)
  go_simp
  clear cf0 cf1 zf0 zf1 cx0 cx1 zx0 zx1 co0 co1 zo0 zo1 cr0 cr1 zr0 zr1 nef nex neo ner
  obtain ⟨w5, hw5⟩ : ∃ ww, ww = ((w4.setCell ⟨(w.heap.size + 1 + 1), 0, none⟩ (.int .u8 (x.v / 2))).setCell ⟨(w.heap.size + 1 + 1), 1, none⟩ (.bool (anyB [x]))) := ⟨_, rfl⟩
  rw [← hw5]
  have nnf : (w.heap.size + 1 + 1) ≠ (w.heap.size) := by first | omega | (have := blk_lt Kf; have := blk_lt Ko; have := bl.size; omega)
  replace Kf : B2 w5 (w.heap.size) (.int .u8 f.p) (.int .u8 f.s) 23 := by rw [hw5]; exact ((oth2 nnf _ _).trans Kf)
  clear nnf
  have nnx : (w.heap.size + 1 + 1) ≠ (w.heap.size + 1) := by first | omega | (have := blk_lt Kx; have := blk_lt Ko; have := bl.size; omega)
  replace Kx : B2 w5 (w.heap.size + 1) (.int .u8 x.v) (.bool x.s) 25 := by rw [hw5]; exact ((oth2 nnx _ _).trans Kx)
  clear nnx
  have nnr : (w.heap.size + 1 + 1) ≠ (w.heap.size + 1 + 1 + 1) := by first | omega | (have := blk_lt Kr; have := blk_lt Ko; have := bl.size; omega)
  replace Kr : B2 w5 (w.heap.size + 1 + 1 + 1) (.int .u8 0) (.int .u8 0) 23 := by rw [hw5]; exact ((oth2 nnr _ _).trans Kr)
  clear nnr
  replace Ko : B2 w5 (w.heap.size + 1 + 1) (.int .u8 (x.v / 2)) (.bool (anyB [x])) 25 := by rw [hw5]; exact (set2 Ko _ _)
  replace bl : Below w.heap.size w w5 := by rw [hw5]; exact bs2 bl (by first | exact Nat.le_refl _ | omega | (have := bl.size; omega)) _ _
  clear hw5
  obtain ⟨cf0, zf0, cf1, zf1, nef⟩ := b2z Kf
  obtain ⟨cx0, zx0, cx1, zx1, nex⟩ := b2z Kx
  obtain ⟨co0, zo0, co1, zo1, neo⟩ := b2z Ko
  obtain ⟨cr0, zr0, cr1, zr1, ner⟩ := b2z Kr
  refine hK.out _ _ ⟨blk_cell Kf 0, blk_cell Kf 1, blk_cell Kx 0, blk_cell Kx 1⟩ (fun hHeld => ?_)
  clear hK K
  refine wpAnyH_ready (rs := [13]) (by kernel_rfl) (by simp) ?_
  refine AllReadyH.cons (o := ⟨_, _, _, _, _, _⟩) rfl (fun K hK => ?_) (AllReadyH.nil)
  go_simp
  clear cf0 cf1 zf0 zf1 cx0 cx1 zx0 zx1 co0 co1 zo0 zo1 cr0 cr1 zr0 zr1 nef nex neo ner
  obtain ⟨w6, hw6⟩ : ∃ ww, ww = ((w5.setCell ⟨(w.heap.size + 1 + 1 + 1), 0, none⟩ (.int .u8 (nzF (setF f 1 (lbF x (x.v))) ⟨x.v / 2, anyB [x]⟩).p)).setCell ⟨(w.heap.size + 1 + 1 + 1), 1, none⟩ (.int .u8 (nzF (setF f 1 (lbF x (x.v))) ⟨x.v / 2, anyB [x]⟩).s)) := ⟨_, rfl⟩
  rw [← hw6]
  have nnf : (w.heap.size + 1 + 1 + 1) ≠ (w.heap.size) := by first | omega | (have := blk_lt Kf; have := blk_lt Kr; have := bl.size; omega)
  replace Kf : B2 w6 (w.heap.size) (.int .u8 f.p) (.int .u8 f.s) 23 := by rw [hw6]; exact ((oth2 nnf _ _).trans Kf)
  clear nnf
  have nnx : (w.heap.size + 1 + 1 + 1) ≠ (w.heap.size + 1) := by first | omega | (have := blk_lt Kx; have := blk_lt Kr; have := bl.size; omega)
  replace Kx : B2 w6 (w.heap.size + 1) (.int .u8 x.v) (.bool x.s) 25 := by rw [hw6]; exact ((oth2 nnx _ _).trans Kx)
  clear nnx
  have nno : (w.heap.size + 1 + 1 + 1) ≠ (w.heap.size + 1 + 1) := by first | omega | (have := blk_lt Ko; have := blk_lt Kr; have := bl.size; omega)
  replace Ko : B2 w6 (w.heap.size + 1 + 1) (.int .u8 (x.v / 2)) (.bool (anyB [x])) 25 := by rw [hw6]; exact ((oth2 nno _ _).trans Ko)
  clear nno
  replace Kr : B2 w6 (w.heap.size + 1 + 1 + 1) (.int .u8 (nzF (setF f 1 (lbF x (x.v))) ⟨x.v / 2, anyB [x]⟩).p) (.int .u8 (nzF (setF f 1 (lbF x (x.v))) ⟨x.v / 2, anyB [x]⟩).s) 23 := by rw [hw6]; exact (set2 Kr _ _)
  replace bl : Below w.heap.size w w6 := by rw [hw6]; exact bs2 bl (by first | exact Nat.le_refl _ | omega | (have := bl.size; omega)) _ _
  clear hw6
  obtain ⟨cf0, zf0, cf1, zf1, nef⟩ := b2z Kf
  obtain ⟨cx0, zx0, cx1, zx1, nex⟩ := b2z Kx
  obtain ⟨co0, zo0, co1, zo1, neo⟩ := b2z Ko
  obtain ⟨cr0, zr0, cr1, zr1, ner⟩ := b2z Kr
  refine hK.out _ _ ⟨blk_cell Kf 0, blk_cell Kf 1, blk_cell Kx 0, blk_cell Kx 1⟩ (fun hHeld => ?_)
  clear hK K
  refine wpAnyH_done (by kernel_rfl) (NoPanic.normal ?_) _
  go_wp2_with fail
  exact bodyPost_ret (v := .tuple #[By.V ⟨x.v / 2, anyB [x]⟩, (nzF (setF f 1 (lbF x (x.v))) ⟨x.v / 2, anyB [x]⟩).V]) (by simp [results, Try.results35, go_sem, co0, co1, cr0, cr1]) rfl ⟨rfl, bl⟩
set_option maxHeartbeats 1600000 in
theorem rol_any (f : Fl) (x : By) (w : World) : Calls Try.prog 31 #[f.V, x.V] w fun e w' => e = .returned (.tuple #[By.V ⟨bits BinOp.or IntKind.u8 (IntKind.u8.wrap (x.v * 2)) (getF f 1).v, anyB [x, (getF f 1)]⟩, (nzF (setF f 1 (lbF x (x.v / 128))) ⟨bits BinOp.or IntKind.u8 (IntKind.u8.wrap (x.v * 2)) (getF f 1).v, anyB [x, (getF f 1)]⟩).V]) ∧ Below w.heap.size w w' := by
  go_enter Try.func31, Try.ntmps31
  go_upto_region 1 with fail
  obtain ⟨w0, hw0⟩ : ∃ ww, ww = ((((w.alloc (.cells #[.int .u8 f.p, .int .u8 f.s] 23)).alloc (.cells #[.int .u8 x.v, .bool x.s] 25)).alloc (.cells #[.int .u8 0, .bool false] 25)).alloc (.cells #[.int .u8 0, .int .u8 0] 23)) := ⟨_, rfl⟩
  rw [← hw0]
  have Kf : B2 w0 (w.heap.size) (.int .u8 f.p) (.int .u8 f.s) 23 := by rw [hw0]; exact blk_alloc (blk_alloc (blk_alloc (blk_new' _ (by simp)) _) _) _
  have Kx : B2 w0 (w.heap.size + 1) (.int .u8 x.v) (.bool x.s) 25 := by rw [hw0]; exact blk_alloc (blk_alloc (blk_new' _ (by simp)) _) _
  have Ko : B2 w0 (w.heap.size + 1 + 1) (.int .u8 0) (.bool false) 25 := by rw [hw0]; exact blk_alloc (blk_new' _ (by simp)) _
  have Kr : B2 w0 (w.heap.size + 1 + 1 + 1) (.int .u8 0) (.int .u8 0) 23 := by rw [hw0]; exact blk_new' _ (by simp)
  have qfx : w.heap.size ≠ w.heap.size + 1 := by omega
  have qfo : w.heap.size ≠ w.heap.size + 1 + 1 := by omega
  have qfr : w.heap.size ≠ w.heap.size + 1 + 1 + 1 := by omega
  have qxf : w.heap.size + 1 ≠ w.heap.size := by omega
  have qxo : w.heap.size + 1 ≠ w.heap.size + 1 + 1 := by omega
  have qxr : w.heap.size + 1 ≠ w.heap.size + 1 + 1 + 1 := by omega
  have qof : w.heap.size + 1 + 1 ≠ w.heap.size := by omega
  have qox : w.heap.size + 1 + 1 ≠ w.heap.size + 1 := by omega
  have qor : w.heap.size + 1 + 1 ≠ w.heap.size + 1 + 1 + 1 := by omega
  have qrf : w.heap.size + 1 + 1 + 1 ≠ w.heap.size := by omega
  have qrx : w.heap.size + 1 + 1 + 1 ≠ w.heap.size + 1 := by omega
  have qro : w.heap.size + 1 + 1 + 1 ≠ w.heap.size + 1 + 1 := by omega
  have bl : Below w.heap.size w w0 := by rw [hw0]; (repeat first | exact .refl _ _ | exact (Below.refl _ _).drew | refine .drew ?_ | refine .alloc ?_ (by simp <;> omega) _)
  clear hw0
  obtain ⟨cf0, zf0, cf1, zf1, nef⟩ := b2z Kf
  obtain ⟨cx0, zx0, cx1, zx1, nex⟩ := b2z Kx
  obtain ⟨co0, zo0, co1, zo1, neo⟩ := b2z Ko
  obtain ⟨cr0, zr0, cr1, zr1, ner⟩ := b2z Kr
  go_wp2_with fail
  refine (get_any f 1 _).mono ?_
  rintro e w1 ⟨rfl, b1⟩
  clear cf0 cf1 zf0 zf1 cx0 cx1 zx0 zx1 co0 co1 zo0 zo1 cr0 cr1 zr0 zr1 nef nex neo ner
  replace Kf := kp b1 Kf
  replace Kx := kp b1 Kx
  replace Ko := kp b1 Ko
  replace Kr := kp b1 Kr
  replace bl := bl.trans (b1.mono bl.size)
  clear b1
  obtain ⟨cf0, zf0, cf1, zf1, nef⟩ := b2z Kf
  obtain ⟨cx0, zx0, cx1, zx1, nex⟩ := b2z Kx
  obtain ⟨co0, zo0, co1, zo1, neo⟩ := b2z Ko
  obtain ⟨cr0, zr0, cr1, zr1, ner⟩ := b2z Kr
  go_upto_region 2 with fail
  have qfc : (w.heap.size) ≠ w1.heap.size := by have := blk_lt Kf; omega
  have qcf := qfc.symm
  have qxc : (w.heap.size + 1) ≠ w1.heap.size := by have := blk_lt Kx; omega
  have qcx := qxc.symm
  have qoc : (w.heap.size + 1 + 1) ≠ w1.heap.size := by have := blk_lt Ko; omega
  have qco := qoc.symm
  have qrc : (w.heap.size + 1 + 1 + 1) ≠ w1.heap.size := by have := blk_lt Kr; omega
  have qcr := qrc.symm
  obtain ⟨w2, hw2⟩ : ∃ ww, ww = (w1.alloc (.cells #[.int .u8 (getF f 1).v, .bool (getF f 1).s] 25)) := ⟨_, rfl⟩
  rw [← hw2]
  have b2 : Below w1.heap.size w1 w2 := by rw [hw2]; (repeat first | exact .refl _ _ | exact (Below.refl _ _).drew | refine .drew ?_ | refine .alloc ?_ (by simp <;> omega) _)
  have Kc : B2 w2 w1.heap.size (.int .u8 (getF f 1).v) (.bool (getF f 1).s) 25 := by rw [hw2]; exact blk_new _ _
  clear hw2
  clear cf0 cf1 zf0 zf1 cx0 cx1 zx0 zx1 co0 co1 zo0 zo1 cr0 cr1 zr0 zr1 nef nex neo ner
  replace Kf := kp b2 Kf
  replace Kx := kp b2 Kx
  replace Ko := kp b2 Ko
  replace Kr := kp b2 Kr
  replace bl := bl.trans (b2.mono bl.size)
  clear b2
  obtain ⟨cf0, zf0, cf1, zf1, nef⟩ := b2z Kf
  obtain ⟨cx0, zx0, cx1, zx1, nex⟩ := b2z Kx
  obtain ⟨co0, zo0, co1, zo1, neo⟩ := b2z Ko
  obtain ⟨cr0, zr0, cr1, zr1, ner⟩ := b2z Kr
  obtain ⟨cc0, zc0, cc1, zc1, nec⟩ := b2z Kc
  refine wp_region_noPanic ?_
  refine wp_region_held_drew (S := (fun w' => w'.cell? ⟨(w.heap.size), 0, none⟩ = some (.int .u8 f.p) ∧ w'.cell? ⟨(w.heap.size), 1, none⟩ = some (.int .u8 f.s) ∧ w'.cell? ⟨(w.heap.size + 1), 0, none⟩ = some (.int .u8 x.v) ∧ w'.cell? ⟨(w.heap.size + 1), 1, none⟩ = some (.bool x.s) ∧ w'.cell? ⟨w1.heap.size, 0, none⟩ = some (.int .u8 (getF f 1).v) ∧ w'.cell? ⟨w1.heap.size, 1, none⟩ = some (.bool (getF f 1).s))) (by kernel_rfl) ⟨blk_cell Kf 0, blk_cell Kf 1, blk_cell Kx 0, blk_cell Kx 1, blk_cell Kc 0, blk_cell Kc 1⟩ (fun hHeld => ?_)
  refine tk 0 (v := ?_) rfl ?_ ?_; rotate_left; (focus (intro w hSw; (try dsimp only at hSw); go_simp; with_reducible rfl)); simp only [Act.put, tA, tB, tC]
  refine tk 1 (v := ?_) rfl ?_ ?_; rotate_left; (focus (intro w hSw; (try dsimp only at hSw); go_simp; with_reducible rfl)); simp only [Act.put, tA, tB, tC]
  refine tk 2 (v := ?_) rfl ?_ ?_; rotate_left; (focus (intro w hSw; (try dsimp only at hSw); go_simp; with_reducible rfl)); simp only [Act.put, tA, tB, tC]
  refine tk 3 (v := ?_) rfl ?_ ?_; rotate_left; (focus (intro w hSw; (try dsimp only at hSw); go_simp; with_reducible rfl)); simp only [Act.put, tA, tB, tC]
  refine tk 4 (v := ?_) rfl ?_ ?_; rotate_left; (focus (intro w hSw; (try dsimp only at hSw); go_simp; with_reducible rfl)); simp only [Act.put, tA, tB, tC]
  refine tk 5 (v := ?_) rfl ?_ ?_; rotate_left; (focus (intro w hSw; (try dsimp only at hSw); go_simp; with_reducible rfl)); simp only [Act.put, tA, tB, tC]
  refine tk 6 (v := ?_) rfl ?_ ?_; rotate_left; (focus (intro w hSw; (try dsimp only at hSw); go_simp; with_reducible rfl)); simp only [Act.put, tA, tB, tC]
  refine tk 7 (v := ?_) rfl ?_ ?_; rotate_left; (focus (intro w hSw; (try dsimp only at hSw); go_simp; with_reducible rfl)); simp only [Act.put, tA, tB, tC]
  refine tk 8 (v := ?_) rfl ?_ ?_; rotate_left; (focus (intro w hSw; (try dsimp only at hSw); go_simp; with_reducible rfl)); simp only [Act.put, tA, tB, tC]
  refine tk 11 (v := ?_) rfl ?_ ?_; rotate_left; (focus (intro w hSw; (try dsimp only at hSw); go_simp; with_reducible rfl)); simp only [Act.put, tA, tB, tC]
  refine wpAnyH_ready (rs := [9]) (by kernel_rfl) (by simp) ?_
  refine AllReadyH.cons (o := ⟨_, _, _, _, _, _⟩) rfl (fun K hK => ?_) (AllReadyH.nil)
  go_simp
  obtain ⟨w3, hw3⟩ : ∃ ww, ww = (w2.alloc (.cells #[.int .u8 x.v, .bool x.s, .int .u8 (getF f 1).v, .bool (getF f 1).s] 25)).drew := ⟨_, rfl⟩
  rw [← hw3]
  have b3 : Below w2.heap.size w2 w3 := by rw [hw3]; (repeat first | exact .refl _ _ | exact (Below.refl _ _).drew | refine .drew ?_ | refine .alloc ?_ (by simp <;> omega) _)
  have Rl : ByAt w3 (some ⟨w2.heap.size, 0, none⟩) [x, (getF f 1)] := by rw [hw3]; exact (byAt2 _ _ x (getF f 1)).below (Below.refl _ _).drew
  clear hw3
  clear cf0 cf1 zf0 zf1 cx0 cx1 zx0 zx1 co0 co1 zo0 zo1 cr0 cr1 zr0 zr1 cc0 cc1 zc0 zc1 nef nex neo ner nec
  replace Kf := kp b3 Kf
  replace Kx := kp b3 Kx
  replace Ko := kp b3 Ko
  replace Kr := kp b3 Kr
  replace Kc := kp b3 Kc
  replace bl := bl.trans (b3.mono bl.size)
  clear b3
  obtain ⟨cf0, zf0, cf1, zf1, nef⟩ := b2z Kf
  obtain ⟨cx0, zx0, cx1, zx1, nex⟩ := b2z Kx
  obtain ⟨co0, zo0, co1, zo1, neo⟩ := b2z Ko
  obtain ⟨cr0, zr0, cr1, zr1, ner⟩ := b2z Kr
  obtain ⟨cc0, zc0, cc1, zc1, nec⟩ := b2z Kc
  refine hK.out _ _ ⟨blk_cell Kf 0, blk_cell Kf 1, blk_cell Kx 0, blk_cell Kx 1, blk_cell Kc 0, blk_cell Kc 1⟩ (fun hHeld => ?_)
  clear hK K
  refine wpAnyH_ready (rs := [10]) (by kernel_rfl) (by simp) ?_
  refine AllReadyH.cons (o := ⟨_, _, _, _, _, _⟩) rfl (fun K hK => ?_) (AllReadyH.nil)
  go_simp
  refine (of_any _ [x, getF f 1] _ 2 _ rfl (by omega) Rl).mono ?_
  rintro e w4 ⟨rfl, b4⟩
  clear cf0 cf1 zf0 zf1 cx0 cx1 zx0 zx1 co0 co1 zo0 zo1 cr0 cr1 zr0 zr1 cc0 cc1 zc0 zc1 nef nex neo ner nec
  replace Kf := kp b4 Kf
  replace Kx := kp b4 Kx
  replace Ko := kp b4 Ko
  replace Kr := kp b4 Kr
  replace Kc := kp b4 Kc
  replace Rl := Rl.below b4
  replace bl := bl.trans (b4.mono bl.size)
  clear b4
  obtain ⟨cf0, zf0, cf1, zf1, nef⟩ := b2z Kf
  obtain ⟨cx0, zx0, cx1, zx1, nex⟩ := b2z Kx
  obtain ⟨co0, zo0, co1, zo1, neo⟩ := b2z Ko
  obtain ⟨cr0, zr0, cr1, zr1, ner⟩ := b2z Kr
  obtain ⟨cc0, zc0, cc1, zc1, nec⟩ := b2z Kc
  refine hK.out _ _ ⟨blk_cell Kf 0, blk_cell Kf 1, blk_cell Kx 0, blk_cell Kx 1, blk_cell Kc 0, blk_cell Kc 1⟩ (fun hHeld => ?_)
  clear hK K
  refine wpAnyH_ready (rs := [12]) (by kernel_rfl) (by simp) ?_
  refine AllReadyH.cons (o := ⟨_, _, _, _, _, _⟩) rfl (fun K hK => ?_) (AllReadyH.nil)
  go_simp
  refine (lbit7 x _).mono ?_
  rintro e w5 ⟨rfl, b5⟩
  clear cf0 cf1 zf0 zf1 cx0 cx1 zx0 zx1 co0 co1 zo0 zo1 cr0 cr1 zr0 zr1 cc0 cc1 zc0 zc1 nef nex neo ner nec
  replace Kf := kp b5 Kf
  replace Kx := kp b5 Kx
  replace Ko := kp b5 Ko
  replace Kr := kp b5 Kr
  replace Kc := kp b5 Kc
  replace Rl := Rl.below b5
  replace bl := bl.trans (b5.mono bl.size)
  clear b5
  obtain ⟨cf0, zf0, cf1, zf1, nef⟩ := b2z Kf
  obtain ⟨cx0, zx0, cx1, zx1, nex⟩ := b2z Kx
  obtain ⟨co0, zo0, co1, zo1, neo⟩ := b2z Ko
  obtain ⟨cr0, zr0, cr1, zr1, ner⟩ := b2z Kr
  obtain ⟨cc0, zc0, cc1, zc1, nec⟩ := b2z Kc
  refine hK.out _ _ ⟨blk_cell Kf 0, blk_cell Kf 1, blk_cell Kx 0, blk_cell Kx 1, blk_cell Kc 0, blk_cell Kc 1⟩ (fun hHeld => ?_)
  clear hK K
  refine wpAnyH_ready (rs := [13]) (by kernel_rfl) (by simp) ?_
  refine AllReadyH.cons (o := ⟨_, _, _, _, _, _⟩) rfl (fun K hK => ?_) (AllReadyH.nil)
  go_simp
  refine (shifted_any f ⟨bits BinOp.or IntKind.u8 (IntKind.u8.wrap (x.v * 2)) (getF f 1).v, anyB [x, (getF f 1)]⟩ (lbF x (x.v / 128)) _).mono ?_
  rintro e w6 ⟨rfl, b6⟩
  clear cf0 cf1 zf0 zf1 cx0 cx1 zx0 zx1 co0 co1 zo0 zo1 cr0 cr1 zr0 zr1 cc0 cc1 zc0 zc1 nef nex neo ner nec
  replace Kf := kp b6 Kf
  replace Kx := kp b6 Kx
  replace Ko := kp b6 Ko
  replace Kr := kp b6 Kr
  replace Kc := kp b6 Kc
  replace Rl := Rl.below b6
  replace bl := bl.trans (b6.mono bl.size)
  clear b6
  obtain ⟨cf0, zf0, cf1, zf1, nef⟩ := b2z Kf
  obtain ⟨cx0, zx0, cx1, zx1, nex⟩ := b2z Kx
  obtain ⟨co0, zo0, co1, zo1, neo⟩ := b2z Ko
  obtain ⟨cr0, zr0, cr1, zr1, ner⟩ := b2z Kr
  obtain ⟨cc0, zc0, cc1, zc1, nec⟩ := b2z Kc
  refine hK.out _ _ ⟨blk_cell Kf 0, blk_cell Kf 1, blk_cell Kx 0, blk_cell Kx 1, blk_cell Kc 0, blk_cell Kc 1⟩ (fun hHeld => ?_)
  clear hK K
  refine tk 14 (v := ?_) rfl ?_ ?_; rotate_left; (focus (intro w hSw; (try dsimp only at hSw); go_simp; with_reducible rfl)); simp only [Act.put, tA, tB, tC]
  refine tk 15 (v := ?_) rfl ?_ ?_; rotate_left; (focus (intro w hSw; (try dsimp only at hSw); go_simp; with_reducible rfl)); simp only [Act.put, tA, tB, tC]
  refine wpAnyH_ready (rs := [16]) (by kernel_rfl) (by simp) ?_
  refine AllReadyH.cons (o := ⟨_, _, _, _, _, _⟩) rfl (fun K hK => ?_) (AllReadyH.nil)
  go_simp
  clear cf0 cf1 zf0 zf1 cx0 cx1 zx0 zx1 co0 co1 zo0 zo1 cr0 cr1 zr0 zr1 cc0 cc1 zc0 zc1 nef nex neo ner nec
  obtain ⟨w7, hw7⟩ : ∃ ww, ww = ((w6.setCell ⟨(w.heap.size + 1 + 1), 0, none⟩ (.int .u8 (bits BinOp.or IntKind.u8 (IntKind.u8.wrap (x.v * 2)) (getF f 1).v))).setCell ⟨(w.heap.size + 1 + 1), 1, none⟩ (.bool (anyB [x, getF f 1]))) := ⟨_, rfl⟩
  rw [← hw7]
  have nnf : (w.heap.size + 1 + 1) ≠ (w.heap.size) := by first | omega | (have := blk_lt Kf; have := blk_lt Ko; have := bl.size; omega)
  replace Kf : B2 w7 (w.heap.size) (.int .u8 f.p) (.int .u8 f.s) 23 := by rw [hw7]; exact ((oth2 nnf _ _).trans Kf)
  clear nnf
  have nnx : (w.heap.size + 1 + 1) ≠ (w.heap.size + 1) := by first | omega | (have := blk_lt Kx; have := blk_lt Ko; have := bl.size; omega)
  replace Kx : B2 w7 (w.heap.size + 1) (.int .u8 x.v) (.bool x.s) 25 := by rw [hw7]; exact ((oth2 nnx _ _).trans Kx)
  clear nnx
  have nnr : (w.heap.size + 1 + 1) ≠ (w.heap.size + 1 + 1 + 1) := by first | omega | (have := blk_lt Kr; have := blk_lt Ko; have := bl.size; omega)
  replace Kr : B2 w7 (w.heap.size + 1 + 1 + 1) (.int .u8 0) (.int .u8 0) 23 := by rw [hw7]; exact ((oth2 nnr _ _).trans Kr)
  clear nnr
  have nnc : (w.heap.size + 1 + 1) ≠ w1.heap.size := by first | omega | (have := blk_lt Kc; have := blk_lt Ko; have := bl.size; omega)
  replace Kc : B2 w7 w1.heap.size (.int .u8 (getF f 1).v) (.bool (getF f 1).s) 25 := by rw [hw7]; exact ((oth2 nnc _ _).trans Kc)
  clear nnc
  replace Ko : B2 w7 (w.heap.size + 1 + 1) (.int .u8 (bits BinOp.or IntKind.u8 (IntKind.u8.wrap (x.v * 2)) (getF f 1).v)) (.bool (anyB [x, getF f 1])) 25 := by rw [hw7]; exact (set2 Ko _ _)
  replace bl : Below w.heap.size w w7 := by rw [hw7]; exact bs2 bl (by first | exact Nat.le_refl _ | omega | (have := bl.size; omega)) _ _
  clear hw7
  obtain ⟨cf0, zf0, cf1, zf1, nef⟩ := b2z Kf
  obtain ⟨cx0, zx0, cx1, zx1, nex⟩ := b2z Kx
  obtain ⟨co0, zo0, co1, zo1, neo⟩ := b2z Ko
  obtain ⟨cr0, zr0, cr1, zr1, ner⟩ := b2z Kr
  obtain ⟨cc0, zc0, cc1, zc1, nec⟩ := b2z Kc
  refine hK.out _ _ ⟨blk_cell Kf 0, blk_cell Kf 1, blk_cell Kx 0, blk_cell Kx 1, blk_cell Kc 0, blk_cell Kc 1⟩ (fun hHeld => ?_)
  clear hK K
  refine wpAnyH_ready (rs := [17]) (by kernel_rfl) (by simp) ?_
  refine AllReadyH.cons (o := ⟨_, _, _, _, _, _⟩) rfl (fun K hK => ?_) (AllReadyH.nil)
  go_simp
  clear cf0 cf1 zf0 zf1 cx0 cx1 zx0 zx1 co0 co1 zo0 zo1 cr0 cr1 zr0 zr1 cc0 cc1 zc0 zc1 nef nex neo ner nec
  obtain ⟨w8, hw8⟩ : ∃ ww, ww = ((w7.setCell ⟨(w.heap.size + 1 + 1 + 1), 0, none⟩ (.int .u8 (nzF (setF f 1 (lbF x (x.v / 128))) ⟨bits BinOp.or IntKind.u8 (IntKind.u8.wrap (x.v * 2)) (getF f 1).v, anyB [x, (getF f 1)]⟩).p)).setCell ⟨(w.heap.size + 1 + 1 + 1), 1, none⟩ (.int .u8 (nzF (setF f 1 (lbF x (x.v / 128))) ⟨bits BinOp.or IntKind.u8 (IntKind.u8.wrap (x.v * 2)) (getF f 1).v, anyB [x, (getF f 1)]⟩).s)) := ⟨_, rfl⟩
  rw [← hw8]
  have nnf : (w.heap.size + 1 + 1 + 1) ≠ (w.heap.size) := by first | omega | (have := blk_lt Kf; have := blk_lt Kr; have := bl.size; omega)
  replace Kf : B2 w8 (w.heap.size) (.int .u8 f.p) (.int .u8 f.s) 23 := by rw [hw8]; exact ((oth2 nnf _ _).trans Kf)
  clear nnf
  have nnx : (w.heap.size + 1 + 1 + 1) ≠ (w.heap.size + 1) := by first | omega | (have := blk_lt Kx; have := blk_lt Kr; have := bl.size; omega)
  replace Kx : B2 w8 (w.heap.size + 1) (.int .u8 x.v) (.bool x.s) 25 := by rw [hw8]; exact ((oth2 nnx _ _).trans Kx)
  clear nnx
  have nno : (w.heap.size + 1 + 1 + 1) ≠ (w.heap.size + 1 + 1) := by first | omega | (have := blk_lt Ko; have := blk_lt Kr; have := bl.size; omega)
  replace Ko : B2 w8 (w.heap.size + 1 + 1) (.int .u8 (bits BinOp.or IntKind.u8 (IntKind.u8.wrap (x.v * 2)) (getF f 1).v)) (.bool (anyB [x, getF f 1])) 25 := by rw [hw8]; exact ((oth2 nno _ _).trans Ko)
  clear nno
  have nnc : (w.heap.size + 1 + 1 + 1) ≠ w1.heap.size := by first | omega | (have := blk_lt Kc; have := blk_lt Kr; have := bl.size; omega)
  replace Kc : B2 w8 w1.heap.size (.int .u8 (getF f 1).v) (.bool (getF f 1).s) 25 := by rw [hw8]; exact ((oth2 nnc _ _).trans Kc)
  clear nnc
  replace Kr : B2 w8 (w.heap.size + 1 + 1 + 1) (.int .u8 (nzF (setF f 1 (lbF x (x.v / 128))) ⟨bits BinOp.or IntKind.u8 (IntKind.u8.wrap (x.v * 2)) (getF f 1).v, anyB [x, (getF f 1)]⟩).p) (.int .u8 (nzF (setF f 1 (lbF x (x.v / 128))) ⟨bits BinOp.or IntKind.u8 (IntKind.u8.wrap (x.v * 2)) (getF f 1).v, anyB [x, (getF f 1)]⟩).s) 23 := by rw [hw8]; exact (set2 Kr _ _)
  replace bl : Below w.heap.size w w8 := by rw [hw8]; exact bs2 bl (by first | exact Nat.le_refl _ | omega | (have := bl.size; omega)) _ _
  clear hw8
  obtain ⟨cf0, zf0, cf1, zf1, nef⟩ := b2z Kf
  obtain ⟨cx0, zx0, cx1, zx1, nex⟩ := b2z Kx
  obtain ⟨co0, zo0, co1, zo1, neo⟩ := b2z Ko
  obtain ⟨cr0, zr0, cr1, zr1, ner⟩ := b2z Kr
  obtain ⟨cc0, zc0, cc1, zc1, nec⟩ := b2z Kc
  refine hK.out _ _ ⟨blk_cell Kf 0, blk_cell Kf 1, blk_cell Kx 0, blk_cell Kx 1, blk_cell Kc 0, blk_cell Kc 1⟩ (fun hHeld => ?_)
  clear hK K
  refine wpAnyH_done (by kernel_rfl) (NoPanic.normal ?_) _
  go_wp2_with fail
  exact bodyPost_ret (v := .tuple #[By.V ⟨bits BinOp.or IntKind.u8 (IntKind.u8.wrap (x.v * 2)) (getF f 1).v, anyB [x, (getF f 1)]⟩, (nzF (setF f 1 (lbF x (x.v / 128))) ⟨bits BinOp.or IntKind.u8 (IntKind.u8.wrap (x.v * 2)) (getF f 1).v, anyB [x, (getF f 1)]⟩).V]) (by simp [results, Try.results31, go_sem, co0, co1, cr0, cr1]) rfl ⟨rfl, bl⟩
set_option maxHeartbeats 1600000 in
theorem ror_any (f : Fl) (x : By) (w : World) : Calls Try.prog 32 #[f.V, x.V] w fun e w' => e = .returned (.tuple #[By.V ⟨bits BinOp.or IntKind.u8 (x.v / 2) (IntKind.u8.wrap ((getF f 1).v * 128)), anyB [x, (getF f 1)]⟩, (nzF (setF f 1 (lbF x (x.v))) ⟨bits BinOp.or IntKind.u8 (x.v / 2) (IntKind.u8.wrap ((getF f 1).v * 128)), anyB [x, (getF f 1)]⟩).V]) ∧ Below w.heap.size w w' := by
  go_enter Try.func32, Try.ntmps32
  go_upto_region 1 with fail
  obtain ⟨w0, hw0⟩ : ∃ ww, ww = ((((w.alloc (.cells #[.int .u8 f.p, .int .u8 f.s] 23)).alloc (.cells #[.int .u8 x.v, .bool x.s] 25)).alloc (.cells #[.int .u8 0, .bool false] 25)).alloc (.cells #[.int .u8 0, .int .u8 0] 23)) := ⟨_, rfl⟩
  rw [← hw0]
  have Kf : B2 w0 (w.heap.size) (.int .u8 f.p) (.int .u8 f.s) 23 := by rw [hw0]; exact blk_alloc (blk_alloc (blk_alloc (blk_new' _ (by simp)) _) _) _
  have Kx : B2 w0 (w.heap.size + 1) (.int .u8 x.v) (.bool x.s) 25 := by rw [hw0]; exact blk_alloc (blk_alloc (blk_new' _ (by simp)) _) _
  have Ko : B2 w0 (w.heap.size + 1 + 1) (.int .u8 0) (.bool false) 25 := by rw [hw0]; exact blk_alloc (blk_new' _ (by simp)) _
  have Kr : B2 w0 (w.heap.size + 1 + 1 + 1) (.int .u8 0) (.int .u8 0) 23 := by rw [hw0]; exact blk_new' _ (by simp)
  have qfx : w.heap.size ≠ w.heap.size + 1 := by omega
  have qfo : w.heap.size ≠ w.heap.size + 1 + 1 := by omega
  have qfr : w.heap.size ≠ w.heap.size + 1 + 1 + 1 := by omega
  have qxf : w.heap.size + 1 ≠ w.heap.size := by omega
  have qxo : w.heap.size + 1 ≠ w.heap.size + 1 + 1 := by omega
  have qxr : w.heap.size + 1 ≠ w.heap.size + 1 + 1 + 1 := by omega
  have qof : w.heap.size + 1 + 1 ≠ w.heap.size := by omega
  have qox : w.heap.size + 1 + 1 ≠ w.heap.size + 1 := by omega
  have qor : w.heap.size + 1 + 1 ≠ w.heap.size + 1 + 1 + 1 := by omega
  have qrf : w.heap.size + 1 + 1 + 1 ≠ w.heap.size := by omega
  have qrx : w.heap.size + 1 + 1 + 1 ≠ w.heap.size + 1 := by omega
  have qro : w.heap.size + 1 + 1 + 1 ≠ w.heap.size + 1 + 1 := by omega
  have bl : Below w.heap.size w w0 := by rw [hw0]; (repeat first | exact .refl _ _ | exact (Below.refl _ _).drew | refine .drew ?_ | refine .alloc ?_ (by simp <;> omega) _)
  clear hw0
  obtain ⟨cf0, zf0, cf1, zf1, nef⟩ := b2z Kf
  obtain ⟨cx0, zx0, cx1, zx1, nex⟩ := b2z Kx
  obtain ⟨co0, zo0, co1, zo1, neo⟩ := b2z Ko
  obtain ⟨cr0, zr0, cr1, zr1, ner⟩ := b2z Kr
  go_wp2_with fail
  refine (get_any f 1 _).mono ?_
  rintro e w1 ⟨rfl, b1⟩
  clear cf0 cf1 zf0 zf1 cx0 cx1 zx0 zx1 co0 co1 zo0 zo1 cr0 cr1 zr0 zr1 nef nex neo ner
  replace Kf := kp b1 Kf
  replace Kx := kp b1 Kx
  replace Ko := kp b1 Ko
  replace Kr := kp b1 Kr
  replace bl := bl.trans (b1.mono bl.size)
  clear b1
  obtain ⟨cf0, zf0, cf1, zf1, nef⟩ := b2z Kf
  obtain ⟨cx0, zx0, cx1, zx1, nex⟩ := b2z Kx
  obtain ⟨co0, zo0, co1, zo1, neo⟩ := b2z Ko
  obtain ⟨cr0, zr0, cr1, zr1, ner⟩ := b2z Kr
  go_upto_region 2 with fail
  have qfc : (w.heap.size) ≠ w1.heap.size := by have := blk_lt Kf; omega
  have qcf := qfc.symm
  have qxc : (w.heap.size + 1) ≠ w1.heap.size := by have := blk_lt Kx; omega
  have qcx := qxc.symm
  have qoc : (w.heap.size + 1 + 1) ≠ w1.heap.size := by have := blk_lt Ko; omega
  have qco := qoc.symm
  have qrc : (w.heap.size + 1 + 1 + 1) ≠ w1.heap.size := by have := blk_lt Kr; omega
  have qcr := qrc.symm
  obtain ⟨w2, hw2⟩ : ∃ ww, ww = (w1.alloc (.cells #[.int .u8 (getF f 1).v, .bool (getF f 1).s] 25)) := ⟨_, rfl⟩
  rw [← hw2]
  have b2 : Below w1.heap.size w1 w2 := by rw [hw2]; (repeat first | exact .refl _ _ | exact (Below.refl _ _).drew | refine .drew ?_ | refine .alloc ?_ (by simp <;> omega) _)
  have Kc : B2 w2 w1.heap.size (.int .u8 (getF f 1).v) (.bool (getF f 1).s) 25 := by rw [hw2]; exact blk_new _ _
  clear hw2
  clear cf0 cf1 zf0 zf1 cx0 cx1 zx0 zx1 co0 co1 zo0 zo1 cr0 cr1 zr0 zr1 nef nex neo ner
  replace Kf := kp b2 Kf
  replace Kx := kp b2 Kx
  replace Ko := kp b2 Ko
  replace Kr := kp b2 Kr
  replace bl := bl.trans (b2.mono bl.size)
  clear b2
  obtain ⟨cf0, zf0, cf1, zf1, nef⟩ := b2z Kf
  obtain ⟨cx0, zx0, cx1, zx1, nex⟩ := b2z Kx
  obtain ⟨co0, zo0, co1, zo1, neo⟩ := b2z Ko
  obtain ⟨cr0, zr0, cr1, zr1, ner⟩ := b2z Kr
  obtain ⟨cc0, zc0, cc1, zc1, nec⟩ := b2z Kc
  refine wp_region_noPanic ?_
  refine wp_region_held_drew (S := (fun w' => w'.cell? ⟨(w.heap.size), 0, none⟩ = some (.int .u8 f.p) ∧ w'.cell? ⟨(w.heap.size), 1, none⟩ = some (.int .u8 f.s) ∧ w'.cell? ⟨(w.heap.size + 1), 0, none⟩ = some (.int .u8 x.v) ∧ w'.cell? ⟨(w.heap.size + 1), 1, none⟩ = some (.bool x.s) ∧ w'.cell? ⟨w1.heap.size, 0, none⟩ = some (.int .u8 (getF f 1).v) ∧ w'.cell? ⟨w1.heap.size, 1, none⟩ = some (.bool (getF f 1).s))) (by kernel_rfl) ⟨blk_cell Kf 0, blk_cell Kf 1, blk_cell Kx 0, blk_cell Kx 1, blk_cell Kc 0, blk_cell Kc 1⟩ (fun hHeld => ?_)
  refine tk 0 (v := ?_) rfl ?_ ?_; rotate_left; (focus (intro w hSw; (try dsimp only at hSw); go_simp; with_reducible rfl)); simp only [Act.put, tA, tB, tC]
  refine tk 1 (v := ?_) rfl ?_ ?_; rotate_left; (focus (intro w hSw; (try dsimp only at hSw); go_simp; with_reducible rfl)); simp only [Act.put, tA, tB, tC]
  refine tk 2 (v := ?_) rfl ?_ ?_; rotate_left; (focus (intro w hSw; (try dsimp only at hSw); go_simp; with_reducible rfl)); simp only [Act.put, tA, tB, tC]
  refine tk 3 (v := ?_) rfl ?_ ?_; rotate_left; (focus (intro w hSw; (try dsimp only at hSw); go_simp; with_reducible rfl)); simp only [Act.put, tA, tB, tC]
  refine tk 4 (v := ?_) rfl ?_ ?_; rotate_left; (focus (intro w hSw; (try dsimp only at hSw); go_simp; with_reducible rfl)); simp only [Act.put, tA, tB, tC]
  refine tk 5 (v := ?_) rfl ?_ ?_; rotate_left; (focus (intro w hSw; (try dsimp only at hSw); go_simp; with_reducible rfl)); simp only [Act.put, tA, tB, tC]
  refine tk 6 (v := ?_) rfl ?_ ?_; rotate_left; (focus (intro w hSw; (try dsimp only at hSw); go_simp; with_reducible rfl)); simp only [Act.put, tA, tB, tC]
  refine tk 7 (v := ?_) rfl ?_ ?_; rotate_left; (focus (intro w hSw; (try dsimp only at hSw); go_simp; with_reducible rfl)); simp only [Act.put, tA, tB, tC]
  refine tk 8 (v := ?_) rfl ?_ ?_; rotate_left; (focus (intro w hSw; (try dsimp only at hSw); go_simp; with_reducible rfl)); simp only [Act.put, tA, tB, tC]
  refine tk 9 (v := ?_) rfl ?_ ?_; rotate_left; (focus (intro w hSw; (try dsimp only at hSw); go_simp; with_reducible rfl)); simp only [Act.put, tA, tB, tC]
  refine tk 12 (v := ?_) rfl ?_ ?_; rotate_left; (focus (intro w hSw; (try dsimp only at hSw); go_simp; with_reducible rfl)); simp only [Act.put, tA, tB, tC]
  refine wpAnyH_ready (rs := [10]) (by kernel_rfl) (by simp) ?_
  refine AllReadyH.cons (o := ⟨_, _, _, _, _, _⟩) rfl (fun K hK => ?_) (AllReadyH.nil)
  go_simp
  obtain ⟨w3, hw3⟩ : ∃ ww, ww = (w2.alloc (.cells #[.int .u8 x.v, .bool x.s, .int .u8 (getF f 1).v, .bool (getF f 1).s] 25)).drew := ⟨_, rfl⟩
  rw [← hw3]
  have b3 : Below w2.heap.size w2 w3 := by rw [hw3]; (repeat first | exact .refl _ _ | exact (Below.refl _ _).drew | refine .drew ?_ | refine .alloc ?_ (by simp <;> omega) _)
  have Rl : ByAt w3 (some ⟨w2.heap.size, 0, none⟩) [x, (getF f 1)] := by rw [hw3]; exact (byAt2 _ _ x (getF f 1)).below (Below.refl _ _).drew
  clear hw3
  clear cf0 cf1 zf0 zf1 cx0 cx1 zx0 zx1 co0 co1 zo0 zo1 cr0 cr1 zr0 zr1 cc0 cc1 zc0 zc1 nef nex neo ner nec
  replace Kf := kp b3 Kf
  replace Kx := kp b3 Kx
  replace Ko := kp b3 Ko
  replace Kr := kp b3 Kr
  replace Kc := kp b3 Kc
  replace bl := bl.trans (b3.mono bl.size)
  clear b3
  obtain ⟨cf0, zf0, cf1, zf1, nef⟩ := b2z Kf
  obtain ⟨cx0, zx0, cx1, zx1, nex⟩ := b2z Kx
  obtain ⟨co0, zo0, co1, zo1, neo⟩ := b2z Ko
  obtain ⟨cr0, zr0, cr1, zr1, ner⟩ := b2z Kr
  obtain ⟨cc0, zc0, cc1, zc1, nec⟩ := b2z Kc
  refine hK.out _ _ ⟨blk_cell Kf 0, blk_cell Kf 1, blk_cell Kx 0, blk_cell Kx 1, blk_cell Kc 0, blk_cell Kc 1⟩ (fun hHeld => ?_)
  clear hK K
  refine wpAnyH_ready (rs := [11]) (by kernel_rfl) (by simp) ?_
  refine AllReadyH.cons (o := ⟨_, _, _, _, _, _⟩) rfl (fun K hK => ?_) (AllReadyH.nil)
  go_simp
  refine (of_any _ [x, getF f 1] _ 2 _ rfl (by omega) Rl).mono ?_
  rintro e w4 ⟨rfl, b4⟩
  clear cf0 cf1 zf0 zf1 cx0 cx1 zx0 zx1 co0 co1 zo0 zo1 cr0 cr1 zr0 zr1 cc0 cc1 zc0 zc1 nef nex neo ner nec
  replace Kf := kp b4 Kf
  replace Kx := kp b4 Kx
  replace Ko := kp b4 Ko
  replace Kr := kp b4 Kr
  replace Kc := kp b4 Kc
  replace Rl := Rl.below b4
  replace bl := bl.trans (b4.mono bl.size)
  clear b4
  obtain ⟨cf0, zf0, cf1, zf1, nef⟩ := b2z Kf
  obtain ⟨cx0, zx0, cx1, zx1, nex⟩ := b2z Kx
  obtain ⟨co0, zo0, co1, zo1, neo⟩ := b2z Ko
  obtain ⟨cr0, zr0, cr1, zr1, ner⟩ := b2z Kr
  obtain ⟨cc0, zc0, cc1, zc1, nec⟩ := b2z Kc
  refine hK.out _ _ ⟨blk_cell Kf 0, blk_cell Kf 1, blk_cell Kx 0, blk_cell Kx 1, blk_cell Kc 0, blk_cell Kc 1⟩ (fun hHeld => ?_)
  clear hK K
  refine wpAnyH_ready (rs := [13]) (by kernel_rfl) (by simp) ?_
  refine AllReadyH.cons (o := ⟨_, _, _, _, _, _⟩) rfl (fun K hK => ?_) (AllReadyH.nil)
  go_simp
  refine (lbit0 x _).mono ?_
  rintro e w5 ⟨rfl, b5⟩
  clear cf0 cf1 zf0 zf1 cx0 cx1 zx0 zx1 co0 co1 zo0 zo1 cr0 cr1 zr0 zr1 cc0 cc1 zc0 zc1 nef nex neo ner nec
  replace Kf := kp b5 Kf
  replace Kx := kp b5 Kx
  replace Ko := kp b5 Ko
  replace Kr := kp b5 Kr
  replace Kc := kp b5 Kc
  replace Rl := Rl.below b5
  replace bl := bl.trans (b5.mono bl.size)
  clear b5
  obtain ⟨cf0, zf0, cf1, zf1, nef⟩ := b2z Kf
  obtain ⟨cx0, zx0, cx1, zx1, nex⟩ := b2z Kx
  obtain ⟨co0, zo0, co1, zo1, neo⟩ := b2z Ko
  obtain ⟨cr0, zr0, cr1, zr1, ner⟩ := b2z Kr
  obtain ⟨cc0, zc0, cc1, zc1, nec⟩ := b2z Kc
  refine hK.out _ _ ⟨blk_cell Kf 0, blk_cell Kf 1, blk_cell Kx 0, blk_cell Kx 1, blk_cell Kc 0, blk_cell Kc 1⟩ (fun hHeld => ?_)
  clear hK K
  refine wpAnyH_ready (rs := [14]) (by kernel_rfl) (by simp) ?_
  refine AllReadyH.cons (o := ⟨_, _, _, _, _, _⟩) rfl (fun K hK => ?_) (AllReadyH.nil)
  go_simp
  refine (shifted_any f ⟨bits BinOp.or IntKind.u8 (x.v / 2) (IntKind.u8.wrap ((getF f 1).v * 128)), anyB [x, (getF f 1)]⟩ (lbF x (x.v)) _).mono ?_
  rintro e w6 ⟨rfl, b6⟩
  clear cf0 cf1 zf0 zf1 cx0 cx1 zx0 zx1 co0 co1 zo0 zo1 cr0 cr1 zr0 zr1 cc0 cc1 zc0 zc1 nef nex neo ner nec
  replace Kf := kp b6 Kf
  replace Kx := kp b6 Kx
  replace Ko := kp b6 Ko
  replace Kr := kp b6 Kr
  replace Kc := kp b6 Kc
  replace Rl := Rl.below b6
  replace bl := bl.trans (b6.mono bl.size)
  clear b6
  obtain ⟨cf0, zf0, cf1, zf1, nef⟩ := b2z Kf
  obtain ⟨cx0, zx0, cx1, zx1, nex⟩ := b2z Kx
  obtain ⟨co0, zo0, co1, zo1, neo⟩ := b2z Ko
  obtain ⟨cr0, zr0, cr1, zr1, ner⟩ := b2z Kr
  obtain ⟨cc0, zc0, cc1, zc1, nec⟩ := b2z Kc
  refine hK.out _ _ ⟨blk_cell Kf 0, blk_cell Kf 1, blk_cell Kx 0, blk_cell Kx 1, blk_cell Kc 0, blk_cell Kc 1⟩ (fun hHeld => ?_)
  clear hK K
  refine tk 15 (v := ?_) rfl ?_ ?_; rotate_left; (focus (intro w hSw; (try dsimp only at hSw); go_simp; with_reducible rfl)); simp only [Act.put, tA, tB, tC]
  refine tk 16 (v := ?_) rfl ?_ ?_; rotate_left; (focus (intro w hSw; (try dsimp only at hSw); go_simp; with_reducible rfl)); simp only [Act.put, tA, tB, tC]
  refine wpAnyH_ready (rs := [17]) (by kernel_rfl) (by simp) ?_
  refine AllReadyH.cons (o := ⟨_, _, _, _, _, _⟩) rfl (fun K hK => ?_) (AllReadyH.nil)
  go_simp
  clear cf0 cf1 zf0 zf1 cx0 cx1 zx0 zx1 co0 co1 zo0 zo1 cr0 cr1 zr0 zr1 cc0 cc1 zc0 zc1 nef nex neo ner nec
  obtain ⟨w7, hw7⟩ : ∃ ww, ww = ((w6.setCell ⟨(w.heap.size + 1 + 1), 0, none⟩ (.int .u8 (bits BinOp.or IntKind.u8 (x.v / 2) (IntKind.u8.wrap ((getF f 1).v * 128))))).setCell ⟨(w.heap.size + 1 + 1), 1, none⟩ (.bool (anyB [x, getF f 1]))) := ⟨_, rfl⟩
  rw [← hw7]
  have nnf : (w.heap.size + 1 + 1) ≠ (w.heap.size) := by first | omega | (have := blk_lt Kf; have := blk_lt Ko; have := bl.size; omega)
  replace Kf : B2 w7 (w.heap.size) (.int .u8 f.p) (.int .u8 f.s) 23 := by rw [hw7]; exact ((oth2 nnf _ _).trans Kf)
  clear nnf
  have nnx : (w.heap.size + 1 + 1) ≠ (w.heap.size + 1) := by first | omega | (have := blk_lt Kx; have := blk_lt Ko; have := bl.size; omega)
  replace Kx : B2 w7 (w.heap.size + 1) (.int .u8 x.v) (.bool x.s) 25 := by rw [hw7]; exact ((oth2 nnx _ _).trans Kx)
  clear nnx
  have nnr : (w.heap.size + 1 + 1) ≠ (w.heap.size + 1 + 1 + 1) := by first | omega | (have := blk_lt Kr; have := blk_lt Ko; have := bl.size; omega)
  replace Kr : B2 w7 (w.heap.size + 1 + 1 + 1) (.int .u8 0) (.int .u8 0) 23 := by rw [hw7]; exact ((oth2 nnr _ _).trans Kr)
  clear nnr
  have nnc : (w.heap.size + 1 + 1) ≠ w1.heap.size := by first | omega | (have := blk_lt Kc; have := blk_lt Ko; have := bl.size; omega)
  replace Kc : B2 w7 w1.heap.size (.int .u8 (getF f 1).v) (.bool (getF f 1).s) 25 := by rw [hw7]; exact ((oth2 nnc _ _).trans Kc)
  clear nnc
  replace Ko : B2 w7 (w.heap.size + 1 + 1) (.int .u8 (bits BinOp.or IntKind.u8 (x.v / 2) (IntKind.u8.wrap ((getF f 1).v * 128)))) (.bool (anyB [x, getF f 1])) 25 := by rw [hw7]; exact (set2 Ko _ _)
  replace bl : Below w.heap.size w w7 := by rw [hw7]; exact bs2 bl (by first | exact Nat.le_refl _ | omega | (have := bl.size; omega)) _ _
  clear hw7
  obtain ⟨cf0, zf0, cf1, zf1, nef⟩ := b2z Kf
  obtain ⟨cx0, zx0, cx1, zx1, nex⟩ := b2z Kx
  obtain ⟨co0, zo0, co1, zo1, neo⟩ := b2z Ko
  obtain ⟨cr0, zr0, cr1, zr1, ner⟩ := b2z Kr
  obtain ⟨cc0, zc0, cc1, zc1, nec⟩ := b2z Kc
  refine hK.out _ _ ⟨blk_cell Kf 0, blk_cell Kf 1, blk_cell Kx 0, blk_cell Kx 1, blk_cell Kc 0, blk_cell Kc 1⟩ (fun hHeld => ?_)
  clear hK K
  refine wpAnyH_ready (rs := [18]) (by kernel_rfl) (by simp) ?_
  refine AllReadyH.cons (o := ⟨_, _, _, _, _, _⟩) rfl (fun K hK => ?_) (AllReadyH.nil)
  go_simp
  clear cf0 cf1 zf0 zf1 cx0 cx1 zx0 zx1 co0 co1 zo0 zo1 cr0 cr1 zr0 zr1 cc0 cc1 zc0 zc1 nef nex neo ner nec
  obtain ⟨w8, hw8⟩ : ∃ ww, ww = ((w7.setCell ⟨(w.heap.size + 1 + 1 + 1), 0, none⟩ (.int .u8 (nzF (setF f 1 (lbF x (x.v))) ⟨bits BinOp.or IntKind.u8 (x.v / 2) (IntKind.u8.wrap ((getF f 1).v * 128)), anyB [x, (getF f 1)]⟩).p)).setCell ⟨(w.heap.size + 1 + 1 + 1), 1, none⟩ (.int .u8 (nzF (setF f 1 (lbF x (x.v))) ⟨bits BinOp.or IntKind.u8 (x.v / 2) (IntKind.u8.wrap ((getF f 1).v * 128)), anyB [x, (getF f 1)]⟩).s)) := ⟨_, rfl⟩
  rw [← hw8]
  have nnf : (w.heap.size + 1 + 1 + 1) ≠ (w.heap.size) := by first | omega | (have := blk_lt Kf; have := blk_lt Kr; have := bl.size; omega)
  replace Kf : B2 w8 (w.heap.size) (.int .u8 f.p) (.int .u8 f.s) 23 := by rw [hw8]; exact ((oth2 nnf _ _).trans Kf)
  clear nnf
  have nnx : (w.heap.size + 1 + 1 + 1) ≠ (w.heap.size + 1) := by first | omega | (have := blk_lt Kx; have := blk_lt Kr; have := bl.size; omega)
  replace Kx : B2 w8 (w.heap.size + 1) (.int .u8 x.v) (.bool x.s) 25 := by rw [hw8]; exact ((oth2 nnx _ _).trans Kx)
  clear nnx
  have nno : (w.heap.size + 1 + 1 + 1) ≠ (w.heap.size + 1 + 1) := by first | omega | (have := blk_lt Ko; have := blk_lt Kr; have := bl.size; omega)
  replace Ko : B2 w8 (w.heap.size + 1 + 1) (.int .u8 (bits BinOp.or IntKind.u8 (x.v / 2) (IntKind.u8.wrap ((getF f 1).v * 128)))) (.bool (anyB [x, getF f 1])) 25 := by rw [hw8]; exact ((oth2 nno _ _).trans Ko)
  clear nno
  have nnc : (w.heap.size + 1 + 1 + 1) ≠ w1.heap.size := by first | omega | (have := blk_lt Kc; have := blk_lt Kr; have := bl.size; omega)
  replace Kc : B2 w8 w1.heap.size (.int .u8 (getF f 1).v) (.bool (getF f 1).s) 25 := by rw [hw8]; exact ((oth2 nnc _ _).trans Kc)
  clear nnc
  replace Kr : B2 w8 (w.heap.size + 1 + 1 + 1) (.int .u8 (nzF (setF f 1 (lbF x (x.v))) ⟨bits BinOp.or IntKind.u8 (x.v / 2) (IntKind.u8.wrap ((getF f 1).v * 128)), anyB [x, (getF f 1)]⟩).p) (.int .u8 (nzF (setF f 1 (lbF x (x.v))) ⟨bits BinOp.or IntKind.u8 (x.v / 2) (IntKind.u8.wrap ((getF f 1).v * 128)), anyB [x, (getF f 1)]⟩).s) 23 := by rw [hw8]; exact (set2 Kr _ _)
  replace bl : Below w.heap.size w w8 := by rw [hw8]; exact bs2 bl (by first | exact Nat.le_refl _ | omega | (have := bl.size; omega)) _ _
  clear hw8
  obtain ⟨cf0, zf0, cf1, zf1, nef⟩ := b2z Kf
  obtain ⟨cx0, zx0, cx1, zx1, nex⟩ := b2z Kx
  obtain ⟨co0, zo0, co1, zo1, neo⟩ := b2z Ko
  obtain ⟨cr0, zr0, cr1, zr1, ner⟩ := b2z Kr
  obtain ⟨cc0, zc0, cc1, zc1, nec⟩ := b2z Kc
  refine hK.out _ _ ⟨blk_cell Kf 0, blk_cell Kf 1, blk_cell Kx 0, blk_cell Kx 1, blk_cell Kc 0, blk_cell Kc 1⟩ (fun hHeld => ?_)
  clear hK K
  refine wpAnyH_done (by kernel_rfl) (NoPanic.normal ?_) _
  go_wp2_with fail
  exact bodyPost_ret (v := .tuple #[By.V ⟨bits BinOp.or IntKind.u8 (x.v / 2) (IntKind.u8.wrap ((getF f 1).v * 128)), anyB [x, (getF f 1)]⟩, (nzF (setF f 1 (lbF x (x.v))) ⟨bits BinOp.or IntKind.u8 (x.v / 2) (IntKind.u8.wrap ((getF f 1).v * 128)), anyB [x, (getF f 1)]⟩).V]) (by simp [results, Try.results32, go_sem, co0, co1, cr0, cr1]) rfl ⟨rfl, bl⟩
end Go.Proofs.Ytdgjenlejalgeaa
