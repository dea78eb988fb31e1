import Derived.Test.YtdgjenlejalgeaaBl4
namespace Go.Proofs.Ytdgjenlejalgeaa
open Go.RowKit Go.Sx
set_option maxHeartbeats 3200000 in
theorem adc_any (f : Fl) (a m : By) (w : World) : Calls Try.prog 22 #[f.V, a.V, m.V] w fun e w' => e = .returned (.tuple #[By.V ⟨IntKind.u64.wrap (IntKind.u64.wrap (IntKind.u64.wrap a.v + IntKind.u64.wrap m.v) + IntKind.u64.wrap (getF f 1).v) % 256, anyB [a, m, getF f 1]⟩, (nzF (setF (setF f 1 ⟨trI (decide (255 < IntKind.u64.wrap (IntKind.u64.wrap (IntKind.u64.wrap a.v + IntKind.u64.wrap m.v) + IntKind.u64.wrap (getF f 1).v))), anyB [⟨IntKind.u64.wrap (IntKind.u64.wrap (IntKind.u64.wrap a.v + IntKind.u64.wrap m.v) + IntKind.u64.wrap (getF f 1).v) % 256, anyB [a, m, getF f 1]⟩]⟩) 64 ⟨trI (decide (0 < bits BinOp.and IntKind.u8 (bits BinOp.and IntKind.u8 (bits BinOp.xor IntKind.u8 (if IntKind.u8.signed = true then -1 else IntKind.u8.max) (bits BinOp.xor IntKind.u8 a.v m.v)) (bits BinOp.xor IntKind.u8 a.v (IntKind.u64.wrap (IntKind.u64.wrap (IntKind.u64.wrap a.v + IntKind.u64.wrap m.v) + IntKind.u64.wrap (getF f 1).v) % 256))) 128)), anyB [⟨IntKind.u64.wrap (IntKind.u64.wrap (IntKind.u64.wrap a.v + IntKind.u64.wrap m.v) + IntKind.u64.wrap (getF f 1).v) % 256, anyB [a, m, getF f 1]⟩]⟩) ⟨IntKind.u64.wrap (IntKind.u64.wrap (IntKind.u64.wrap a.v + IntKind.u64.wrap m.v) + IntKind.u64.wrap (getF f 1).v) % 256, anyB [a, m, getF f 1]⟩).V]) ∧ Below w.heap.size w w' := by
  go_enter Try.func22, Try.ntmps22
  go_upto_region 1 with fail
  obtain ⟨w0, hw0⟩ : ∃ ww, ww = (((((w.alloc (.cells #[.int .u8 f.p, .int .u8 f.s] 23)).alloc (.cells #[.int .u8 a.v, .bool a.s] 25)).alloc (.cells #[.int .u8 m.v, .bool m.s] 25)).alloc (.cells #[.int .u8 0, .bool false] 25)).alloc (.cells #[.int .u8 0, .int .u8 0] 23)) := ⟨_, rfl⟩
  rw [← hw0]
  have Kf : B2 w0 (w.heap.size) (.int .u8 f.p) (.int .u8 f.s) 23 := by rw [hw0]; exact blk_alloc (blk_alloc (blk_alloc (blk_alloc (blk_new' _ (by simp)) _) _) _) _
  have Ka : B2 w0 (w.heap.size + 1) (.int .u8 a.v) (.bool a.s) 25 := by rw [hw0]; exact blk_alloc (blk_alloc (blk_alloc (blk_new' _ (by simp)) _) _) _
  have Km : B2 w0 (w.heap.size + 1 + 1) (.int .u8 m.v) (.bool m.s) 25 := by rw [hw0]; exact blk_alloc (blk_alloc (blk_new' _ (by simp)) _) _
  have Ko : B2 w0 (w.heap.size + 1 + 1 + 1) (.int .u8 0) (.bool false) 25 := by rw [hw0]; exact blk_alloc (blk_new' _ (by simp)) _
  have Kr : B2 w0 (w.heap.size + 1 + 1 + 1 + 1) (.int .u8 0) (.int .u8 0) 23 := by rw [hw0]; exact blk_new' _ (by simp)
  have qfa : w.heap.size ≠ w.heap.size + 1 := by omega
  have qfm : w.heap.size ≠ w.heap.size + 1 + 1 := by omega
  have qfo : w.heap.size ≠ w.heap.size + 1 + 1 + 1 := by omega
  have qfr : w.heap.size ≠ w.heap.size + 1 + 1 + 1 + 1 := by omega
  have qaf : w.heap.size + 1 ≠ w.heap.size := by omega
  have qam : w.heap.size + 1 ≠ w.heap.size + 1 + 1 := by omega
  have qao : w.heap.size + 1 ≠ w.heap.size + 1 + 1 + 1 := by omega
  have qar : w.heap.size + 1 ≠ w.heap.size + 1 + 1 + 1 + 1 := by omega
  have qmf : w.heap.size + 1 + 1 ≠ w.heap.size := by omega
  have qma : w.heap.size + 1 + 1 ≠ w.heap.size + 1 := by omega
  have qmo : w.heap.size + 1 + 1 ≠ w.heap.size + 1 + 1 + 1 := by omega
  have qmr : w.heap.size + 1 + 1 ≠ w.heap.size + 1 + 1 + 1 + 1 := by omega
  have qof : w.heap.size + 1 + 1 + 1 ≠ w.heap.size := by omega
  have qoa : w.heap.size + 1 + 1 + 1 ≠ w.heap.size + 1 := by omega
  have qom : w.heap.size + 1 + 1 + 1 ≠ w.heap.size + 1 + 1 := by omega
  have qor : w.heap.size + 1 + 1 + 1 ≠ w.heap.size + 1 + 1 + 1 + 1 := by omega
  have qrf : w.heap.size + 1 + 1 + 1 + 1 ≠ w.heap.size := by omega
  have qra : w.heap.size + 1 + 1 + 1 + 1 ≠ w.heap.size + 1 := by omega
  have qrm : w.heap.size + 1 + 1 + 1 + 1 ≠ w.heap.size + 1 + 1 := by omega
  have qro : w.heap.size + 1 + 1 + 1 + 1 ≠ w.heap.size + 1 + 1 + 1 := by omega
  have bl : Below w.heap.size w w0 := by rw [hw0]; (repeat first | exact .refl _ _ | exact (Below.refl _ _).drew | refine .drew ?_ | refine .alloc ?_ (by simp <;> omega) _)
  clear hw0
  obtain ⟨cf0, zf0, cf1, zf1, nef⟩ := b2z Kf
  obtain ⟨ca0, za0, ca1, za1, nea⟩ := b2z Ka
  obtain ⟨cm0, zm0, cm1, zm1, nem⟩ := b2z Km
  obtain ⟨co0, zo0, co1, zo1, neo⟩ := b2z Ko
  obtain ⟨cr0, zr0, cr1, zr1, ner⟩ := b2z Kr
  go_wp2_with fail
  refine (get_any f 1 _).mono ?_
  rintro e w1 ⟨rfl, b1⟩
  clear cf0 cf1 zf0 zf1 ca0 ca1 za0 za1 cm0 cm1 zm0 zm1 co0 co1 zo0 zo1 cr0 cr1 zr0 zr1 nef nea nem neo ner
  replace Kf := kp b1 Kf
  replace Ka := kp b1 Ka
  replace Km := kp b1 Km
  replace Ko := kp b1 Ko
  replace Kr := kp b1 Kr
  replace bl := bl.trans (b1.mono bl.size)
  clear b1
  obtain ⟨cf0, zf0, cf1, zf1, nef⟩ := b2z Kf
  obtain ⟨ca0, za0, ca1, za1, nea⟩ := b2z Ka
  obtain ⟨cm0, zm0, cm1, zm1, nem⟩ := b2z Km
  obtain ⟨co0, zo0, co1, zo1, neo⟩ := b2z Ko
  obtain ⟨cr0, zr0, cr1, zr1, ner⟩ := b2z Kr
  go_upto_region 2 with fail
  have qfc : (w.heap.size) ≠ w1.heap.size := by have := blk_lt Kf; omega
  have qcf := qfc.symm
  have qac : (w.heap.size + 1) ≠ w1.heap.size := by have := blk_lt Ka; omega
  have qca := qac.symm
  have qmc : (w.heap.size + 1 + 1) ≠ w1.heap.size := by have := blk_lt Km; omega
  have qcm := qmc.symm
  have qoc : (w.heap.size + 1 + 1 + 1) ≠ w1.heap.size := by have := blk_lt Ko; omega
  have qco := qoc.symm
  have qrc : (w.heap.size + 1 + 1 + 1 + 1) ≠ w1.heap.size := by have := blk_lt Kr; omega
  have qcr := qrc.symm
  obtain ⟨w2, hw2⟩ : ∃ ww, ww = (w1.alloc (.cells #[.int .u8 (getF f 1).v, .bool (getF f 1).s] 25)) := ⟨_, rfl⟩
  rw [← hw2]
  have b2 : Below w1.heap.size w1 w2 := by rw [hw2]; (repeat first | exact .refl _ _ | exact (Below.refl _ _).drew | refine .drew ?_ | refine .alloc ?_ (by simp <;> omega) _)
  have Kc : B2 w2 w1.heap.size (.int .u8 (getF f 1).v) (.bool (getF f 1).s) 25 := by rw [hw2]; exact blk_new _ _
  clear hw2
  clear cf0 cf1 zf0 zf1 ca0 ca1 za0 za1 cm0 cm1 zm0 zm1 co0 co1 zo0 zo1 cr0 cr1 zr0 zr1 nef nea nem neo ner
  replace Kf := kp b2 Kf
  replace Ka := kp b2 Ka
  replace Km := kp b2 Km
  replace Ko := kp b2 Ko
  replace Kr := kp b2 Kr
  replace bl := bl.trans (b2.mono bl.size)
  clear b2
  obtain ⟨cf0, zf0, cf1, zf1, nef⟩ := b2z Kf
  obtain ⟨ca0, za0, ca1, za1, nea⟩ := b2z Ka
  obtain ⟨cm0, zm0, cm1, zm1, nem⟩ := b2z Km
  obtain ⟨co0, zo0, co1, zo1, neo⟩ := b2z Ko
  obtain ⟨cr0, zr0, cr1, zr1, ner⟩ := b2z Kr
  obtain ⟨cc0, zc0, cc1, zc1, nec⟩ := b2z Kc
  go_wp2_with fail
  obtain ⟨w3, hw3⟩ : ∃ ww, ww = (w2.alloc (.cells #[.int .u8 a.v, .bool a.s, .int .u8 m.v, .bool m.s, .int .u8 (getF f 1).v, .bool (getF f 1).s] 25)) := ⟨_, rfl⟩
  rw [← hw3]
  have b3 : Below w2.heap.size w2 w3 := by rw [hw3]; (repeat first | exact .refl _ _ | exact (Below.refl _ _).drew | refine .drew ?_ | refine .alloc ?_ (by simp <;> omega) _)
  have Rl : ByAt w3 (some ⟨w2.heap.size, 0, none⟩) [a, m, (getF f 1)] := by rw [hw3]; exact byAt3 _ _ a m (getF f 1)
  clear hw3
  clear cf0 cf1 zf0 zf1 ca0 ca1 za0 za1 cm0 cm1 zm0 zm1 co0 co1 zo0 zo1 cr0 cr1 zr0 zr1 cc0 cc1 zc0 zc1 nef nea nem neo ner nec
  replace Kf := kp b3 Kf
  replace Ka := kp b3 Ka
  replace Km := kp b3 Km
  replace Ko := kp b3 Ko
  replace Kr := kp b3 Kr
  replace Kc := kp b3 Kc
  replace bl := bl.trans (b3.mono bl.size)
  clear b3
  obtain ⟨cf0, zf0, cf1, zf1, nef⟩ := b2z Kf
  obtain ⟨ca0, za0, ca1, za1, nea⟩ := b2z Ka
  obtain ⟨cm0, zm0, cm1, zm1, nem⟩ := b2z Km
  obtain ⟨co0, zo0, co1, zo1, neo⟩ := b2z Ko
  obtain ⟨cr0, zr0, cr1, zr1, ner⟩ := b2z Kr
  obtain ⟨cc0, zc0, cc1, zc1, nec⟩ := b2z Kc
  refine (of_any _ [a, m, getF f 1] _ 3 _ rfl (by omega) Rl).mono ?_
  rintro e w4 ⟨rfl, b4⟩
  clear cf0 cf1 zf0 zf1 ca0 ca1 za0 za1 cm0 cm1 zm0 zm1 co0 co1 zo0 zo1 cr0 cr1 zr0 zr1 cc0 cc1 zc0 zc1 nef nea nem neo ner nec
  replace Kf := kp b4 Kf
  replace Ka := kp b4 Ka
  replace Km := kp b4 Km
  replace Ko := kp b4 Ko
  replace Kr := kp b4 Kr
  replace Kc := kp b4 Kc
  replace Rl := Rl.below b4
  replace bl := bl.trans (b4.mono bl.size)
  clear b4
  obtain ⟨cf0, zf0, cf1, zf1, nef⟩ := b2z Kf
  obtain ⟨ca0, za0, ca1, za1, nea⟩ := b2z Ka
  obtain ⟨cm0, zm0, cm1, zm1, nem⟩ := b2z Km
  obtain ⟨co0, zo0, co1, zo1, neo⟩ := b2z Ko
  obtain ⟨cr0, zr0, cr1, zr1, ner⟩ := b2z Kr
  obtain ⟨cc0, zc0, cc1, zc1, nec⟩ := b2z Kc
  go_upto_region 4 with fail
  have qfx : (w.heap.size) ≠ w4.heap.size := by have := blk_lt Kf; omega
  have qxf := qfx.symm
  have qax : (w.heap.size + 1) ≠ w4.heap.size := by have := blk_lt Ka; omega
  have qxa := qax.symm
  have qmx : (w.heap.size + 1 + 1) ≠ w4.heap.size := by have := blk_lt Km; omega
  have qxm := qmx.symm
  have qox : (w.heap.size + 1 + 1 + 1) ≠ w4.heap.size := by have := blk_lt Ko; omega
  have qxo := qox.symm
  have qrx : (w.heap.size + 1 + 1 + 1 + 1) ≠ w4.heap.size := by have := blk_lt Kr; omega
  have qxr := qrx.symm
  have qcx : w1.heap.size ≠ w4.heap.size := by have := blk_lt Kc; omega
  have qxc := qcx.symm
  obtain ⟨w5, hw5⟩ : ∃ ww, ww = (w4.alloc (.cells #[.int .u8 (IntKind.u64.wrap (IntKind.u64.wrap (IntKind.u64.wrap a.v + IntKind.u64.wrap m.v) + IntKind.u64.wrap (getF f 1).v) % 256), .bool (anyB [a, m, getF f 1])] 25)) := ⟨_, rfl⟩
  rw [← hw5]
  have b5 : Below w4.heap.size w4 w5 := by rw [hw5]; (repeat first | exact .refl _ _ | exact (Below.refl _ _).drew | refine .drew ?_ | refine .alloc ?_ (by simp <;> omega) _)
  have Kx : B2 w5 w4.heap.size (.int .u8 (IntKind.u64.wrap (IntKind.u64.wrap (IntKind.u64.wrap a.v + IntKind.u64.wrap m.v) + IntKind.u64.wrap (getF f 1).v) % 256)) (.bool (anyB [a, m, getF f 1])) 25 := by rw [hw5]; exact blk_new _ _
  clear hw5
  clear cf0 cf1 zf0 zf1 ca0 ca1 za0 za1 cm0 cm1 zm0 zm1 co0 co1 zo0 zo1 cr0 cr1 zr0 zr1 cc0 cc1 zc0 zc1 nef nea nem neo ner nec
  replace Kf := kp b5 Kf
  replace Ka := kp b5 Ka
  replace Km := kp b5 Km
  replace Ko := kp b5 Ko
  replace Kr := kp b5 Kr
  replace Kc := kp b5 Kc
  replace Rl := Rl.below b5
  replace bl := bl.trans (b5.mono bl.size)
  clear b5
  obtain ⟨cf0, zf0, cf1, zf1, nef⟩ := b2z Kf
  obtain ⟨ca0, za0, ca1, za1, nea⟩ := b2z Ka
  obtain ⟨cm0, zm0, cm1, zm1, nem⟩ := b2z Km
  obtain ⟨co0, zo0, co1, zo1, neo⟩ := b2z Ko
  obtain ⟨cr0, zr0, cr1, zr1, ner⟩ := b2z Kr
  obtain ⟨cc0, zc0, cc1, zc1, nec⟩ := b2z Kc
  obtain ⟨cx0, zx0, cx1, zx1, nex⟩ := b2z Kx
  go_upto_region 5 with fail
  refine wp_region_noPanic ?_
  refine wp_region_held_drew (S := (fun w' => w'.cell? ⟨w4.heap.size, 0, none⟩ = some (.int .u8 (IntKind.u64.wrap (IntKind.u64.wrap (IntKind.u64.wrap a.v + IntKind.u64.wrap m.v) + IntKind.u64.wrap (getF f 1).v) % 256)) ∧ w'.cell? ⟨w4.heap.size, 1, none⟩ = some (.bool (anyB [a, m, getF f 1])))) (by kernel_rfl) ⟨blk_cell Kx 0, blk_cell Kx 1⟩ (fun hHeld => ?_)
  refine tk 1 (v := ?_) rfl ?_ ?_; rotate_left; (focus (intro w hSw; (try dsimp only at hSw); go_simp; with_reducible rfl)); simp only [Act.put, tA, tB, tC]
  refine tk 2 (v := ?_) rfl ?_ ?_; rotate_left; (focus (intro w hSw; (try dsimp only at hSw); go_simp; with_reducible rfl)); simp only [Act.put, tA, tB, tC]
  refine tk 3 (v := ?_) rfl ?_ ?_; rotate_left; (focus (intro w hSw; (try dsimp only at hSw); go_simp; with_reducible rfl)); simp only [Act.put, tA, tB, tC]
  refine wpAnyH_ready (rs := [0, 4]) (by kernel_rfl) (by simp) ?_
  refine AllReadyH.cons (o := ⟨_, _, _, _, _, _⟩) rfl (fun K hK => ?_) (AllReadyH.cons (o := ⟨_, _, _, _, _, _⟩) rfl (fun K hK => ?_) (AllReadyH.nil))
  · go_simp
    refine hK.out _ _ ⟨blk_cell Kx 0, blk_cell Kx 1⟩ (fun hHeld => ?_)
    clear hK K
    refine wpAnyH_ready (rs := [4]) (by kernel_rfl) (by simp) ?_
    refine AllReadyH.cons (o := ⟨_, _, _, _, _, _⟩) rfl (fun K hK => ?_) (AllReadyH.nil)
    go_simp
    obtain ⟨w6, hw6⟩ : ∃ ww, ww = (w5.alloc (.cells #[.int .u8 (⟨IntKind.u64.wrap (IntKind.u64.wrap (IntKind.u64.wrap a.v + IntKind.u64.wrap m.v) + IntKind.u64.wrap (getF f 1).v) % 256, anyB [a, m, getF f 1]⟩ : By).v, .bool (⟨IntKind.u64.wrap (IntKind.u64.wrap (IntKind.u64.wrap a.v + IntKind.u64.wrap m.v) + IntKind.u64.wrap (getF f 1).v) % 256, anyB [a, m, getF f 1]⟩ : By).s] 25)).drew := ⟨_, rfl⟩
    rw [← hw6]
    have b6 : Below w5.heap.size w5 w6 := by rw [hw6]; (repeat first | exact .refl _ _ | exact (Below.refl _ _).drew | refine .drew ?_ | refine .alloc ?_ (by simp <;> omega) _)
    have Rk : ByAt w6 (some ⟨w5.heap.size, 0, none⟩) [(⟨IntKind.u64.wrap (IntKind.u64.wrap (IntKind.u64.wrap a.v + IntKind.u64.wrap m.v) + IntKind.u64.wrap (getF f 1).v) % 256, anyB [a, m, getF f 1]⟩ : By)] := by rw [hw6]; exact (byAt1 _ _ (⟨IntKind.u64.wrap (IntKind.u64.wrap (IntKind.u64.wrap a.v + IntKind.u64.wrap m.v) + IntKind.u64.wrap (getF f 1).v) % 256, anyB [a, m, getF f 1]⟩ : By)).below (Below.refl _ _).drew
    clear hw6
    clear cf0 cf1 zf0 zf1 ca0 ca1 za0 za1 cm0 cm1 zm0 zm1 co0 co1 zo0 zo1 cr0 cr1 zr0 zr1 cc0 cc1 zc0 zc1 cx0 cx1 zx0 zx1 nef nea nem neo ner nec nex
    replace Kf := kp b6 Kf
    replace Ka := kp b6 Ka
    replace Km := kp b6 Km
    replace Ko := kp b6 Ko
    replace Kr := kp b6 Kr
    replace Kc := kp b6 Kc
    replace Kx := kp b6 Kx
    replace Rl := Rl.below b6
    replace bl := bl.trans (b6.mono bl.size)
    clear b6
    obtain ⟨cf0, zf0, cf1, zf1, nef⟩ := b2z Kf
    obtain ⟨ca0, za0, ca1, za1, nea⟩ := b2z Ka
    obtain ⟨cm0, zm0, cm1, zm1, nem⟩ := b2z Km
    obtain ⟨co0, zo0, co1, zo1, neo⟩ := b2z Ko
    obtain ⟨cr0, zr0, cr1, zr1, ner⟩ := b2z Kr
    obtain ⟨cc0, zc0, cc1, zc1, nec⟩ := b2z Kc
    obtain ⟨cx0, zx0, cx1, zx1, nex⟩ := b2z Kx
    refine hK.out _ _ ⟨blk_cell Kx 0, blk_cell Kx 1⟩ (fun hHeld => ?_)
    clear hK K
    refine wpAnyH_ready (rs := [5]) (by kernel_rfl) (by simp) ?_
    refine AllReadyH.cons (o := ⟨_, _, _, _, _, _⟩) rfl (fun K hK => ?_) (AllReadyH.nil)
    go_simp
    refine (truth_any _ [⟨IntKind.u64.wrap (IntKind.u64.wrap (IntKind.u64.wrap a.v + IntKind.u64.wrap m.v) + IntKind.u64.wrap (getF f 1).v) % 256, anyB [a, m, getF f 1]⟩] _ 1 _ rfl (by omega) Rk).mono ?_
    rintro e w7 ⟨rfl, b7⟩
    clear cf0 cf1 zf0 zf1 ca0 ca1 za0 za1 cm0 cm1 zm0 zm1 co0 co1 zo0 zo1 cr0 cr1 zr0 zr1 cc0 cc1 zc0 zc1 cx0 cx1 zx0 zx1 nef nea nem neo ner nec nex
    replace Kf := kp b7 Kf
    replace Ka := kp b7 Ka
    replace Km := kp b7 Km
    replace Ko := kp b7 Ko
    replace Kr := kp b7 Kr
    replace Kc := kp b7 Kc
    replace Kx := kp b7 Kx
    replace Rl := Rl.below b7
    replace Rk := Rk.below b7
    replace bl := bl.trans (b7.mono bl.size)
    clear b7
    obtain ⟨cf0, zf0, cf1, zf1, nef⟩ := b2z Kf
    obtain ⟨ca0, za0, ca1, za1, nea⟩ := b2z Ka
    obtain ⟨cm0, zm0, cm1, zm1, nem⟩ := b2z Km
    obtain ⟨co0, zo0, co1, zo1, neo⟩ := b2z Ko
    obtain ⟨cr0, zr0, cr1, zr1, ner⟩ := b2z Kr
    obtain ⟨cc0, zc0, cc1, zc1, nec⟩ := b2z Kc
    obtain ⟨cx0, zx0, cx1, zx1, nex⟩ := b2z Kx
    refine hK.out _ _ ⟨blk_cell Kx 0, blk_cell Kx 1⟩ (fun hHeld => ?_)
    clear hK K
    refine wpAnyH_ready (rs := [6]) (by kernel_rfl) (by simp) ?_
    refine AllReadyH.cons (o := ⟨_, _, _, _, _, _⟩) rfl (fun K hK => ?_) (AllReadyH.nil)
    go_simp
    refine (set_any f 1 ⟨trI (decide (255 < IntKind.u64.wrap (IntKind.u64.wrap (IntKind.u64.wrap a.v + IntKind.u64.wrap m.v) + IntKind.u64.wrap (getF f 1).v))), anyB [⟨IntKind.u64.wrap (IntKind.u64.wrap (IntKind.u64.wrap a.v + IntKind.u64.wrap m.v) + IntKind.u64.wrap (getF f 1).v) % 256, anyB [a, m, getF f 1]⟩]⟩ _).mono ?_
    rintro e w8 ⟨rfl, b8⟩
    clear cf0 cf1 zf0 zf1 ca0 ca1 za0 za1 cm0 cm1 zm0 zm1 co0 co1 zo0 zo1 cr0 cr1 zr0 zr1 cc0 cc1 zc0 zc1 cx0 cx1 zx0 zx1 nef nea nem neo ner nec nex
    replace Kf := kp b8 Kf
    replace Ka := kp b8 Ka
    replace Km := kp b8 Km
    replace Ko := kp b8 Ko
    replace Kr := kp b8 Kr
    replace Kc := kp b8 Kc
    replace Kx := kp b8 Kx
    replace Rl := Rl.below b8
    replace Rk := Rk.below b8
    replace bl := bl.trans (b8.mono bl.size)
    clear b8
    obtain ⟨cf0, zf0, cf1, zf1, nef⟩ := b2z Kf
    obtain ⟨ca0, za0, ca1, za1, nea⟩ := b2z Ka
    obtain ⟨cm0, zm0, cm1, zm1, nem⟩ := b2z Km
    obtain ⟨co0, zo0, co1, zo1, neo⟩ := b2z Ko
    obtain ⟨cr0, zr0, cr1, zr1, ner⟩ := b2z Kr
    obtain ⟨cc0, zc0, cc1, zc1, nec⟩ := b2z Kc
    obtain ⟨cx0, zx0, cx1, zx1, nex⟩ := b2z Kx
    refine hK.out _ _ ⟨blk_cell Kx 0, blk_cell Kx 1⟩ (fun hHeld => ?_)
    clear hK K
    refine wpAnyH_ready (rs := [7]) (by kernel_rfl) (by simp) ?_
    refine AllReadyH.cons (o := ⟨_, _, _, _, _, _⟩) rfl (fun K hK => ?_) (AllReadyH.nil)
    go_simp
    clear cf0 cf1 zf0 zf1 ca0 ca1 za0 za1 cm0 cm1 zm0 zm1 co0 co1 zo0 zo1 cr0 cr1 zr0 zr1 cc0 cc1 zc0 zc1 cx0 cx1 zx0 zx1 nef nea nem neo ner nec nex
    clear Rl
    clear Rk
    obtain ⟨w9, hw9⟩ : ∃ ww, ww = ((w8.setCell ⟨(w.heap.size), 0, none⟩ (.int .u8 (setF f 1 ⟨trI (decide (255 < IntKind.u64.wrap (IntKind.u64.wrap (IntKind.u64.wrap a.v + IntKind.u64.wrap m.v) + IntKind.u64.wrap (getF f 1).v))), anyB [⟨IntKind.u64.wrap (IntKind.u64.wrap (IntKind.u64.wrap a.v + IntKind.u64.wrap m.v) + IntKind.u64.wrap (getF f 1).v) % 256, anyB [a, m, getF f 1]⟩]⟩).p)).setCell ⟨(w.heap.size), 1, none⟩ (.int .u8 (setF f 1 ⟨trI (decide (255 < IntKind.u64.wrap (IntKind.u64.wrap (IntKind.u64.wrap a.v + IntKind.u64.wrap m.v) + IntKind.u64.wrap (getF f 1).v))), anyB [⟨IntKind.u64.wrap (IntKind.u64.wrap (IntKind.u64.wrap a.v + IntKind.u64.wrap m.v) + IntKind.u64.wrap (getF f 1).v) % 256, anyB [a, m, getF f 1]⟩]⟩).s)) := ⟨_, rfl⟩
    rw [← hw9]
    have nna : (w.heap.size) ≠ (w.heap.size + 1) := by first | omega | (have := blk_lt Ka; have := blk_lt Kf; have := bl.size; omega)
    replace Ka : B2 w9 (w.heap.size + 1) (.int .u8 a.v) (.bool a.s) 25 := by rw [hw9]; exact ((oth2 nna _ _).trans Ka)
    clear nna
    have nnm : (w.heap.size) ≠ (w.heap.size + 1 + 1) := by first | omega | (have := blk_lt Km; have := blk_lt Kf; have := bl.size; omega)
    replace Km : B2 w9 (w.heap.size + 1 + 1) (.int .u8 m.v) (.bool m.s) 25 := by rw [hw9]; exact ((oth2 nnm _ _).trans Km)
    clear nnm
    have nno : (w.heap.size) ≠ (w.heap.size + 1 + 1 + 1) := by first | omega | (have := blk_lt Ko; have := blk_lt Kf; have := bl.size; omega)
    replace Ko : B2 w9 (w.heap.size + 1 + 1 + 1) (.int .u8 0) (.bool false) 25 := by rw [hw9]; exact ((oth2 nno _ _).trans Ko)
    clear nno
    have nnr : (w.heap.size) ≠ (w.heap.size + 1 + 1 + 1 + 1) := by first | omega | (have := blk_lt Kr; have := blk_lt Kf; have := bl.size; omega)
    replace Kr : B2 w9 (w.heap.size + 1 + 1 + 1 + 1) (.int .u8 0) (.int .u8 0) 23 := by rw [hw9]; exact ((oth2 nnr _ _).trans Kr)
    clear nnr
    have nnc : (w.heap.size) ≠ w1.heap.size := by first | omega | (have := blk_lt Kc; have := blk_lt Kf; have := bl.size; omega)
    replace Kc : B2 w9 w1.heap.size (.int .u8 (getF f 1).v) (.bool (getF f 1).s) 25 := by rw [hw9]; exact ((oth2 nnc _ _).trans Kc)
    clear nnc
    have nnx : (w.heap.size) ≠ w4.heap.size := by first | omega | (have := blk_lt Kx; have := blk_lt Kf; have := bl.size; omega)
    replace Kx : B2 w9 w4.heap.size (.int .u8 (IntKind.u64.wrap (IntKind.u64.wrap (IntKind.u64.wrap a.v + IntKind.u64.wrap m.v) + IntKind.u64.wrap (getF f 1).v) % 256)) (.bool (anyB [a, m, getF f 1])) 25 := by rw [hw9]; exact ((oth2 nnx _ _).trans Kx)
    clear nnx
    replace Kf : B2 w9 (w.heap.size) (.int .u8 (setF f 1 ⟨trI (decide (255 < IntKind.u64.wrap (IntKind.u64.wrap (IntKind.u64.wrap a.v + IntKind.u64.wrap m.v) + IntKind.u64.wrap (getF f 1).v))), anyB [⟨IntKind.u64.wrap (IntKind.u64.wrap (IntKind.u64.wrap a.v + IntKind.u64.wrap m.v) + IntKind.u64.wrap (getF f 1).v) % 256, anyB [a, m, getF f 1]⟩]⟩).p) (.int .u8 (setF f 1 ⟨trI (decide (255 < IntKind.u64.wrap (IntKind.u64.wrap (IntKind.u64.wrap a.v + IntKind.u64.wrap m.v) + IntKind.u64.wrap (getF f 1).v))), anyB [⟨IntKind.u64.wrap (IntKind.u64.wrap (IntKind.u64.wrap a.v + IntKind.u64.wrap m.v) + IntKind.u64.wrap (getF f 1).v) % 256, anyB [a, m, getF f 1]⟩]⟩).s) 23 := by rw [hw9]; exact (set2 Kf _ _)
    replace bl : Below w.heap.size w w9 := by rw [hw9]; exact bs2 bl (by first | exact Nat.le_refl _ | omega | (have := bl.size; omega)) _ _
    clear hw9
    obtain ⟨cf0, zf0, cf1, zf1, nef⟩ := b2z Kf
    obtain ⟨ca0, za0, ca1, za1, nea⟩ := b2z Ka
    obtain ⟨cm0, zm0, cm1, zm1, nem⟩ := b2z Km
    obtain ⟨co0, zo0, co1, zo1, neo⟩ := b2z Ko
    obtain ⟨cr0, zr0, cr1, zr1, ner⟩ := b2z Kr
    obtain ⟨cc0, zc0, cc1, zc1, nec⟩ := b2z Kc
    obtain ⟨cx0, zx0, cx1, zx1, nex⟩ := b2z Kx
    refine hK.out _ _ ⟨blk_cell Kx 0, blk_cell Kx 1⟩ (fun hHeld => ?_)
    clear hK K
    refine wpAnyH_done (by kernel_rfl) (NoPanic.normal ?_) _
    go_upto_region 6 with fail
    refine wp_region_noPanic ?_
    refine wp_region_held_drew (S := (fun w' => w'.cell? ⟨(w.heap.size), 0, none⟩ = some (.int .u8 (setF f 1 ⟨trI (decide (255 < IntKind.u64.wrap (IntKind.u64.wrap (IntKind.u64.wrap a.v + IntKind.u64.wrap m.v) + IntKind.u64.wrap (getF f 1).v))), anyB [⟨IntKind.u64.wrap (IntKind.u64.wrap (IntKind.u64.wrap a.v + IntKind.u64.wrap m.v) + IntKind.u64.wrap (getF f 1).v) % 256, anyB [a, m, getF f 1]⟩]⟩).p) ∧ w'.cell? ⟨(w.heap.size), 1, none⟩ = some (.int .u8 (setF f 1 ⟨trI (decide (255 < IntKind.u64.wrap (IntKind.u64.wrap (IntKind.u64.wrap a.v + IntKind.u64.wrap m.v) + IntKind.u64.wrap (getF f 1).v))), anyB [⟨IntKind.u64.wrap (IntKind.u64.wrap (IntKind.u64.wrap a.v + IntKind.u64.wrap m.v) + IntKind.u64.wrap (getF f 1).v) % 256, anyB [a, m, getF f 1]⟩]⟩).s) ∧ w'.cell? ⟨w4.heap.size, 0, none⟩ = some (.int .u8 (IntKind.u64.wrap (IntKind.u64.wrap (IntKind.u64.wrap a.v + IntKind.u64.wrap m.v) + IntKind.u64.wrap (getF f 1).v) % 256)) ∧ w'.cell? ⟨w4.heap.size, 1, none⟩ = some (.bool (anyB [a, m, getF f 1])))) (by kernel_rfl) ⟨blk_cell Kf 0, blk_cell Kf 1, blk_cell Kx 0, blk_cell Kx 1⟩ (fun hHeld => ?_)
    refine tk 0 (v := ?_) rfl ?_ ?_; rotate_left; (focus (intro w hSw; (try dsimp only at hSw); go_simp; with_reducible rfl)); simp only [Act.put, tA, tB, tC]
    refine tk 1 (v := ?_) rfl ?_ ?_; rotate_left; (focus (intro w hSw; (try dsimp only at hSw); go_simp; with_reducible rfl)); simp only [Act.put, tA, tB, tC]
    refine tk 2 (v := ?_) rfl ?_ ?_; rotate_left; (focus (intro w hSw; (try dsimp only at hSw); go_simp; with_reducible rfl)); simp only [Act.put, tA, tB, tC]
    refine tk 3 (v := ?_) rfl ?_ ?_; rotate_left; (focus (intro w hSw; (try dsimp only at hSw); go_simp; with_reducible rfl)); simp only [Act.put, tA, tB, tC]
    refine tk 4 (v := ?_) rfl ?_ ?_; rotate_left; (focus (intro w hSw; (try dsimp only at hSw); go_simp; with_reducible rfl)); simp only [Act.put, tA, tB, tC]
    refine tk 8 (v := ?_) rfl ?_ ?_; rotate_left; (focus (intro w hSw; (try dsimp only at hSw); go_simp; with_reducible rfl)); simp only [Act.put, tA, tB, tC]
    refine wpAnyH_ready (rs := [5]) (by kernel_rfl) (by simp) ?_
    refine AllReadyH.cons (o := ⟨_, _, _, _, _, _⟩) rfl (fun K hK => ?_) (AllReadyH.nil)
    go_simp
    obtain ⟨w10, hw10⟩ : ∃ ww, ww = (w9.alloc (.cells #[.int .u8 (⟨IntKind.u64.wrap (IntKind.u64.wrap (IntKind.u64.wrap a.v + IntKind.u64.wrap m.v) + IntKind.u64.wrap (getF f 1).v) % 256, anyB [a, m, getF f 1]⟩ : By).v, .bool (⟨IntKind.u64.wrap (IntKind.u64.wrap (IntKind.u64.wrap a.v + IntKind.u64.wrap m.v) + IntKind.u64.wrap (getF f 1).v) % 256, anyB [a, m, getF f 1]⟩ : By).s] 25)).drew := ⟨_, rfl⟩
    rw [← hw10]
    have b10 : Below w9.heap.size w9 w10 := by rw [hw10]; (repeat first | exact .refl _ _ | exact (Below.refl _ _).drew | refine .drew ?_ | refine .alloc ?_ (by simp <;> omega) _)
    have Rj : ByAt w10 (some ⟨w9.heap.size, 0, none⟩) [(⟨IntKind.u64.wrap (IntKind.u64.wrap (IntKind.u64.wrap a.v + IntKind.u64.wrap m.v) + IntKind.u64.wrap (getF f 1).v) % 256, anyB [a, m, getF f 1]⟩ : By)] := by rw [hw10]; exact (byAt1 _ _ (⟨IntKind.u64.wrap (IntKind.u64.wrap (IntKind.u64.wrap a.v + IntKind.u64.wrap m.v) + IntKind.u64.wrap (getF f 1).v) % 256, anyB [a, m, getF f 1]⟩ : By)).below (Below.refl _ _).drew
    clear hw10
    clear cf0 cf1 zf0 zf1 ca0 ca1 za0 za1 cm0 cm1 zm0 zm1 co0 co1 zo0 zo1 cr0 cr1 zr0 zr1 cc0 cc1 zc0 zc1 cx0 cx1 zx0 zx1 nef nea nem neo ner nec nex
    replace Kf := kp b10 Kf
    replace Ka := kp b10 Ka
    replace Km := kp b10 Km
    replace Ko := kp b10 Ko
    replace Kr := kp b10 Kr
    replace Kc := kp b10 Kc
    replace Kx := kp b10 Kx
    replace bl := bl.trans (b10.mono bl.size)
    clear b10
    obtain ⟨cf0, zf0, cf1, zf1, nef⟩ := b2z Kf
    obtain ⟨ca0, za0, ca1, za1, nea⟩ := b2z Ka
    obtain ⟨cm0, zm0, cm1, zm1, nem⟩ := b2z Km
    obtain ⟨co0, zo0, co1, zo1, neo⟩ := b2z Ko
    obtain ⟨cr0, zr0, cr1, zr1, ner⟩ := b2z Kr
    obtain ⟨cc0, zc0, cc1, zc1, nec⟩ := b2z Kc
    obtain ⟨cx0, zx0, cx1, zx1, nex⟩ := b2z Kx
    refine hK.out _ _ ⟨blk_cell Kf 0, blk_cell Kf 1, blk_cell Kx 0, blk_cell Kx 1⟩ (fun hHeld => ?_)
    clear hK K
    refine wpAnyH_ready (rs := [6]) (by kernel_rfl) (by simp) ?_
    refine AllReadyH.cons (o := ⟨_, _, _, _, _, _⟩) rfl (fun K hK => ?_) (AllReadyH.nil)
    go_simp
    refine (truth_any _ [⟨IntKind.u64.wrap (IntKind.u64.wrap (IntKind.u64.wrap a.v + IntKind.u64.wrap m.v) + IntKind.u64.wrap (getF f 1).v) % 256, anyB [a, m, getF f 1]⟩] _ 1 _ rfl (by omega) Rj).mono ?_
    rintro e w11 ⟨rfl, b11⟩
    clear cf0 cf1 zf0 zf1 ca0 ca1 za0 za1 cm0 cm1 zm0 zm1 co0 co1 zo0 zo1 cr0 cr1 zr0 zr1 cc0 cc1 zc0 zc1 cx0 cx1 zx0 zx1 nef nea nem neo ner nec nex
    replace Kf := kp b11 Kf
    replace Ka := kp b11 Ka
    replace Km := kp b11 Km
    replace Ko := kp b11 Ko
    replace Kr := kp b11 Kr
    replace Kc := kp b11 Kc
    replace Kx := kp b11 Kx
    replace Rj := Rj.below b11
    replace bl := bl.trans (b11.mono bl.size)
    clear b11
    obtain ⟨cf0, zf0, cf1, zf1, nef⟩ := b2z Kf
    obtain ⟨ca0, za0, ca1, za1, nea⟩ := b2z Ka
    obtain ⟨cm0, zm0, cm1, zm1, nem⟩ := b2z Km
    obtain ⟨co0, zo0, co1, zo1, neo⟩ := b2z Ko
    obtain ⟨cr0, zr0, cr1, zr1, ner⟩ := b2z Kr
    obtain ⟨cc0, zc0, cc1, zc1, nec⟩ := b2z Kc
    obtain ⟨cx0, zx0, cx1, zx1, nex⟩ := b2z Kx
    refine hK.out _ _ ⟨blk_cell Kf 0, blk_cell Kf 1, blk_cell Kx 0, blk_cell Kx 1⟩ (fun hHeld => ?_)
    clear hK K
    refine wpAnyH_ready (rs := [7]) (by kernel_rfl) (by simp) ?_
    refine AllReadyH.cons (o := ⟨_, _, _, _, _, _⟩) rfl (fun K hK => ?_) (AllReadyH.nil)
    go_simp
    refine (set_any (setF f 1 ⟨trI (decide (255 < IntKind.u64.wrap (IntKind.u64.wrap (IntKind.u64.wrap a.v + IntKind.u64.wrap m.v) + IntKind.u64.wrap (getF f 1).v))), anyB [⟨IntKind.u64.wrap (IntKind.u64.wrap (IntKind.u64.wrap a.v + IntKind.u64.wrap m.v) + IntKind.u64.wrap (getF f 1).v) % 256, anyB [a, m, getF f 1]⟩]⟩) 64 ⟨trI (decide (0 < bits BinOp.and IntKind.u8 (bits BinOp.and IntKind.u8 (bits BinOp.xor IntKind.u8 (if IntKind.u8.signed = true then -1 else IntKind.u8.max) (bits BinOp.xor IntKind.u8 a.v m.v)) (bits BinOp.xor IntKind.u8 a.v (IntKind.u64.wrap (IntKind.u64.wrap (IntKind.u64.wrap a.v + IntKind.u64.wrap m.v) + IntKind.u64.wrap (getF f 1).v) % 256))) 128)), anyB [⟨IntKind.u64.wrap (IntKind.u64.wrap (IntKind.u64.wrap a.v + IntKind.u64.wrap m.v) + IntKind.u64.wrap (getF f 1).v) % 256, anyB [a, m, getF f 1]⟩]⟩ _).mono ?_
    rintro e w12 ⟨rfl, b12⟩
    clear cf0 cf1 zf0 zf1 ca0 ca1 za0 za1 cm0 cm1 zm0 zm1 co0 co1 zo0 zo1 cr0 cr1 zr0 zr1 cc0 cc1 zc0 zc1 cx0 cx1 zx0 zx1 nef nea nem neo ner nec nex
    replace Kf := kp b12 Kf
    replace Ka := kp b12 Ka
    replace Km := kp b12 Km
    replace Ko := kp b12 Ko
    replace Kr := kp b12 Kr
    replace Kc := kp b12 Kc
    replace Kx := kp b12 Kx
    replace Rj := Rj.below b12
    replace bl := bl.trans (b12.mono bl.size)
    clear b12
    obtain ⟨cf0, zf0, cf1, zf1, nef⟩ := b2z Kf
    obtain ⟨ca0, za0, ca1, za1, nea⟩ := b2z Ka
    obtain ⟨cm0, zm0, cm1, zm1, nem⟩ := b2z Km
    obtain ⟨co0, zo0, co1, zo1, neo⟩ := b2z Ko
    obtain ⟨cr0, zr0, cr1, zr1, ner⟩ := b2z Kr
    obtain ⟨cc0, zc0, cc1, zc1, nec⟩ := b2z Kc
    obtain ⟨cx0, zx0, cx1, zx1, nex⟩ := b2z Kx
    refine hK.out _ _ ⟨blk_cell Kf 0, blk_cell Kf 1, blk_cell Kx 0, blk_cell Kx 1⟩ (fun hHeld => ?_)
    clear hK K
    refine wpAnyH_ready (rs := [9]) (by kernel_rfl) (by simp) ?_
    refine AllReadyH.cons (o := ⟨_, _, _, _, _, _⟩) rfl (fun K hK => ?_) (AllReadyH.nil)
    go_simp
    refine (nz_any (setF (setF f 1 ⟨trI (decide (255 < IntKind.u64.wrap (IntKind.u64.wrap (IntKind.u64.wrap a.v + IntKind.u64.wrap m.v) + IntKind.u64.wrap (getF f 1).v))), anyB [⟨IntKind.u64.wrap (IntKind.u64.wrap (IntKind.u64.wrap a.v + IntKind.u64.wrap m.v) + IntKind.u64.wrap (getF f 1).v) % 256, anyB [a, m, getF f 1]⟩]⟩) 64 ⟨trI (decide (0 < bits BinOp.and IntKind.u8 (bits BinOp.and IntKind.u8 (bits BinOp.xor IntKind.u8 (if IntKind.u8.signed = true then -1 else IntKind.u8.max) (bits BinOp.xor IntKind.u8 a.v m.v)) (bits BinOp.xor IntKind.u8 a.v (IntKind.u64.wrap (IntKind.u64.wrap (IntKind.u64.wrap a.v + IntKind.u64.wrap m.v) + IntKind.u64.wrap (getF f 1).v) % 256))) 128)), anyB [⟨IntKind.u64.wrap (IntKind.u64.wrap (IntKind.u64.wrap a.v + IntKind.u64.wrap m.v) + IntKind.u64.wrap (getF f 1).v) % 256, anyB [a, m, getF f 1]⟩]⟩) ⟨IntKind.u64.wrap (IntKind.u64.wrap (IntKind.u64.wrap a.v + IntKind.u64.wrap m.v) + IntKind.u64.wrap (getF f 1).v) % 256, anyB [a, m, getF f 1]⟩ _).mono ?_
    rintro e w13 ⟨rfl, b13⟩
    clear cf0 cf1 zf0 zf1 ca0 ca1 za0 za1 cm0 cm1 zm0 zm1 co0 co1 zo0 zo1 cr0 cr1 zr0 zr1 cc0 cc1 zc0 zc1 cx0 cx1 zx0 zx1 nef nea nem neo ner nec nex
    replace Kf := kp b13 Kf
    replace Ka := kp b13 Ka
    replace Km := kp b13 Km
    replace Ko := kp b13 Ko
    replace Kr := kp b13 Kr
    replace Kc := kp b13 Kc
    replace Kx := kp b13 Kx
    replace Rj := Rj.below b13
    replace bl := bl.trans (b13.mono bl.size)
    clear b13
    obtain ⟨cf0, zf0, cf1, zf1, nef⟩ := b2z Kf
    obtain ⟨ca0, za0, ca1, za1, nea⟩ := b2z Ka
    obtain ⟨cm0, zm0, cm1, zm1, nem⟩ := b2z Km
    obtain ⟨co0, zo0, co1, zo1, neo⟩ := b2z Ko
    obtain ⟨cr0, zr0, cr1, zr1, ner⟩ := b2z Kr
    obtain ⟨cc0, zc0, cc1, zc1, nec⟩ := b2z Kc
    obtain ⟨cx0, zx0, cx1, zx1, nex⟩ := b2z Kx
    refine hK.out _ _ ⟨blk_cell Kf 0, blk_cell Kf 1, blk_cell Kx 0, blk_cell Kx 1⟩ (fun hHeld => ?_)
    clear hK K
    refine wpAnyH_ready (rs := [10]) (by kernel_rfl) (by simp) ?_
    refine AllReadyH.cons (o := ⟨_, _, _, _, _, _⟩) rfl (fun K hK => ?_) (AllReadyH.nil)
    go_simp
    clear cf0 cf1 zf0 zf1 ca0 ca1 za0 za1 cm0 cm1 zm0 zm1 co0 co1 zo0 zo1 cr0 cr1 zr0 zr1 cc0 cc1 zc0 zc1 cx0 cx1 zx0 zx1 nef nea nem neo ner nec nex
    clear Rj
    obtain ⟨w14, hw14⟩ : ∃ ww, ww = ((w13.setCell ⟨(w.heap.size + 1 + 1 + 1), 0, none⟩ (.int .u8 (IntKind.u64.wrap (IntKind.u64.wrap (IntKind.u64.wrap a.v + IntKind.u64.wrap m.v) + IntKind.u64.wrap (getF f 1).v) % 256))).setCell ⟨(w.heap.size + 1 + 1 + 1), 1, none⟩ (.bool (anyB [a, m, getF f 1]))) := ⟨_, rfl⟩
    rw [← hw14]
    have nnf : (w.heap.size + 1 + 1 + 1) ≠ (w.heap.size) := by first | omega | (have := blk_lt Kf; have := blk_lt Ko; have := bl.size; omega)
    replace Kf : B2 w14 (w.heap.size) (.int .u8 (setF f 1 ⟨trI (decide (255 < IntKind.u64.wrap (IntKind.u64.wrap (IntKind.u64.wrap a.v + IntKind.u64.wrap m.v) + IntKind.u64.wrap (getF f 1).v))), anyB [⟨IntKind.u64.wrap (IntKind.u64.wrap (IntKind.u64.wrap a.v + IntKind.u64.wrap m.v) + IntKind.u64.wrap (getF f 1).v) % 256, anyB [a, m, getF f 1]⟩]⟩).p) (.int .u8 (setF f 1 ⟨trI (decide (255 < IntKind.u64.wrap (IntKind.u64.wrap (IntKind.u64.wrap a.v + IntKind.u64.wrap m.v) + IntKind.u64.wrap (getF f 1).v))), anyB [⟨IntKind.u64.wrap (IntKind.u64.wrap (IntKind.u64.wrap a.v + IntKind.u64.wrap m.v) + IntKind.u64.wrap (getF f 1).v) % 256, anyB [a, m, getF f 1]⟩]⟩).s) 23 := by rw [hw14]; exact ((oth2 nnf _ _).trans Kf)
    clear nnf
    have nna : (w.heap.size + 1 + 1 + 1) ≠ (w.heap.size + 1) := by first | omega | (have := blk_lt Ka; have := blk_lt Ko; have := bl.size; omega)
    replace Ka : B2 w14 (w.heap.size + 1) (.int .u8 a.v) (.bool a.s) 25 := by rw [hw14]; exact ((oth2 nna _ _).trans Ka)
    clear nna
    have nnm : (w.heap.size + 1 + 1 + 1) ≠ (w.heap.size + 1 + 1) := by first | omega | (have := blk_lt Km; have := blk_lt Ko; have := bl.size; omega)
    replace Km : B2 w14 (w.heap.size + 1 + 1) (.int .u8 m.v) (.bool m.s) 25 := by rw [hw14]; exact ((oth2 nnm _ _).trans Km)
    clear nnm
    have nnr : (w.heap.size + 1 + 1 + 1) ≠ (w.heap.size + 1 + 1 + 1 + 1) := by first | omega | (have := blk_lt Kr; have := blk_lt Ko; have := bl.size; omega)
    replace Kr : B2 w14 (w.heap.size + 1 + 1 + 1 + 1) (.int .u8 0) (.int .u8 0) 23 := by rw [hw14]; exact ((oth2 nnr _ _).trans Kr)
    clear nnr
    have nnc : (w.heap.size + 1 + 1 + 1) ≠ w1.heap.size := by first | omega | (have := blk_lt Kc; have := blk_lt Ko; have := bl.size; omega)
    replace Kc : B2 w14 w1.heap.size (.int .u8 (getF f 1).v) (.bool (getF f 1).s) 25 := by rw [hw14]; exact ((oth2 nnc _ _).trans Kc)
    clear nnc
    have nnx : (w.heap.size + 1 + 1 + 1) ≠ w4.heap.size := by first | omega | (have := blk_lt Kx; have := blk_lt Ko; have := bl.size; omega)
    replace Kx : B2 w14 w4.heap.size (.int .u8 (IntKind.u64.wrap (IntKind.u64.wrap (IntKind.u64.wrap a.v + IntKind.u64.wrap m.v) + IntKind.u64.wrap (getF f 1).v) % 256)) (.bool (anyB [a, m, getF f 1])) 25 := by rw [hw14]; exact ((oth2 nnx _ _).trans Kx)
    clear nnx
    replace Ko : B2 w14 (w.heap.size + 1 + 1 + 1) (.int .u8 (IntKind.u64.wrap (IntKind.u64.wrap (IntKind.u64.wrap a.v + IntKind.u64.wrap m.v) + IntKind.u64.wrap (getF f 1).v) % 256)) (.bool (anyB [a, m, getF f 1])) 25 := by rw [hw14]; exact (set2 Ko _ _)
    replace bl : Below w.heap.size w w14 := by rw [hw14]; exact bs2 bl (by first | exact Nat.le_refl _ | omega | (have := bl.size; omega)) _ _
    clear hw14
    obtain ⟨cf0, zf0, cf1, zf1, nef⟩ := b2z Kf
    obtain ⟨ca0, za0, ca1, za1, nea⟩ := b2z Ka
    obtain ⟨cm0, zm0, cm1, zm1, nem⟩ := b2z Km
    obtain ⟨co0, zo0, co1, zo1, neo⟩ := b2z Ko
    obtain ⟨cr0, zr0, cr1, zr1, ner⟩ := b2z Kr
    obtain ⟨cc0, zc0, cc1, zc1, nec⟩ := b2z Kc
    obtain ⟨cx0, zx0, cx1, zx1, nex⟩ := b2z Kx
    refine hK.out _ _ ⟨blk_cell Kf 0, blk_cell Kf 1, blk_cell Kx 0, blk_cell Kx 1⟩ (fun hHeld => ?_)
    clear hK K
    refine wpAnyH_ready (rs := [11]) (by kernel_rfl) (by simp) ?_
    refine AllReadyH.cons (o := ⟨_, _, _, _, _, _⟩) rfl (fun K hK => ?_) (AllReadyH.nil)
    go_simp
    clear cf0 cf1 zf0 zf1 ca0 ca1 za0 za1 cm0 cm1 zm0 zm1 co0 co1 zo0 zo1 cr0 cr1 zr0 zr1 cc0 cc1 zc0 zc1 cx0 cx1 zx0 zx1 nef nea nem neo ner nec nex
    obtain ⟨w15, hw15⟩ : ∃ ww, ww = ((w14.setCell ⟨(w.heap.size + 1 + 1 + 1 + 1), 0, none⟩ (.int .u8 (nzF (setF (setF f 1 ⟨trI (decide (255 < IntKind.u64.wrap (IntKind.u64.wrap (IntKind.u64.wrap a.v + IntKind.u64.wrap m.v) + IntKind.u64.wrap (getF f 1).v))), anyB [⟨IntKind.u64.wrap (IntKind.u64.wrap (IntKind.u64.wrap a.v + IntKind.u64.wrap m.v) + IntKind.u64.wrap (getF f 1).v) % 256, anyB [a, m, getF f 1]⟩]⟩) 64 ⟨trI (decide (0 < bits BinOp.and IntKind.u8 (bits BinOp.and IntKind.u8 (bits BinOp.xor IntKind.u8 (if IntKind.u8.signed = true then -1 else IntKind.u8.max) (bits BinOp.xor IntKind.u8 a.v m.v)) (bits BinOp.xor IntKind.u8 a.v (IntKind.u64.wrap (IntKind.u64.wrap (IntKind.u64.wrap a.v + IntKind.u64.wrap m.v) + IntKind.u64.wrap (getF f 1).v) % 256))) 128)), anyB [⟨IntKind.u64.wrap (IntKind.u64.wrap (IntKind.u64.wrap a.v + IntKind.u64.wrap m.v) + IntKind.u64.wrap (getF f 1).v) % 256, anyB [a, m, getF f 1]⟩]⟩) ⟨IntKind.u64.wrap (IntKind.u64.wrap (IntKind.u64.wrap a.v + IntKind.u64.wrap m.v) + IntKind.u64.wrap (getF f 1).v) % 256, anyB [a, m, getF f 1]⟩).p)).setCell ⟨(w.heap.size + 1 + 1 + 1 + 1), 1, none⟩ (.int .u8 (nzF (setF (setF f 1 ⟨trI (decide (255 < IntKind.u64.wrap (IntKind.u64.wrap (IntKind.u64.wrap a.v + IntKind.u64.wrap m.v) + IntKind.u64.wrap (getF f 1).v))), anyB [⟨IntKind.u64.wrap (IntKind.u64.wrap (IntKind.u64.wrap a.v + IntKind.u64.wrap m.v) + IntKind.u64.wrap (getF f 1).v) % 256, anyB [a, m, getF f 1]⟩]⟩) 64 ⟨trI (decide (0 < bits BinOp.and IntKind.u8 (bits BinOp.and IntKind.u8 (bits BinOp.xor IntKind.u8 (if IntKind.u8.signed = true then -1 else IntKind.u8.max) (bits BinOp.xor IntKind.u8 a.v m.v)) (bits BinOp.xor IntKind.u8 a.v (IntKind.u64.wrap (IntKind.u64.wrap (IntKind.u64.wrap a.v + IntKind.u64.wrap m.v) + IntKind.u64.wrap (getF f 1).v) % 256))) 128)), anyB [⟨IntKind.u64.wrap (IntKind.u64.wrap (IntKind.u64.wrap a.v + IntKind.u64.wrap m.v) + IntKind.u64.wrap (getF f 1).v) % 256, anyB [a, m, getF f 1]⟩]⟩) ⟨IntKind.u64.wrap (IntKind.u64.wrap (IntKind.u64.wrap a.v + IntKind.u64.wrap m.v) + IntKind.u64.wrap (getF f 1).v) % 256, anyB [a, m, getF f 1]⟩).s)) := ⟨_, rfl⟩
    rw [← hw15]
    have nnf : (w.heap.size + 1 + 1 + 1 + 1) ≠ (w.heap.size) := by first | omega | (have := blk_lt Kf; have := blk_lt Kr; have := bl.size; omega)
    replace Kf : B2 w15 (w.heap.size) (.int .u8 (setF f 1 ⟨trI (decide (255 < IntKind.u64.wrap (IntKind.u64.wrap (IntKind.u64.wrap a.v + IntKind.u64.wrap m.v) + IntKind.u64.wrap (getF f 1).v))), anyB [⟨IntKind.u64.wrap (IntKind.u64.wrap (IntKind.u64.wrap a.v + IntKind.u64.wrap m.v) + IntKind.u64.wrap (getF f 1).v) % 256, anyB [a, m, getF f 1]⟩]⟩).p) (.int .u8 (setF f 1 ⟨trI (decide (255 < IntKind.u64.wrap (IntKind.u64.wrap (IntKind.u64.wrap a.v + IntKind.u64.wrap m.v) + IntKind.u64.wrap (getF f 1).v))), anyB [⟨IntKind.u64.wrap (IntKind.u64.wrap (IntKind.u64.wrap a.v + IntKind.u64.wrap m.v) + IntKind.u64.wrap (getF f 1).v) % 256, anyB [a, m, getF f 1]⟩]⟩).s) 23 := by rw [hw15]; exact ((oth2 nnf _ _).trans Kf)
    clear nnf
    have nna : (w.heap.size + 1 + 1 + 1 + 1) ≠ (w.heap.size + 1) := by first | omega | (have := blk_lt Ka; have := blk_lt Kr; have := bl.size; omega)
    replace Ka : B2 w15 (w.heap.size + 1) (.int .u8 a.v) (.bool a.s) 25 := by rw [hw15]; exact ((oth2 nna _ _).trans Ka)
    clear nna
    have nnm : (w.heap.size + 1 + 1 + 1 + 1) ≠ (w.heap.size + 1 + 1) := by first | omega | (have := blk_lt Km; have := blk_lt Kr; have := bl.size; omega)
    replace Km : B2 w15 (w.heap.size + 1 + 1) (.int .u8 m.v) (.bool m.s) 25 := by rw [hw15]; exact ((oth2 nnm _ _).trans Km)
    clear nnm
    have nno : (w.heap.size + 1 + 1 + 1 + 1) ≠ (w.heap.size + 1 + 1 + 1) := by first | omega | (have := blk_lt Ko; have := blk_lt Kr; have := bl.size; omega)
    replace Ko : B2 w15 (w.heap.size + 1 + 1 + 1) (.int .u8 (IntKind.u64.wrap (IntKind.u64.wrap (IntKind.u64.wrap a.v + IntKind.u64.wrap m.v) + IntKind.u64.wrap (getF f 1).v) % 256)) (.bool (anyB [a, m, getF f 1])) 25 := by rw [hw15]; exact ((oth2 nno _ _).trans Ko)
    clear nno
    have nnc : (w.heap.size + 1 + 1 + 1 + 1) ≠ w1.heap.size := by first | omega | (have := blk_lt Kc; have := blk_lt Kr; have := bl.size; omega)
    replace Kc : B2 w15 w1.heap.size (.int .u8 (getF f 1).v) (.bool (getF f 1).s) 25 := by rw [hw15]; exact ((oth2 nnc _ _).trans Kc)
    clear nnc
    have nnx : (w.heap.size + 1 + 1 + 1 + 1) ≠ w4.heap.size := by first | omega | (have := blk_lt Kx; have := blk_lt Kr; have := bl.size; omega)
    replace Kx : B2 w15 w4.heap.size (.int .u8 (IntKind.u64.wrap (IntKind.u64.wrap (IntKind.u64.wrap a.v + IntKind.u64.wrap m.v) + IntKind.u64.wrap (getF f 1).v) % 256)) (.bool (anyB [a, m, getF f 1])) 25 := by rw [hw15]; exact ((oth2 nnx _ _).trans Kx)
    clear nnx
    replace Kr : B2 w15 (w.heap.size + 1 + 1 + 1 + 1) (.int .u8 (nzF (setF (setF f 1 ⟨trI (decide (255 < IntKind.u64.wrap (IntKind.u64.wrap (IntKind.u64.wrap a.v + IntKind.u64.wrap m.v) + IntKind.u64.wrap (getF f 1).v))), anyB [⟨IntKind.u64.wrap (IntKind.u64.wrap (IntKind.u64.wrap a.v + IntKind.u64.wrap m.v) + IntKind.u64.wrap (getF f 1).v) % 256, anyB [a, m, getF f 1]⟩]⟩) 64 ⟨trI (decide (0 < bits BinOp.and IntKind.u8 (bits BinOp.and IntKind.u8 (bits BinOp.xor IntKind.u8 (if IntKind.u8.signed = true then -1 else IntKind.u8.max) (bits BinOp.xor IntKind.u8 a.v m.v)) (bits BinOp.xor IntKind.u8 a.v (IntKind.u64.wrap (IntKind.u64.wrap (IntKind.u64.wrap a.v + IntKind.u64.wrap m.v) + IntKind.u64.wrap (getF f 1).v) % 256))) 128)), anyB [⟨IntKind.u64.wrap (IntKind.u64.wrap (IntKind.u64.wrap a.v + IntKind.u64.wrap m.v) + IntKind.u64.wrap (getF f 1).v) % 256, anyB [a, m, getF f 1]⟩]⟩) ⟨IntKind.u64.wrap (IntKind.u64.wrap (IntKind.u64.wrap a.v + IntKind.u64.wrap m.v) + IntKind.u64.wrap (getF f 1).v) % 256, anyB [a, m, getF f 1]⟩).p) (.int .u8 (nzF (setF (setF f 1 ⟨trI (decide (255 < IntKind.u64.wrap (IntKind.u64.wrap (IntKind.u64.wrap a.v + IntKind.u64.wrap m.v) + IntKind.u64.wrap (getF f 1).v))), anyB [⟨IntKind.u64.wrap (IntKind.u64.wrap (IntKind.u64.wrap a.v + IntKind.u64.wrap m.v) + IntKind.u64.wrap (getF f 1).v) % 256, anyB [a, m, getF f 1]⟩]⟩) 64 ⟨trI (decide (0 < bits BinOp.and IntKind.u8 (bits BinOp.and IntKind.u8 (bits BinOp.xor IntKind.u8 (if IntKind.u8.signed = true then -1 else IntKind.u8.max) (bits BinOp.xor IntKind.u8 a.v m.v)) (bits BinOp.xor IntKind.u8 a.v (IntKind.u64.wrap (IntKind.u64.wrap (IntKind.u64.wrap a.v + IntKind.u64.wrap m.v) + IntKind.u64.wrap (getF f 1).v) % 256))) 128)), anyB [⟨IntKind.u64.wrap (IntKind.u64.wrap (IntKind.u64.wrap a.v + IntKind.u64.wrap m.v) + IntKind.u64.wrap (getF f 1).v) % 256, anyB [a, m, getF f 1]⟩]⟩) ⟨IntKind.u64.wrap (IntKind.u64.wrap (IntKind.u64.wrap a.v + IntKind.u64.wrap m.v) + IntKind.u64.wrap (getF f 1).v) % 256, anyB [a, m, getF f 1]⟩).s) 23 := by rw [hw15]; exact (set2 Kr _ _)
    replace bl : Below w.heap.size w w15 := by rw [hw15]; exact bs2 bl (by first | exact Nat.le_refl _ | omega | (have := bl.size; omega)) _ _
    clear hw15
    obtain ⟨cf0, zf0, cf1, zf1, nef⟩ := b2z Kf
    obtain ⟨ca0, za0, ca1, za1, nea⟩ := b2z Ka
    obtain ⟨cm0, zm0, cm1, zm1, nem⟩ := b2z Km
    obtain ⟨co0, zo0, co1, zo1, neo⟩ := b2z Ko
    obtain ⟨cr0, zr0, cr1, zr1, ner⟩ := b2z Kr
    obtain ⟨cc0, zc0, cc1, zc1, nec⟩ := b2z Kc
    obtain ⟨cx0, zx0, cx1, zx1, nex⟩ := b2z Kx
    refine hK.out _ _ ⟨blk_cell Kf 0, blk_cell Kf 1, blk_cell Kx 0, blk_cell Kx 1⟩ (fun hHeld => ?_)
    clear hK K
    refine wpAnyH_done (by kernel_rfl) (NoPanic.normal ?_) _
    go_wp2_with fail
    exact bodyPost_ret (v := .tuple #[By.V ⟨IntKind.u64.wrap (IntKind.u64.wrap (IntKind.u64.wrap a.v + IntKind.u64.wrap m.v) + IntKind.u64.wrap (getF f 1).v) % 256, anyB [a, m, getF f 1]⟩, (nzF (setF (setF f 1 ⟨trI (decide (255 < IntKind.u64.wrap (IntKind.u64.wrap (IntKind.u64.wrap a.v + IntKind.u64.wrap m.v) + IntKind.u64.wrap (getF f 1).v))), anyB [⟨IntKind.u64.wrap (IntKind.u64.wrap (IntKind.u64.wrap a.v + IntKind.u64.wrap m.v) + IntKind.u64.wrap (getF f 1).v) % 256, anyB [a, m, getF f 1]⟩]⟩) 64 ⟨trI (decide (0 < bits BinOp.and IntKind.u8 (bits BinOp.and IntKind.u8 (bits BinOp.xor IntKind.u8 (if IntKind.u8.signed = true then -1 else IntKind.u8.max) (bits BinOp.xor IntKind.u8 a.v m.v)) (bits BinOp.xor IntKind.u8 a.v (IntKind.u64.wrap (IntKind.u64.wrap (IntKind.u64.wrap a.v + IntKind.u64.wrap m.v) + IntKind.u64.wrap (getF f 1).v) % 256))) 128)), anyB [⟨IntKind.u64.wrap (IntKind.u64.wrap (IntKind.u64.wrap a.v + IntKind.u64.wrap m.v) + IntKind.u64.wrap (getF f 1).v) % 256, anyB [a, m, getF f 1]⟩]⟩) ⟨IntKind.u64.wrap (IntKind.u64.wrap (IntKind.u64.wrap a.v + IntKind.u64.wrap m.v) + IntKind.u64.wrap (getF f 1).v) % 256, anyB [a, m, getF f 1]⟩).V]) (by simp [results, Try.results22, go_sem, co0, co1, cr0, cr1]) rfl ⟨rfl, bl⟩
  · go_simp
    obtain ⟨w6, hw6⟩ : ∃ ww, ww = (w5.alloc (.cells #[.int .u8 (⟨IntKind.u64.wrap (IntKind.u64.wrap (IntKind.u64.wrap a.v + IntKind.u64.wrap m.v) + IntKind.u64.wrap (getF f 1).v) % 256, anyB [a, m, getF f 1]⟩ : By).v, .bool (⟨IntKind.u64.wrap (IntKind.u64.wrap (IntKind.u64.wrap a.v + IntKind.u64.wrap m.v) + IntKind.u64.wrap (getF f 1).v) % 256, anyB [a, m, getF f 1]⟩ : By).s] 25)).drew := ⟨_, rfl⟩
    rw [← hw6]
    have b6 : Below w5.heap.size w5 w6 := by rw [hw6]; (repeat first | exact .refl _ _ | exact (Below.refl _ _).drew | refine .drew ?_ | refine .alloc ?_ (by simp <;> omega) _)
    have Rk : ByAt w6 (some ⟨w5.heap.size, 0, none⟩) [(⟨IntKind.u64.wrap (IntKind.u64.wrap (IntKind.u64.wrap a.v + IntKind.u64.wrap m.v) + IntKind.u64.wrap (getF f 1).v) % 256, anyB [a, m, getF f 1]⟩ : By)] := by rw [hw6]; exact (byAt1 _ _ (⟨IntKind.u64.wrap (IntKind.u64.wrap (IntKind.u64.wrap a.v + IntKind.u64.wrap m.v) + IntKind.u64.wrap (getF f 1).v) % 256, anyB [a, m, getF f 1]⟩ : By)).below (Below.refl _ _).drew
    clear hw6
    clear cf0 cf1 zf0 zf1 ca0 ca1 za0 za1 cm0 cm1 zm0 zm1 co0 co1 zo0 zo1 cr0 cr1 zr0 zr1 cc0 cc1 zc0 zc1 cx0 cx1 zx0 zx1 nef nea nem neo ner nec nex
    replace Kf := kp b6 Kf
    replace Ka := kp b6 Ka
    replace Km := kp b6 Km
    replace Ko := kp b6 Ko
    replace Kr := kp b6 Kr
    replace Kc := kp b6 Kc
    replace Kx := kp b6 Kx
    replace Rl := Rl.below b6
    replace bl := bl.trans (b6.mono bl.size)
    clear b6
    obtain ⟨cf0, zf0, cf1, zf1, nef⟩ := b2z Kf
    obtain ⟨ca0, za0, ca1, za1, nea⟩ := b2z Ka
    obtain ⟨cm0, zm0, cm1, zm1, nem⟩ := b2z Km
    obtain ⟨co0, zo0, co1, zo1, neo⟩ := b2z Ko
    obtain ⟨cr0, zr0, cr1, zr1, ner⟩ := b2z Kr
    obtain ⟨cc0, zc0, cc1, zc1, nec⟩ := b2z Kc
    obtain ⟨cx0, zx0, cx1, zx1, nex⟩ := b2z Kx
    refine hK.out _ _ ⟨blk_cell Kx 0, blk_cell Kx 1⟩ (fun hHeld => ?_)
    clear hK K
    refine wpAnyH_ready (rs := [0, 5]) (by kernel_rfl) (by simp) ?_
    refine AllReadyH.cons (o := ⟨_, _, _, _, _, _⟩) rfl (fun K hK => ?_) (AllReadyH.cons (o := ⟨_, _, _, _, _, _⟩) rfl (fun K hK => ?_) (AllReadyH.nil))
    · go_simp
      refine hK.out _ _ ⟨blk_cell Kx 0, blk_cell Kx 1⟩ (fun hHeld => ?_)
      clear hK K
      refine wpAnyH_ready (rs := [5]) (by kernel_rfl) (by simp) ?_
      refine AllReadyH.cons (o := ⟨_, _, _, _, _, _⟩) rfl (fun K hK => ?_) (AllReadyH.nil)
      go_simp
      refine (truth_any _ [⟨IntKind.u64.wrap (IntKind.u64.wrap (IntKind.u64.wrap a.v + IntKind.u64.wrap m.v) + IntKind.u64.wrap (getF f 1).v) % 256, anyB [a, m, getF f 1]⟩] _ 1 _ rfl (by omega) Rk).mono ?_
      rintro e w7 ⟨rfl, b7⟩
      clear cf0 cf1 zf0 zf1 ca0 ca1 za0 za1 cm0 cm1 zm0 zm1 co0 co1 zo0 zo1 cr0 cr1 zr0 zr1 cc0 cc1 zc0 zc1 cx0 cx1 zx0 zx1 nef nea nem neo ner nec nex
      replace Kf := kp b7 Kf
      replace Ka := kp b7 Ka
      replace Km := kp b7 Km
      replace Ko := kp b7 Ko
      replace Kr := kp b7 Kr
      replace Kc := kp b7 Kc
      replace Kx := kp b7 Kx
      replace Rl := Rl.below b7
      replace Rk := Rk.below b7
      replace bl := bl.trans (b7.mono bl.size)
      clear b7
      obtain ⟨cf0, zf0, cf1, zf1, nef⟩ := b2z Kf
      obtain ⟨ca0, za0, ca1, za1, nea⟩ := b2z Ka
      obtain ⟨cm0, zm0, cm1, zm1, nem⟩ := b2z Km
      obtain ⟨co0, zo0, co1, zo1, neo⟩ := b2z Ko
      obtain ⟨cr0, zr0, cr1, zr1, ner⟩ := b2z Kr
      obtain ⟨cc0, zc0, cc1, zc1, nec⟩ := b2z Kc
      obtain ⟨cx0, zx0, cx1, zx1, nex⟩ := b2z Kx
      refine hK.out _ _ ⟨blk_cell Kx 0, blk_cell Kx 1⟩ (fun hHeld => ?_)
      clear hK K
      refine wpAnyH_ready (rs := [6]) (by kernel_rfl) (by simp) ?_
      refine AllReadyH.cons (o := ⟨_, _, _, _, _, _⟩) rfl (fun K hK => ?_) (AllReadyH.nil)
      go_simp
      refine (set_any f 1 ⟨trI (decide (255 < IntKind.u64.wrap (IntKind.u64.wrap (IntKind.u64.wrap a.v + IntKind.u64.wrap m.v) + IntKind.u64.wrap (getF f 1).v))), anyB [⟨IntKind.u64.wrap (IntKind.u64.wrap (IntKind.u64.wrap a.v + IntKind.u64.wrap m.v) + IntKind.u64.wrap (getF f 1).v) % 256, anyB [a, m, getF f 1]⟩]⟩ _).mono ?_
      rintro e w8 ⟨rfl, b8⟩
      clear cf0 cf1 zf0 zf1 ca0 ca1 za0 za1 cm0 cm1 zm0 zm1 co0 co1 zo0 zo1 cr0 cr1 zr0 zr1 cc0 cc1 zc0 zc1 cx0 cx1 zx0 zx1 nef nea nem neo ner nec nex
      replace Kf := kp b8 Kf
      replace Ka := kp b8 Ka
      replace Km := kp b8 Km
      replace Ko := kp b8 Ko
      replace Kr := kp b8 Kr
      replace Kc := kp b8 Kc
      replace Kx := kp b8 Kx
      replace Rl := Rl.below b8
      replace Rk := Rk.below b8
      replace bl := bl.trans (b8.mono bl.size)
      clear b8
      obtain ⟨cf0, zf0, cf1, zf1, nef⟩ := b2z Kf
      obtain ⟨ca0, za0, ca1, za1, nea⟩ := b2z Ka
      obtain ⟨cm0, zm0, cm1, zm1, nem⟩ := b2z Km
      obtain ⟨co0, zo0, co1, zo1, neo⟩ := b2z Ko
      obtain ⟨cr0, zr0, cr1, zr1, ner⟩ := b2z Kr
      obtain ⟨cc0, zc0, cc1, zc1, nec⟩ := b2z Kc
      obtain ⟨cx0, zx0, cx1, zx1, nex⟩ := b2z Kx
      refine hK.out _ _ ⟨blk_cell Kx 0, blk_cell Kx 1⟩ (fun hHeld => ?_)
      clear hK K
      refine wpAnyH_ready (rs := [7]) (by kernel_rfl) (by simp) ?_
      refine AllReadyH.cons (o := ⟨_, _, _, _, _, _⟩) rfl (fun K hK => ?_) (AllReadyH.nil)
      go_simp
      clear cf0 cf1 zf0 zf1 ca0 ca1 za0 za1 cm0 cm1 zm0 zm1 co0 co1 zo0 zo1 cr0 cr1 zr0 zr1 cc0 cc1 zc0 zc1 cx0 cx1 zx0 zx1 nef nea nem neo ner nec nex
      clear Rl
      clear Rk
      obtain ⟨w9, hw9⟩ : ∃ ww, ww = ((w8.setCell ⟨(w.heap.size), 0, none⟩ (.int .u8 (setF f 1 ⟨trI (decide (255 < IntKind.u64.wrap (IntKind.u64.wrap (IntKind.u64.wrap a.v + IntKind.u64.wrap m.v) + IntKind.u64.wrap (getF f 1).v))), anyB [⟨IntKind.u64.wrap (IntKind.u64.wrap (IntKind.u64.wrap a.v + IntKind.u64.wrap m.v) + IntKind.u64.wrap (getF f 1).v) % 256, anyB [a, m, getF f 1]⟩]⟩).p)).setCell ⟨(w.heap.size), 1, none⟩ (.int .u8 (setF f 1 ⟨trI (decide (255 < IntKind.u64.wrap (IntKind.u64.wrap (IntKind.u64.wrap a.v + IntKind.u64.wrap m.v) + IntKind.u64.wrap (getF f 1).v))), anyB [⟨IntKind.u64.wrap (IntKind.u64.wrap (IntKind.u64.wrap a.v + IntKind.u64.wrap m.v) + IntKind.u64.wrap (getF f 1).v) % 256, anyB [a, m, getF f 1]⟩]⟩).s)) := ⟨_, rfl⟩
      rw [← hw9]
      have nna : (w.heap.size) ≠ (w.heap.size + 1) := by first | omega | (have := blk_lt Ka; have := blk_lt Kf; have := bl.size; omega)
      replace Ka : B2 w9 (w.heap.size + 1) (.int .u8 a.v) (.bool a.s) 25 := by rw [hw9]; exact ((oth2 nna _ _).trans Ka)
      clear nna
      have nnm : (w.heap.size) ≠ (w.heap.size + 1 + 1) := by first | omega | (have := blk_lt Km; have := blk_lt Kf; have := bl.size; omega)
      replace Km : B2 w9 (w.heap.size + 1 + 1) (.int .u8 m.v) (.bool m.s) 25 := by rw [hw9]; exact ((oth2 nnm _ _).trans Km)
      clear nnm
      have nno : (w.heap.size) ≠ (w.heap.size + 1 + 1 + 1) := by first | omega | (have := blk_lt Ko; have := blk_lt Kf; have := bl.size; omega)
      replace Ko : B2 w9 (w.heap.size + 1 + 1 + 1) (.int .u8 0) (.bool false) 25 := by rw [hw9]; exact ((oth2 nno _ _).trans Ko)
      clear nno
      have nnr : (w.heap.size) ≠ (w.heap.size + 1 + 1 + 1 + 1) := by first | omega | (have := blk_lt Kr; have := blk_lt Kf; have := bl.size; omega)
      replace Kr : B2 w9 (w.heap.size + 1 + 1 + 1 + 1) (.int .u8 0) (.int .u8 0) 23 := by rw [hw9]; exact ((oth2 nnr _ _).trans Kr)
      clear nnr
      have nnc : (w.heap.size) ≠ w1.heap.size := by first | omega | (have := blk_lt Kc; have := blk_lt Kf; have := bl.size; omega)
      replace Kc : B2 w9 w1.heap.size (.int .u8 (getF f 1).v) (.bool (getF f 1).s) 25 := by rw [hw9]; exact ((oth2 nnc _ _).trans Kc)
      clear nnc
      have nnx : (w.heap.size) ≠ w4.heap.size := by first | omega | (have := blk_lt Kx; have := blk_lt Kf; have := bl.size; omega)
      replace Kx : B2 w9 w4.heap.size (.int .u8 (IntKind.u64.wrap (IntKind.u64.wrap (IntKind.u64.wrap a.v + IntKind.u64.wrap m.v) + IntKind.u64.wrap (getF f 1).v) % 256)) (.bool (anyB [a, m, getF f 1])) 25 := by rw [hw9]; exact ((oth2 nnx _ _).trans Kx)
      clear nnx
      replace Kf : B2 w9 (w.heap.size) (.int .u8 (setF f 1 ⟨trI (decide (255 < IntKind.u64.wrap (IntKind.u64.wrap (IntKind.u64.wrap a.v + IntKind.u64.wrap m.v) + IntKind.u64.wrap (getF f 1).v))), anyB [⟨IntKind.u64.wrap (IntKind.u64.wrap (IntKind.u64.wrap a.v + IntKind.u64.wrap m.v) + IntKind.u64.wrap (getF f 1).v) % 256, anyB [a, m, getF f 1]⟩]⟩).p) (.int .u8 (setF f 1 ⟨trI (decide (255 < IntKind.u64.wrap (IntKind.u64.wrap (IntKind.u64.wrap a.v + IntKind.u64.wrap m.v) + IntKind.u64.wrap (getF f 1).v))), anyB [⟨IntKind.u64.wrap (IntKind.u64.wrap (IntKind.u64.wrap a.v + IntKind.u64.wrap m.v) + IntKind.u64.wrap (getF f 1).v) % 256, anyB [a, m, getF f 1]⟩]⟩).s) 23 := by rw [hw9]; exact (set2 Kf _ _)
      replace bl : Below w.heap.size w w9 := by rw [hw9]; exact bs2 bl (by first | exact Nat.le_refl _ | omega | (have := bl.size; omega)) _ _
      clear hw9
      obtain ⟨cf0, zf0, cf1, zf1, nef⟩ := b2z Kf
      obtain ⟨ca0, za0, ca1, za1, nea⟩ := b2z Ka
      obtain ⟨cm0, zm0, cm1, zm1, nem⟩ := b2z Km
      obtain ⟨co0, zo0, co1, zo1, neo⟩ := b2z Ko
      obtain ⟨cr0, zr0, cr1, zr1, ner⟩ := b2z Kr
      obtain ⟨cc0, zc0, cc1, zc1, nec⟩ := b2z Kc
      obtain ⟨cx0, zx0, cx1, zx1, nex⟩ := b2z Kx
      refine hK.out _ _ ⟨blk_cell Kx 0, blk_cell Kx 1⟩ (fun hHeld => ?_)
      clear hK K
      refine wpAnyH_done (by kernel_rfl) (NoPanic.normal ?_) _
      go_upto_region 6 with fail
      refine wp_region_noPanic ?_
      refine wp_region_held_drew (S := (fun w' => w'.cell? ⟨(w.heap.size), 0, none⟩ = some (.int .u8 (setF f 1 ⟨trI (decide (255 < IntKind.u64.wrap (IntKind.u64.wrap (IntKind.u64.wrap a.v + IntKind.u64.wrap m.v) + IntKind.u64.wrap (getF f 1).v))), anyB [⟨IntKind.u64.wrap (IntKind.u64.wrap (IntKind.u64.wrap a.v + IntKind.u64.wrap m.v) + IntKind.u64.wrap (getF f 1).v) % 256, anyB [a, m, getF f 1]⟩]⟩).p) ∧ w'.cell? ⟨(w.heap.size), 1, none⟩ = some (.int .u8 (setF f 1 ⟨trI (decide (255 < IntKind.u64.wrap (IntKind.u64.wrap (IntKind.u64.wrap a.v + IntKind.u64.wrap m.v) + IntKind.u64.wrap (getF f 1).v))), anyB [⟨IntKind.u64.wrap (IntKind.u64.wrap (IntKind.u64.wrap a.v + IntKind.u64.wrap m.v) + IntKind.u64.wrap (getF f 1).v) % 256, anyB [a, m, getF f 1]⟩]⟩).s) ∧ w'.cell? ⟨w4.heap.size, 0, none⟩ = some (.int .u8 (IntKind.u64.wrap (IntKind.u64.wrap (IntKind.u64.wrap a.v + IntKind.u64.wrap m.v) + IntKind.u64.wrap (getF f 1).v) % 256)) ∧ w'.cell? ⟨w4.heap.size, 1, none⟩ = some (.bool (anyB [a, m, getF f 1])))) (by kernel_rfl) ⟨blk_cell Kf 0, blk_cell Kf 1, blk_cell Kx 0, blk_cell Kx 1⟩ (fun hHeld => ?_)
      refine tk 0 (v := ?_) rfl ?_ ?_; rotate_left; (focus (intro w hSw; (try dsimp only at hSw); go_simp; with_reducible rfl)); simp only [Act.put, tA, tB, tC]
      refine tk 1 (v := ?_) rfl ?_ ?_; rotate_left; (focus (intro w hSw; (try dsimp only at hSw); go_simp; with_reducible rfl)); simp only [Act.put, tA, tB, tC]
      refine tk 2 (v := ?_) rfl ?_ ?_; rotate_left; (focus (intro w hSw; (try dsimp only at hSw); go_simp; with_reducible rfl)); simp only [Act.put, tA, tB, tC]
      refine tk 3 (v := ?_) rfl ?_ ?_; rotate_left; (focus (intro w hSw; (try dsimp only at hSw); go_simp; with_reducible rfl)); simp only [Act.put, tA, tB, tC]
      refine tk 4 (v := ?_) rfl ?_ ?_; rotate_left; (focus (intro w hSw; (try dsimp only at hSw); go_simp; with_reducible rfl)); simp only [Act.put, tA, tB, tC]
      refine tk 8 (v := ?_) rfl ?_ ?_; rotate_left; (focus (intro w hSw; (try dsimp only at hSw); go_simp; with_reducible rfl)); simp only [Act.put, tA, tB, tC]
      refine wpAnyH_ready (rs := [5]) (by kernel_rfl) (by simp) ?_
      refine AllReadyH.cons (o := ⟨_, _, _, _, _, _⟩) rfl (fun K hK => ?_) (AllReadyH.nil)
      go_simp
      obtain ⟨w10, hw10⟩ : ∃ ww, ww = (w9.alloc (.cells #[.int .u8 (⟨IntKind.u64.wrap (IntKind.u64.wrap (IntKind.u64.wrap a.v + IntKind.u64.wrap m.v) + IntKind.u64.wrap (getF f 1).v) % 256, anyB [a, m, getF f 1]⟩ : By).v, .bool (⟨IntKind.u64.wrap (IntKind.u64.wrap (IntKind.u64.wrap a.v + IntKind.u64.wrap m.v) + IntKind.u64.wrap (getF f 1).v) % 256, anyB [a, m, getF f 1]⟩ : By).s] 25)).drew := ⟨_, rfl⟩
      rw [← hw10]
      have b10 : Below w9.heap.size w9 w10 := by rw [hw10]; (repeat first | exact .refl _ _ | exact (Below.refl _ _).drew | refine .drew ?_ | refine .alloc ?_ (by simp <;> omega) _)
      have Rj : ByAt w10 (some ⟨w9.heap.size, 0, none⟩) [(⟨IntKind.u64.wrap (IntKind.u64.wrap (IntKind.u64.wrap a.v + IntKind.u64.wrap m.v) + IntKind.u64.wrap (getF f 1).v) % 256, anyB [a, m, getF f 1]⟩ : By)] := by rw [hw10]; exact (byAt1 _ _ (⟨IntKind.u64.wrap (IntKind.u64.wrap (IntKind.u64.wrap a.v + IntKind.u64.wrap m.v) + IntKind.u64.wrap (getF f 1).v) % 256, anyB [a, m, getF f 1]⟩ : By)).below (Below.refl _ _).drew
      clear hw10
      clear cf0 cf1 zf0 zf1 ca0 ca1 za0 za1 cm0 cm1 zm0 zm1 co0 co1 zo0 zo1 cr0 cr1 zr0 zr1 cc0 cc1 zc0 zc1 cx0 cx1 zx0 zx1 nef nea nem neo ner nec nex
      replace Kf := kp b10 Kf
      replace Ka := kp b10 Ka
      replace Km := kp b10 Km
      replace Ko := kp b10 Ko
      replace Kr := kp b10 Kr
      replace Kc := kp b10 Kc
      replace Kx := kp b10 Kx
      replace bl := bl.trans (b10.mono bl.size)
      clear b10
      obtain ⟨cf0, zf0, cf1, zf1, nef⟩ := b2z Kf
      obtain ⟨ca0, za0, ca1, za1, nea⟩ := b2z Ka
      obtain ⟨cm0, zm0, cm1, zm1, nem⟩ := b2z Km
      obtain ⟨co0, zo0, co1, zo1, neo⟩ := b2z Ko
      obtain ⟨cr0, zr0, cr1, zr1, ner⟩ := b2z Kr
      obtain ⟨cc0, zc0, cc1, zc1, nec⟩ := b2z Kc
      obtain ⟨cx0, zx0, cx1, zx1, nex⟩ := b2z Kx
      refine hK.out _ _ ⟨blk_cell Kf 0, blk_cell Kf 1, blk_cell Kx 0, blk_cell Kx 1⟩ (fun hHeld => ?_)
      clear hK K
      refine wpAnyH_ready (rs := [6]) (by kernel_rfl) (by simp) ?_
      refine AllReadyH.cons (o := ⟨_, _, _, _, _, _⟩) rfl (fun K hK => ?_) (AllReadyH.nil)
      go_simp
      refine (truth_any _ [⟨IntKind.u64.wrap (IntKind.u64.wrap (IntKind.u64.wrap a.v + IntKind.u64.wrap m.v) + IntKind.u64.wrap (getF f 1).v) % 256, anyB [a, m, getF f 1]⟩] _ 1 _ rfl (by omega) Rj).mono ?_
      rintro e w11 ⟨rfl, b11⟩
      clear cf0 cf1 zf0 zf1 ca0 ca1 za0 za1 cm0 cm1 zm0 zm1 co0 co1 zo0 zo1 cr0 cr1 zr0 zr1 cc0 cc1 zc0 zc1 cx0 cx1 zx0 zx1 nef nea nem neo ner nec nex
      replace Kf := kp b11 Kf
      replace Ka := kp b11 Ka
      replace Km := kp b11 Km
      replace Ko := kp b11 Ko
      replace Kr := kp b11 Kr
      replace Kc := kp b11 Kc
      replace Kx := kp b11 Kx
      replace Rj := Rj.below b11
      replace bl := bl.trans (b11.mono bl.size)
      clear b11
      obtain ⟨cf0, zf0, cf1, zf1, nef⟩ := b2z Kf
      obtain ⟨ca0, za0, ca1, za1, nea⟩ := b2z Ka
      obtain ⟨cm0, zm0, cm1, zm1, nem⟩ := b2z Km
      obtain ⟨co0, zo0, co1, zo1, neo⟩ := b2z Ko
      obtain ⟨cr0, zr0, cr1, zr1, ner⟩ := b2z Kr
      obtain ⟨cc0, zc0, cc1, zc1, nec⟩ := b2z Kc
      obtain ⟨cx0, zx0, cx1, zx1, nex⟩ := b2z Kx
      refine hK.out _ _ ⟨blk_cell Kf 0, blk_cell Kf 1, blk_cell Kx 0, blk_cell Kx 1⟩ (fun hHeld => ?_)
      clear hK K
      refine wpAnyH_ready (rs := [7]) (by kernel_rfl) (by simp) ?_
      refine AllReadyH.cons (o := ⟨_, _, _, _, _, _⟩) rfl (fun K hK => ?_) (AllReadyH.nil)
      go_simp
      refine (set_any (setF f 1 ⟨trI (decide (255 < IntKind.u64.wrap (IntKind.u64.wrap (IntKind.u64.wrap a.v + IntKind.u64.wrap m.v) + IntKind.u64.wrap (getF f 1).v))), anyB [⟨IntKind.u64.wrap (IntKind.u64.wrap (IntKind.u64.wrap a.v + IntKind.u64.wrap m.v) + IntKind.u64.wrap (getF f 1).v) % 256, anyB [a, m, getF f 1]⟩]⟩) 64 ⟨trI (decide (0 < bits BinOp.and IntKind.u8 (bits BinOp.and IntKind.u8 (bits BinOp.xor IntKind.u8 (if IntKind.u8.signed = true then -1 else IntKind.u8.max) (bits BinOp.xor IntKind.u8 a.v m.v)) (bits BinOp.xor IntKind.u8 a.v (IntKind.u64.wrap (IntKind.u64.wrap (IntKind.u64.wrap a.v + IntKind.u64.wrap m.v) + IntKind.u64.wrap (getF f 1).v) % 256))) 128)), anyB [⟨IntKind.u64.wrap (IntKind.u64.wrap (IntKind.u64.wrap a.v + IntKind.u64.wrap m.v) + IntKind.u64.wrap (getF f 1).v) % 256, anyB [a, m, getF f 1]⟩]⟩ _).mono ?_
      rintro e w12 ⟨rfl, b12⟩
      clear cf0 cf1 zf0 zf1 ca0 ca1 za0 za1 cm0 cm1 zm0 zm1 co0 co1 zo0 zo1 cr0 cr1 zr0 zr1 cc0 cc1 zc0 zc1 cx0 cx1 zx0 zx1 nef nea nem neo ner nec nex
      replace Kf := kp b12 Kf
      replace Ka := kp b12 Ka
      replace Km := kp b12 Km
      replace Ko := kp b12 Ko
      replace Kr := kp b12 Kr
      replace Kc := kp b12 Kc
      replace Kx := kp b12 Kx
      replace Rj := Rj.below b12
      replace bl := bl.trans (b12.mono bl.size)
      clear b12
      obtain ⟨cf0, zf0, cf1, zf1, nef⟩ := b2z Kf
      obtain ⟨ca0, za0, ca1, za1, nea⟩ := b2z Ka
      obtain ⟨cm0, zm0, cm1, zm1, nem⟩ := b2z Km
      obtain ⟨co0, zo0, co1, zo1, neo⟩ := b2z Ko
      obtain ⟨cr0, zr0, cr1, zr1, ner⟩ := b2z Kr
      obtain ⟨cc0, zc0, cc1, zc1, nec⟩ := b2z Kc
      obtain ⟨cx0, zx0, cx1, zx1, nex⟩ := b2z Kx
      refine hK.out _ _ ⟨blk_cell Kf 0, blk_cell Kf 1, blk_cell Kx 0, blk_cell Kx 1⟩ (fun hHeld => ?_)
      clear hK K
      refine wpAnyH_ready (rs := [9]) (by kernel_rfl) (by simp) ?_
      refine AllReadyH.cons (o := ⟨_, _, _, _, _, _⟩) rfl (fun K hK => ?_) (AllReadyH.nil)
      go_simp
      refine (nz_any (setF (setF f 1 ⟨trI (decide (255 < IntKind.u64.wrap (IntKind.u64.wrap (IntKind.u64.wrap a.v + IntKind.u64.wrap m.v) + IntKind.u64.wrap (getF f 1).v))), anyB [⟨IntKind.u64.wrap (IntKind.u64.wrap (IntKind.u64.wrap a.v + IntKind.u64.wrap m.v) + IntKind.u64.wrap (getF f 1).v) % 256, anyB [a, m, getF f 1]⟩]⟩) 64 ⟨trI (decide (0 < bits BinOp.and IntKind.u8 (bits BinOp.and IntKind.u8 (bits BinOp.xor IntKind.u8 (if IntKind.u8.signed = true then -1 else IntKind.u8.max) (bits BinOp.xor IntKind.u8 a.v m.v)) (bits BinOp.xor IntKind.u8 a.v (IntKind.u64.wrap (IntKind.u64.wrap (IntKind.u64.wrap a.v + IntKind.u64.wrap m.v) + IntKind.u64.wrap (getF f 1).v) % 256))) 128)), anyB [⟨IntKind.u64.wrap (IntKind.u64.wrap (IntKind.u64.wrap a.v + IntKind.u64.wrap m.v) + IntKind.u64.wrap (getF f 1).v) % 256, anyB [a, m, getF f 1]⟩]⟩) ⟨IntKind.u64.wrap (IntKind.u64.wrap (IntKind.u64.wrap a.v + IntKind.u64.wrap m.v) + IntKind.u64.wrap (getF f 1).v) % 256, anyB [a, m, getF f 1]⟩ _).mono ?_
      rintro e w13 ⟨rfl, b13⟩
      clear cf0 cf1 zf0 zf1 ca0 ca1 za0 za1 cm0 cm1 zm0 zm1 co0 co1 zo0 zo1 cr0 cr1 zr0 zr1 cc0 cc1 zc0 zc1 cx0 cx1 zx0 zx1 nef nea nem neo ner nec nex
      replace Kf := kp b13 Kf
      replace Ka := kp b13 Ka
      replace Km := kp b13 Km
      replace Ko := kp b13 Ko
      replace Kr := kp b13 Kr
      replace Kc := kp b13 Kc
      replace Kx := kp b13 Kx
      replace Rj := Rj.below b13
      replace bl := bl.trans (b13.mono bl.size)
      clear b13
      obtain ⟨cf0, zf0, cf1, zf1, nef⟩ := b2z Kf
      obtain ⟨ca0, za0, ca1, za1, nea⟩ := b2z Ka
      obtain ⟨cm0, zm0, cm1, zm1, nem⟩ := b2z Km
      obtain ⟨co0, zo0, co1, zo1, neo⟩ := b2z Ko
      obtain ⟨cr0, zr0, cr1, zr1, ner⟩ := b2z Kr
      obtain ⟨cc0, zc0, cc1, zc1, nec⟩ := b2z Kc
      obtain ⟨cx0, zx0, cx1, zx1, nex⟩ := b2z Kx
      refine hK.out _ _ ⟨blk_cell Kf 0, blk_cell Kf 1, blk_cell Kx 0, blk_cell Kx 1⟩ (fun hHeld => ?_)
      clear hK K
      refine wpAnyH_ready (rs := [10]) (by kernel_rfl) (by simp) ?_
      refine AllReadyH.cons (o := ⟨_, _, _, _, _, _⟩) rfl (fun K hK => ?_) (AllReadyH.nil)
      go_simp
      clear cf0 cf1 zf0 zf1 ca0 ca1 za0 za1 cm0 cm1 zm0 zm1 co0 co1 zo0 zo1 cr0 cr1 zr0 zr1 cc0 cc1 zc0 zc1 cx0 cx1 zx0 zx1 nef nea nem neo ner nec nex
      clear Rj
      obtain ⟨w14, hw14⟩ : ∃ ww, ww = ((w13.setCell ⟨(w.heap.size + 1 + 1 + 1), 0, none⟩ (.int .u8 (IntKind.u64.wrap (IntKind.u64.wrap (IntKind.u64.wrap a.v + IntKind.u64.wrap m.v) + IntKind.u64.wrap (getF f 1).v) % 256))).setCell ⟨(w.heap.size + 1 + 1 + 1), 1, none⟩ (.bool (anyB [a, m, getF f 1]))) := ⟨_, rfl⟩
      rw [← hw14]
      have nnf : (w.heap.size + 1 + 1 + 1) ≠ (w.heap.size) := by first | omega | (have := blk_lt Kf; have := blk_lt Ko; have := bl.size; omega)
      replace Kf : B2 w14 (w.heap.size) (.int .u8 (setF f 1 ⟨trI (decide (255 < IntKind.u64.wrap (IntKind.u64.wrap (IntKind.u64.wrap a.v + IntKind.u64.wrap m.v) + IntKind.u64.wrap (getF f 1).v))), anyB [⟨IntKind.u64.wrap (IntKind.u64.wrap (IntKind.u64.wrap a.v + IntKind.u64.wrap m.v) + IntKind.u64.wrap (getF f 1).v) % 256, anyB [a, m, getF f 1]⟩]⟩).p) (.int .u8 (setF f 1 ⟨trI (decide (255 < IntKind.u64.wrap (IntKind.u64.wrap (IntKind.u64.wrap a.v + IntKind.u64.wrap m.v) + IntKind.u64.wrap (getF f 1).v))), anyB [⟨IntKind.u64.wrap (IntKind.u64.wrap (IntKind.u64.wrap a.v + IntKind.u64.wrap m.v) + IntKind.u64.wrap (getF f 1).v) % 256, anyB [a, m, getF f 1]⟩]⟩).s) 23 := by rw [hw14]; exact ((oth2 nnf _ _).trans Kf)
      clear nnf
      have nna : (w.heap.size + 1 + 1 + 1) ≠ (w.heap.size + 1) := by first | omega | (have := blk_lt Ka; have := blk_lt Ko; have := bl.size; omega)
      replace Ka : B2 w14 (w.heap.size + 1) (.int .u8 a.v) (.bool a.s) 25 := by rw [hw14]; exact ((oth2 nna _ _).trans Ka)
      clear nna
      have nnm : (w.heap.size + 1 + 1 + 1) ≠ (w.heap.size + 1 + 1) := by first | omega | (have := blk_lt Km; have := blk_lt Ko; have := bl.size; omega)
      replace Km : B2 w14 (w.heap.size + 1 + 1) (.int .u8 m.v) (.bool m.s) 25 := by rw [hw14]; exact ((oth2 nnm _ _).trans Km)
      clear nnm
      have nnr : (w.heap.size + 1 + 1 + 1) ≠ (w.heap.size + 1 + 1 + 1 + 1) := by first | omega | (have := blk_lt Kr; have := blk_lt Ko; have := bl.size; omega)
      replace Kr : B2 w14 (w.heap.size + 1 + 1 + 1 + 1) (.int .u8 0) (.int .u8 0) 23 := by rw [hw14]; exact ((oth2 nnr _ _).trans Kr)
      clear nnr
      have nnc : (w.heap.size + 1 + 1 + 1) ≠ w1.heap.size := by first | omega | (have := blk_lt Kc; have := blk_lt Ko; have := bl.size; omega)
      replace Kc : B2 w14 w1.heap.size (.int .u8 (getF f 1).v) (.bool (getF f 1).s) 25 := by rw [hw14]; exact ((oth2 nnc _ _).trans Kc)
      clear nnc
      have nnx : (w.heap.size + 1 + 1 + 1) ≠ w4.heap.size := by first | omega | (have := blk_lt Kx; have := blk_lt Ko; have := bl.size; omega)
      replace Kx : B2 w14 w4.heap.size (.int .u8 (IntKind.u64.wrap (IntKind.u64.wrap (IntKind.u64.wrap a.v + IntKind.u64.wrap m.v) + IntKind.u64.wrap (getF f 1).v) % 256)) (.bool (anyB [a, m, getF f 1])) 25 := by rw [hw14]; exact ((oth2 nnx _ _).trans Kx)
      clear nnx
      replace Ko : B2 w14 (w.heap.size + 1 + 1 + 1) (.int .u8 (IntKind.u64.wrap (IntKind.u64.wrap (IntKind.u64.wrap a.v + IntKind.u64.wrap m.v) + IntKind.u64.wrap (getF f 1).v) % 256)) (.bool (anyB [a, m, getF f 1])) 25 := by rw [hw14]; exact (set2 Ko _ _)
      replace bl : Below w.heap.size w w14 := by rw [hw14]; exact bs2 bl (by first | exact Nat.le_refl _ | omega | (have := bl.size; omega)) _ _
      clear hw14
      obtain ⟨cf0, zf0, cf1, zf1, nef⟩ := b2z Kf
      obtain ⟨ca0, za0, ca1, za1, nea⟩ := b2z Ka
      obtain ⟨cm0, zm0, cm1, zm1, nem⟩ := b2z Km
      obtain ⟨co0, zo0, co1, zo1, neo⟩ := b2z Ko
      obtain ⟨cr0, zr0, cr1, zr1, ner⟩ := b2z Kr
      obtain ⟨cc0, zc0, cc1, zc1, nec⟩ := b2z Kc
      obtain ⟨cx0, zx0, cx1, zx1, nex⟩ := b2z Kx
      refine hK.out _ _ ⟨blk_cell Kf 0, blk_cell Kf 1, blk_cell Kx 0, blk_cell Kx 1⟩ (fun hHeld => ?_)
      clear hK K
      refine wpAnyH_ready (rs := [11]) (by kernel_rfl) (by simp) ?_
      refine AllReadyH.cons (o := ⟨_, _, _, _, _, _⟩) rfl (fun K hK => ?_) (AllReadyH.nil)
      go_simp
      clear cf0 cf1 zf0 zf1 ca0 ca1 za0 za1 cm0 cm1 zm0 zm1 co0 co1 zo0 zo1 cr0 cr1 zr0 zr1 cc0 cc1 zc0 zc1 cx0 cx1 zx0 zx1 nef nea nem neo ner nec nex
      obtain ⟨w15, hw15⟩ : ∃ ww, ww = ((w14.setCell ⟨(w.heap.size + 1 + 1 + 1 + 1), 0, none⟩ (.int .u8 (nzF (setF (setF f 1 ⟨trI (decide (255 < IntKind.u64.wrap (IntKind.u64.wrap (IntKind.u64.wrap a.v + IntKind.u64.wrap m.v) + IntKind.u64.wrap (getF f 1).v))), anyB [⟨IntKind.u64.wrap (IntKind.u64.wrap (IntKind.u64.wrap a.v + IntKind.u64.wrap m.v) + IntKind.u64.wrap (getF f 1).v) % 256, anyB [a, m, getF f 1]⟩]⟩) 64 ⟨trI (decide (0 < bits BinOp.and IntKind.u8 (bits BinOp.and IntKind.u8 (bits BinOp.xor IntKind.u8 (if IntKind.u8.signed = true then -1 else IntKind.u8.max) (bits BinOp.xor IntKind.u8 a.v m.v)) (bits BinOp.xor IntKind.u8 a.v (IntKind.u64.wrap (IntKind.u64.wrap (IntKind.u64.wrap a.v + IntKind.u64.wrap m.v) + IntKind.u64.wrap (getF f 1).v) % 256))) 128)), anyB [⟨IntKind.u64.wrap (IntKind.u64.wrap (IntKind.u64.wrap a.v + IntKind.u64.wrap m.v) + IntKind.u64.wrap (getF f 1).v) % 256, anyB [a, m, getF f 1]⟩]⟩) ⟨IntKind.u64.wrap (IntKind.u64.wrap (IntKind.u64.wrap a.v + IntKind.u64.wrap m.v) + IntKind.u64.wrap (getF f 1).v) % 256, anyB [a, m, getF f 1]⟩).p)).setCell ⟨(w.heap.size + 1 + 1 + 1 + 1), 1, none⟩ (.int .u8 (nzF (setF (setF f 1 ⟨trI (decide (255 < IntKind.u64.wrap (IntKind.u64.wrap (IntKind.u64.wrap a.v + IntKind.u64.wrap m.v) + IntKind.u64.wrap (getF f 1).v))), anyB [⟨IntKind.u64.wrap (IntKind.u64.wrap (IntKind.u64.wrap a.v + IntKind.u64.wrap m.v) + IntKind.u64.wrap (getF f 1).v) % 256, anyB [a, m, getF f 1]⟩]⟩) 64 ⟨trI (decide (0 < bits BinOp.and IntKind.u8 (bits BinOp.and IntKind.u8 (bits BinOp.xor IntKind.u8 (if IntKind.u8.signed = true then -1 else IntKind.u8.max) (bits BinOp.xor IntKind.u8 a.v m.v)) (bits BinOp.xor IntKind.u8 a.v (IntKind.u64.wrap (IntKind.u64.wrap (IntKind.u64.wrap a.v + IntKind.u64.wrap m.v) + IntKind.u64.wrap (getF f 1).v) % 256))) 128)), anyB [⟨IntKind.u64.wrap (IntKind.u64.wrap (IntKind.u64.wrap a.v + IntKind.u64.wrap m.v) + IntKind.u64.wrap (getF f 1).v) % 256, anyB [a, m, getF f 1]⟩]⟩) ⟨IntKind.u64.wrap (IntKind.u64.wrap (IntKind.u64.wrap a.v + IntKind.u64.wrap m.v) + IntKind.u64.wrap (getF f 1).v) % 256, anyB [a, m, getF f 1]⟩).s)) := ⟨_, rfl⟩
      rw [← hw15]
      have nnf : (w.heap.size + 1 + 1 + 1 + 1) ≠ (w.heap.size) := by first | omega | (have := blk_lt Kf; have := blk_lt Kr; have := bl.size; omega)
      replace Kf : B2 w15 (w.heap.size) (.int .u8 (setF f 1 ⟨trI (decide (255 < IntKind.u64.wrap (IntKind.u64.wrap (IntKind.u64.wrap a.v + IntKind.u64.wrap m.v) + IntKind.u64.wrap (getF f 1).v))), anyB [⟨IntKind.u64.wrap (IntKind.u64.wrap (IntKind.u64.wrap a.v + IntKind.u64.wrap m.v) + IntKind.u64.wrap (getF f 1).v) % 256, anyB [a, m, getF f 1]⟩]⟩).p) (.int .u8 (setF f 1 ⟨trI (decide (255 < IntKind.u64.wrap (IntKind.u64.wrap (IntKind.u64.wrap a.v + IntKind.u64.wrap m.v) + IntKind.u64.wrap (getF f 1).v))), anyB [⟨IntKind.u64.wrap (IntKind.u64.wrap (IntKind.u64.wrap a.v + IntKind.u64.wrap m.v) + IntKind.u64.wrap (getF f 1).v) % 256, anyB [a, m, getF f 1]⟩]⟩).s) 23 := by rw [hw15]; exact ((oth2 nnf _ _).trans Kf)
      clear nnf
      have nna : (w.heap.size + 1 + 1 + 1 + 1) ≠ (w.heap.size + 1) := by first | omega | (have := blk_lt Ka; have := blk_lt Kr; have := bl.size; omega)
      replace Ka : B2 w15 (w.heap.size + 1) (.int .u8 a.v) (.bool a.s) 25 := by rw [hw15]; exact ((oth2 nna _ _).trans Ka)
      clear nna
      have nnm : (w.heap.size + 1 + 1 + 1 + 1) ≠ (w.heap.size + 1 + 1) := by first | omega | (have := blk_lt Km; have := blk_lt Kr; have := bl.size; omega)
      replace Km : B2 w15 (w.heap.size + 1 + 1) (.int .u8 m.v) (.bool m.s) 25 := by rw [hw15]; exact ((oth2 nnm _ _).trans Km)
      clear nnm
      have nno : (w.heap.size + 1 + 1 + 1 + 1) ≠ (w.heap.size + 1 + 1 + 1) := by first | omega | (have := blk_lt Ko; have := blk_lt Kr; have := bl.size; omega)
      replace Ko : B2 w15 (w.heap.size + 1 + 1 + 1) (.int .u8 (IntKind.u64.wrap (IntKind.u64.wrap (IntKind.u64.wrap a.v + IntKind.u64.wrap m.v) + IntKind.u64.wrap (getF f 1).v) % 256)) (.bool (anyB [a, m, getF f 1])) 25 := by rw [hw15]; exact ((oth2 nno _ _).trans Ko)
      clear nno
      have nnc : (w.heap.size + 1 + 1 + 1 + 1) ≠ w1.heap.size := by first | omega | (have := blk_lt Kc; have := blk_lt Kr; have := bl.size; omega)
      replace Kc : B2 w15 w1.heap.size (.int .u8 (getF f 1).v) (.bool (getF f 1).s) 25 := by rw [hw15]; exact ((oth2 nnc _ _).trans Kc)
      clear nnc
      have nnx : (w.heap.size + 1 + 1 + 1 + 1) ≠ w4.heap.size := by first | omega | (have := blk_lt Kx; have := blk_lt Kr; have := bl.size; omega)
      replace Kx : B2 w15 w4.heap.size (.int .u8 (IntKind.u64.wrap (IntKind.u64.wrap (IntKind.u64.wrap a.v + IntKind.u64.wrap m.v) + IntKind.u64.wrap (getF f 1).v) % 256)) (.bool (anyB [a, m, getF f 1])) 25 := by rw [hw15]; exact ((oth2 nnx _ _).trans Kx)
      clear nnx
      replace Kr : B2 w15 (w.heap.size + 1 + 1 + 1 + 1) (.int .u8 (nzF (setF (setF f 1 ⟨trI (decide (255 < IntKind.u64.wrap (IntKind.u64.wrap (IntKind.u64.wrap a.v + IntKind.u64.wrap m.v) + IntKind.u64.wrap (getF f 1).v))), anyB [⟨IntKind.u64.wrap (IntKind.u64.wrap (IntKind.u64.wrap a.v + IntKind.u64.wrap m.v) + IntKind.u64.wrap (getF f 1).v) % 256, anyB [a, m, getF f 1]⟩]⟩) 64 ⟨trI (decide (0 < bits BinOp.and IntKind.u8 (bits BinOp.and IntKind.u8 (bits BinOp.xor IntKind.u8 (if IntKind.u8.signed = true then -1 else IntKind.u8.max) (bits BinOp.xor IntKind.u8 a.v m.v)) (bits BinOp.xor IntKind.u8 a.v (IntKind.u64.wrap (IntKind.u64.wrap (IntKind.u64.wrap a.v + IntKind.u64.wrap m.v) + IntKind.u64.wrap (getF f 1).v) % 256))) 128)), anyB [⟨IntKind.u64.wrap (IntKind.u64.wrap (IntKind.u64.wrap a.v + IntKind.u64.wrap m.v) + IntKind.u64.wrap (getF f 1).v) % 256, anyB [a, m, getF f 1]⟩]⟩) ⟨IntKind.u64.wrap (IntKind.u64.wrap (IntKind.u64.wrap a.v + IntKind.u64.wrap m.v) + IntKind.u64.wrap (getF f 1).v) % 256, anyB [a, m, getF f 1]⟩).p) (.int .u8 (nzF (setF (setF f 1 ⟨trI (decide (255 < IntKind.u64.wrap (IntKind.u64.wrap (IntKind.u64.wrap a.v + IntKind.u64.wrap m.v) + IntKind.u64.wrap (getF f 1).v))), anyB [⟨IntKind.u64.wrap (IntKind.u64.wrap (IntKind.u64.wrap a.v + IntKind.u64.wrap m.v) + IntKind.u64.wrap (getF f 1).v) % 256, anyB [a, m, getF f 1]⟩]⟩) 64 ⟨trI (decide (0 < bits BinOp.and IntKind.u8 (bits BinOp.and IntKind.u8 (bits BinOp.xor IntKind.u8 (if IntKind.u8.signed = true then -1 else IntKind.u8.max) (bits BinOp.xor IntKind.u8 a.v m.v)) (bits BinOp.xor IntKind.u8 a.v (IntKind.u64.wrap (IntKind.u64.wrap (IntKind.u64.wrap a.v + IntKind.u64.wrap m.v) + IntKind.u64.wrap (getF f 1).v) % 256))) 128)), anyB [⟨IntKind.u64.wrap (IntKind.u64.wrap (IntKind.u64.wrap a.v + IntKind.u64.wrap m.v) + IntKind.u64.wrap (getF f 1).v) % 256, anyB [a, m, getF f 1]⟩]⟩) ⟨IntKind.u64.wrap (IntKind.u64.wrap (IntKind.u64.wrap a.v + IntKind.u64.wrap m.v) + IntKind.u64.wrap (getF f 1).v) % 256, anyB [a, m, getF f 1]⟩).s) 23 := by rw [hw15]; exact (set2 Kr _ _)
      replace bl : Below w.heap.size w w15 := by rw [hw15]; exact bs2 bl (by first | exact Nat.le_refl _ | omega | (have := bl.size; omega)) _ _
      clear hw15
      obtain ⟨cf0, zf0, cf1, zf1, nef⟩ := b2z Kf
      obtain ⟨ca0, za0, ca1, za1, nea⟩ := b2z Ka
      obtain ⟨cm0, zm0, cm1, zm1, nem⟩ := b2z Km
      obtain ⟨co0, zo0, co1, zo1, neo⟩ := b2z Ko
      obtain ⟨cr0, zr0, cr1, zr1, ner⟩ := b2z Kr
      obtain ⟨cc0, zc0, cc1, zc1, nec⟩ := b2z Kc
      obtain ⟨cx0, zx0, cx1, zx1, nex⟩ := b2z Kx
      refine hK.out _ _ ⟨blk_cell Kf 0, blk_cell Kf 1, blk_cell Kx 0, blk_cell Kx 1⟩ (fun hHeld => ?_)
      clear hK K
      refine wpAnyH_done (by kernel_rfl) (NoPanic.normal ?_) _
      go_wp2_with fail
      exact bodyPost_ret (v := .tuple #[By.V ⟨IntKind.u64.wrap (IntKind.u64.wrap (IntKind.u64.wrap a.v + IntKind.u64.wrap m.v) + IntKind.u64.wrap (getF f 1).v) % 256, anyB [a, m, getF f 1]⟩, (nzF (setF (setF f 1 ⟨trI (decide (255 < IntKind.u64.wrap (IntKind.u64.wrap (IntKind.u64.wrap a.v + IntKind.u64.wrap m.v) + IntKind.u64.wrap (getF f 1).v))), anyB [⟨IntKind.u64.wrap (IntKind.u64.wrap (IntKind.u64.wrap a.v + IntKind.u64.wrap m.v) + IntKind.u64.wrap (getF f 1).v) % 256, anyB [a, m, getF f 1]⟩]⟩) 64 ⟨trI (decide (0 < bits BinOp.and IntKind.u8 (bits BinOp.and IntKind.u8 (bits BinOp.xor IntKind.u8 (if IntKind.u8.signed = true then -1 else IntKind.u8.max) (bits BinOp.xor IntKind.u8 a.v m.v)) (bits BinOp.xor IntKind.u8 a.v (IntKind.u64.wrap (IntKind.u64.wrap (IntKind.u64.wrap a.v + IntKind.u64.wrap m.v) + IntKind.u64.wrap (getF f 1).v) % 256))) 128)), anyB [⟨IntKind.u64.wrap (IntKind.u64.wrap (IntKind.u64.wrap a.v + IntKind.u64.wrap m.v) + IntKind.u64.wrap (getF f 1).v) % 256, anyB [a, m, getF f 1]⟩]⟩) ⟨IntKind.u64.wrap (IntKind.u64.wrap (IntKind.u64.wrap a.v + IntKind.u64.wrap m.v) + IntKind.u64.wrap (getF f 1).v) % 256, anyB [a, m, getF f 1]⟩).V]) (by simp [results, Try.results22, go_sem, co0, co1, cr0, cr1]) rfl ⟨rfl, bl⟩
    · go_simp
      refine (truth_any _ [⟨IntKind.u64.wrap (IntKind.u64.wrap (IntKind.u64.wrap a.v + IntKind.u64.wrap m.v) + IntKind.u64.wrap (getF f 1).v) % 256, anyB [a, m, getF f 1]⟩] _ 1 _ rfl (by omega) Rk).mono ?_
      rintro e w7 ⟨rfl, b7⟩
      clear cf0 cf1 zf0 zf1 ca0 ca1 za0 za1 cm0 cm1 zm0 zm1 co0 co1 zo0 zo1 cr0 cr1 zr0 zr1 cc0 cc1 zc0 zc1 cx0 cx1 zx0 zx1 nef nea nem neo ner nec nex
      replace Kf := kp b7 Kf
      replace Ka := kp b7 Ka
      replace Km := kp b7 Km
      replace Ko := kp b7 Ko
      replace Kr := kp b7 Kr
      replace Kc := kp b7 Kc
      replace Kx := kp b7 Kx
      replace Rl := Rl.below b7
      replace Rk := Rk.below b7
      replace bl := bl.trans (b7.mono bl.size)
      clear b7
      obtain ⟨cf0, zf0, cf1, zf1, nef⟩ := b2z Kf
      obtain ⟨ca0, za0, ca1, za1, nea⟩ := b2z Ka
      obtain ⟨cm0, zm0, cm1, zm1, nem⟩ := b2z Km
      obtain ⟨co0, zo0, co1, zo1, neo⟩ := b2z Ko
      obtain ⟨cr0, zr0, cr1, zr1, ner⟩ := b2z Kr
      obtain ⟨cc0, zc0, cc1, zc1, nec⟩ := b2z Kc
      obtain ⟨cx0, zx0, cx1, zx1, nex⟩ := b2z Kx
      refine hK.out _ _ ⟨blk_cell Kx 0, blk_cell Kx 1⟩ (fun hHeld => ?_)
      clear hK K
      refine wpAnyH_ready (rs := [0]) (by kernel_rfl) (by simp) ?_
      refine AllReadyH.cons (o := ⟨_, _, _, _, _, _⟩) rfl (fun K hK => ?_) (AllReadyH.nil)
      go_simp
      refine hK.out _ _ ⟨blk_cell Kx 0, blk_cell Kx 1⟩ (fun hHeld => ?_)
      clear hK K
      refine wpAnyH_ready (rs := [6]) (by kernel_rfl) (by simp) ?_
      refine AllReadyH.cons (o := ⟨_, _, _, _, _, _⟩) rfl (fun K hK => ?_) (AllReadyH.nil)
      go_simp
      refine (set_any f 1 ⟨trI (decide (255 < IntKind.u64.wrap (IntKind.u64.wrap (IntKind.u64.wrap a.v + IntKind.u64.wrap m.v) + IntKind.u64.wrap (getF f 1).v))), anyB [⟨IntKind.u64.wrap (IntKind.u64.wrap (IntKind.u64.wrap a.v + IntKind.u64.wrap m.v) + IntKind.u64.wrap (getF f 1).v) % 256, anyB [a, m, getF f 1]⟩]⟩ _).mono ?_
      rintro e w8 ⟨rfl, b8⟩
      clear cf0 cf1 zf0 zf1 ca0 ca1 za0 za1 cm0 cm1 zm0 zm1 co0 co1 zo0 zo1 cr0 cr1 zr0 zr1 cc0 cc1 zc0 zc1 cx0 cx1 zx0 zx1 nef nea nem neo ner nec nex
      replace Kf := kp b8 Kf
      replace Ka := kp b8 Ka
      replace Km := kp b8 Km
      replace Ko := kp b8 Ko
      replace Kr := kp b8 Kr
      replace Kc := kp b8 Kc
      replace Kx := kp b8 Kx
      replace Rl := Rl.below b8
      replace Rk := Rk.below b8
      replace bl := bl.trans (b8.mono bl.size)
      clear b8
      obtain ⟨cf0, zf0, cf1, zf1, nef⟩ := b2z Kf
      obtain ⟨ca0, za0, ca1, za1, nea⟩ := b2z Ka
      obtain ⟨cm0, zm0, cm1, zm1, nem⟩ := b2z Km
      obtain ⟨co0, zo0, co1, zo1, neo⟩ := b2z Ko
      obtain ⟨cr0, zr0, cr1, zr1, ner⟩ := b2z Kr
      obtain ⟨cc0, zc0, cc1, zc1, nec⟩ := b2z Kc
      obtain ⟨cx0, zx0, cx1, zx1, nex⟩ := b2z Kx
      refine hK.out _ _ ⟨blk_cell Kx 0, blk_cell Kx 1⟩ (fun hHeld => ?_)
      clear hK K
      refine wpAnyH_ready (rs := [7]) (by kernel_rfl) (by simp) ?_
      refine AllReadyH.cons (o := ⟨_, _, _, _, _, _⟩) rfl (fun K hK => ?_) (AllReadyH.nil)
      go_simp
      clear cf0 cf1 zf0 zf1 ca0 ca1 za0 za1 cm0 cm1 zm0 zm1 co0 co1 zo0 zo1 cr0 cr1 zr0 zr1 cc0 cc1 zc0 zc1 cx0 cx1 zx0 zx1 nef nea nem neo ner nec nex
      clear Rl
      clear Rk
      obtain ⟨w9, hw9⟩ : ∃ ww, ww = ((w8.setCell ⟨(w.heap.size), 0, none⟩ (.int .u8 (setF f 1 ⟨trI (decide (255 < IntKind.u64.wrap (IntKind.u64.wrap (IntKind.u64.wrap a.v + IntKind.u64.wrap m.v) + IntKind.u64.wrap (getF f 1).v))), anyB [⟨IntKind.u64.wrap (IntKind.u64.wrap (IntKind.u64.wrap a.v + IntKind.u64.wrap m.v) + IntKind.u64.wrap (getF f 1).v) % 256, anyB [a, m, getF f 1]⟩]⟩).p)).setCell ⟨(w.heap.size), 1, none⟩ (.int .u8 (setF f 1 ⟨trI (decide (255 < IntKind.u64.wrap (IntKind.u64.wrap (IntKind.u64.wrap a.v + IntKind.u64.wrap m.v) + IntKind.u64.wrap (getF f 1).v))), anyB [⟨IntKind.u64.wrap (IntKind.u64.wrap (IntKind.u64.wrap a.v + IntKind.u64.wrap m.v) + IntKind.u64.wrap (getF f 1).v) % 256, anyB [a, m, getF f 1]⟩]⟩).s)) := ⟨_, rfl⟩
      rw [← hw9]
      have nna : (w.heap.size) ≠ (w.heap.size + 1) := by first | omega | (have := blk_lt Ka; have := blk_lt Kf; have := bl.size; omega)
      replace Ka : B2 w9 (w.heap.size + 1) (.int .u8 a.v) (.bool a.s) 25 := by rw [hw9]; exact ((oth2 nna _ _).trans Ka)
      clear nna
      have nnm : (w.heap.size) ≠ (w.heap.size + 1 + 1) := by first | omega | (have := blk_lt Km; have := blk_lt Kf; have := bl.size; omega)
      replace Km : B2 w9 (w.heap.size + 1 + 1) (.int .u8 m.v) (.bool m.s) 25 := by rw [hw9]; exact ((oth2 nnm _ _).trans Km)
      clear nnm
      have nno : (w.heap.size) ≠ (w.heap.size + 1 + 1 + 1) := by first | omega | (have := blk_lt Ko; have := blk_lt Kf; have := bl.size; omega)
      replace Ko : B2 w9 (w.heap.size + 1 + 1 + 1) (.int .u8 0) (.bool false) 25 := by rw [hw9]; exact ((oth2 nno _ _).trans Ko)
      clear nno
      have nnr : (w.heap.size) ≠ (w.heap.size + 1 + 1 + 1 + 1) := by first | omega | (have := blk_lt Kr; have := blk_lt Kf; have := bl.size; omega)
      replace Kr : B2 w9 (w.heap.size + 1 + 1 + 1 + 1) (.int .u8 0) (.int .u8 0) 23 := by rw [hw9]; exact ((oth2 nnr _ _).trans Kr)
      clear nnr
      have nnc : (w.heap.size) ≠ w1.heap.size := by first | omega | (have := blk_lt Kc; have := blk_lt Kf; have := bl.size; omega)
      replace Kc : B2 w9 w1.heap.size (.int .u8 (getF f 1).v) (.bool (getF f 1).s) 25 := by rw [hw9]; exact ((oth2 nnc _ _).trans Kc)
      clear nnc
      have nnx : (w.heap.size) ≠ w4.heap.size := by first | omega | (have := blk_lt Kx; have := blk_lt Kf; have := bl.size; omega)
      replace Kx : B2 w9 w4.heap.size (.int .u8 (IntKind.u64.wrap (IntKind.u64.wrap (IntKind.u64.wrap a.v + IntKind.u64.wrap m.v) + IntKind.u64.wrap (getF f 1).v) % 256)) (.bool (anyB [a, m, getF f 1])) 25 := by rw [hw9]; exact ((oth2 nnx _ _).trans Kx)
      clear nnx
      replace Kf : B2 w9 (w.heap.size) (.int .u8 (setF f 1 ⟨trI (decide (255 < IntKind.u64.wrap (IntKind.u64.wrap (IntKind.u64.wrap a.v + IntKind.u64.wrap m.v) + IntKind.u64.wrap (getF f 1).v))), anyB [⟨IntKind.u64.wrap (IntKind.u64.wrap (IntKind.u64.wrap a.v + IntKind.u64.wrap m.v) + IntKind.u64.wrap (getF f 1).v) % 256, anyB [a, m, getF f 1]⟩]⟩).p) (.int .u8 (setF f 1 ⟨trI (decide (255 < IntKind.u64.wrap (IntKind.u64.wrap (IntKind.u64.wrap a.v + IntKind.u64.wrap m.v) + IntKind.u64.wrap (getF f 1).v))), anyB [⟨IntKind.u64.wrap (IntKind.u64.wrap (IntKind.u64.wrap a.v + IntKind.u64.wrap m.v) + IntKind.u64.wrap (getF f 1).v) % 256, anyB [a, m, getF f 1]⟩]⟩).s) 23 := by rw [hw9]; exact (set2 Kf _ _)
      replace bl : Below w.heap.size w w9 := by rw [hw9]; exact bs2 bl (by first | exact Nat.le_refl _ | omega | (have := bl.size; omega)) _ _
      clear hw9
      obtain ⟨cf0, zf0, cf1, zf1, nef⟩ := b2z Kf
      obtain ⟨ca0, za0, ca1, za1, nea⟩ := b2z Ka
      obtain ⟨cm0, zm0, cm1, zm1, nem⟩ := b2z Km
      obtain ⟨co0, zo0, co1, zo1, neo⟩ := b2z Ko
      obtain ⟨cr0, zr0, cr1, zr1, ner⟩ := b2z Kr
      obtain ⟨cc0, zc0, cc1, zc1, nec⟩ := b2z Kc
      obtain ⟨cx0, zx0, cx1, zx1, nex⟩ := b2z Kx
      refine hK.out _ _ ⟨blk_cell Kx 0, blk_cell Kx 1⟩ (fun hHeld => ?_)
      clear hK K
      refine wpAnyH_done (by kernel_rfl) (NoPanic.normal ?_) _
      go_upto_region 6 with fail
      refine wp_region_noPanic ?_
      refine wp_region_held_drew (S := (fun w' => w'.cell? ⟨(w.heap.size), 0, none⟩ = some (.int .u8 (setF f 1 ⟨trI (decide (255 < IntKind.u64.wrap (IntKind.u64.wrap (IntKind.u64.wrap a.v + IntKind.u64.wrap m.v) + IntKind.u64.wrap (getF f 1).v))), anyB [⟨IntKind.u64.wrap (IntKind.u64.wrap (IntKind.u64.wrap a.v + IntKind.u64.wrap m.v) + IntKind.u64.wrap (getF f 1).v) % 256, anyB [a, m, getF f 1]⟩]⟩).p) ∧ w'.cell? ⟨(w.heap.size), 1, none⟩ = some (.int .u8 (setF f 1 ⟨trI (decide (255 < IntKind.u64.wrap (IntKind.u64.wrap (IntKind.u64.wrap a.v + IntKind.u64.wrap m.v) + IntKind.u64.wrap (getF f 1).v))), anyB [⟨IntKind.u64.wrap (IntKind.u64.wrap (IntKind.u64.wrap a.v + IntKind.u64.wrap m.v) + IntKind.u64.wrap (getF f 1).v) % 256, anyB [a, m, getF f 1]⟩]⟩).s) ∧ w'.cell? ⟨w4.heap.size, 0, none⟩ = some (.int .u8 (IntKind.u64.wrap (IntKind.u64.wrap (IntKind.u64.wrap a.v + IntKind.u64.wrap m.v) + IntKind.u64.wrap (getF f 1).v) % 256)) ∧ w'.cell? ⟨w4.heap.size, 1, none⟩ = some (.bool (anyB [a, m, getF f 1])))) (by kernel_rfl) ⟨blk_cell Kf 0, blk_cell Kf 1, blk_cell Kx 0, blk_cell Kx 1⟩ (fun hHeld => ?_)
      refine tk 0 (v := ?_) rfl ?_ ?_; rotate_left; (focus (intro w hSw; (try dsimp only at hSw); go_simp; with_reducible rfl)); simp only [Act.put, tA, tB, tC]
      refine tk 1 (v := ?_) rfl ?_ ?_; rotate_left; (focus (intro w hSw; (try dsimp only at hSw); go_simp; with_reducible rfl)); simp only [Act.put, tA, tB, tC]
      refine tk 2 (v := ?_) rfl ?_ ?_; rotate_left; (focus (intro w hSw; (try dsimp only at hSw); go_simp; with_reducible rfl)); simp only [Act.put, tA, tB, tC]
      refine tk 3 (v := ?_) rfl ?_ ?_; rotate_left; (focus (intro w hSw; (try dsimp only at hSw); go_simp; with_reducible rfl)); simp only [Act.put, tA, tB, tC]
      refine tk 4 (v := ?_) rfl ?_ ?_; rotate_left; (focus (intro w hSw; (try dsimp only at hSw); go_simp; with_reducible rfl)); simp only [Act.put, tA, tB, tC]
      refine tk 8 (v := ?_) rfl ?_ ?_; rotate_left; (focus (intro w hSw; (try dsimp only at hSw); go_simp; with_reducible rfl)); simp only [Act.put, tA, tB, tC]
      refine wpAnyH_ready (rs := [5]) (by kernel_rfl) (by simp) ?_
      refine AllReadyH.cons (o := ⟨_, _, _, _, _, _⟩) rfl (fun K hK => ?_) (AllReadyH.nil)
      go_simp
      obtain ⟨w10, hw10⟩ : ∃ ww, ww = (w9.alloc (.cells #[.int .u8 (⟨IntKind.u64.wrap (IntKind.u64.wrap (IntKind.u64.wrap a.v + IntKind.u64.wrap m.v) + IntKind.u64.wrap (getF f 1).v) % 256, anyB [a, m, getF f 1]⟩ : By).v, .bool (⟨IntKind.u64.wrap (IntKind.u64.wrap (IntKind.u64.wrap a.v + IntKind.u64.wrap m.v) + IntKind.u64.wrap (getF f 1).v) % 256, anyB [a, m, getF f 1]⟩ : By).s] 25)).drew := ⟨_, rfl⟩
      rw [← hw10]
      have b10 : Below w9.heap.size w9 w10 := by rw [hw10]; (repeat first | exact .refl _ _ | exact (Below.refl _ _).drew | refine .drew ?_ | refine .alloc ?_ (by simp <;> omega) _)
      have Rj : ByAt w10 (some ⟨w9.heap.size, 0, none⟩) [(⟨IntKind.u64.wrap (IntKind.u64.wrap (IntKind.u64.wrap a.v + IntKind.u64.wrap m.v) + IntKind.u64.wrap (getF f 1).v) % 256, anyB [a, m, getF f 1]⟩ : By)] := by rw [hw10]; exact (byAt1 _ _ (⟨IntKind.u64.wrap (IntKind.u64.wrap (IntKind.u64.wrap a.v + IntKind.u64.wrap m.v) + IntKind.u64.wrap (getF f 1).v) % 256, anyB [a, m, getF f 1]⟩ : By)).below (Below.refl _ _).drew
      clear hw10
      clear cf0 cf1 zf0 zf1 ca0 ca1 za0 za1 cm0 cm1 zm0 zm1 co0 co1 zo0 zo1 cr0 cr1 zr0 zr1 cc0 cc1 zc0 zc1 cx0 cx1 zx0 zx1 nef nea nem neo ner nec nex
      replace Kf := kp b10 Kf
      replace Ka := kp b10 Ka
      replace Km := kp b10 Km
      replace Ko := kp b10 Ko
      replace Kr := kp b10 Kr
      replace Kc := kp b10 Kc
      replace Kx := kp b10 Kx
      replace bl := bl.trans (b10.mono bl.size)
      clear b10
      obtain ⟨cf0, zf0, cf1, zf1, nef⟩ := b2z Kf
      obtain ⟨ca0, za0, ca1, za1, nea⟩ := b2z Ka
      obtain ⟨cm0, zm0, cm1, zm1, nem⟩ := b2z Km
      obtain ⟨co0, zo0, co1, zo1, neo⟩ := b2z Ko
      obtain ⟨cr0, zr0, cr1, zr1, ner⟩ := b2z Kr
      obtain ⟨cc0, zc0, cc1, zc1, nec⟩ := b2z Kc
      obtain ⟨cx0, zx0, cx1, zx1, nex⟩ := b2z Kx
      refine hK.out _ _ ⟨blk_cell Kf 0, blk_cell Kf 1, blk_cell Kx 0, blk_cell Kx 1⟩ (fun hHeld => ?_)
      clear hK K
      refine wpAnyH_ready (rs := [6]) (by kernel_rfl) (by simp) ?_
      refine AllReadyH.cons (o := ⟨_, _, _, _, _, _⟩) rfl (fun K hK => ?_) (AllReadyH.nil)
      go_simp
      refine (truth_any _ [⟨IntKind.u64.wrap (IntKind.u64.wrap (IntKind.u64.wrap a.v + IntKind.u64.wrap m.v) + IntKind.u64.wrap (getF f 1).v) % 256, anyB [a, m, getF f 1]⟩] _ 1 _ rfl (by omega) Rj).mono ?_
      rintro e w11 ⟨rfl, b11⟩
      clear cf0 cf1 zf0 zf1 ca0 ca1 za0 za1 cm0 cm1 zm0 zm1 co0 co1 zo0 zo1 cr0 cr1 zr0 zr1 cc0 cc1 zc0 zc1 cx0 cx1 zx0 zx1 nef nea nem neo ner nec nex
      replace Kf := kp b11 Kf
      replace Ka := kp b11 Ka
      replace Km := kp b11 Km
      replace Ko := kp b11 Ko
      replace Kr := kp b11 Kr
      replace Kc := kp b11 Kc
      replace Kx := kp b11 Kx
      replace Rj := Rj.below b11
      replace bl := bl.trans (b11.mono bl.size)
      clear b11
      obtain ⟨cf0, zf0, cf1, zf1, nef⟩ := b2z Kf
      obtain ⟨ca0, za0, ca1, za1, nea⟩ := b2z Ka
      obtain ⟨cm0, zm0, cm1, zm1, nem⟩ := b2z Km
      obtain ⟨co0, zo0, co1, zo1, neo⟩ := b2z Ko
      obtain ⟨cr0, zr0, cr1, zr1, ner⟩ := b2z Kr
      obtain ⟨cc0, zc0, cc1, zc1, nec⟩ := b2z Kc
      obtain ⟨cx0, zx0, cx1, zx1, nex⟩ := b2z Kx
      refine hK.out _ _ ⟨blk_cell Kf 0, blk_cell Kf 1, blk_cell Kx 0, blk_cell Kx 1⟩ (fun hHeld => ?_)
      clear hK K
      refine wpAnyH_ready (rs := [7]) (by kernel_rfl) (by simp) ?_
      refine AllReadyH.cons (o := ⟨_, _, _, _, _, _⟩) rfl (fun K hK => ?_) (AllReadyH.nil)
      go_simp
      refine (set_any (setF f 1 ⟨trI (decide (255 < IntKind.u64.wrap (IntKind.u64.wrap (IntKind.u64.wrap a.v + IntKind.u64.wrap m.v) + IntKind.u64.wrap (getF f 1).v))), anyB [⟨IntKind.u64.wrap (IntKind.u64.wrap (IntKind.u64.wrap a.v + IntKind.u64.wrap m.v) + IntKind.u64.wrap (getF f 1).v) % 256, anyB [a, m, getF f 1]⟩]⟩) 64 ⟨trI (decide (0 < bits BinOp.and IntKind.u8 (bits BinOp.and IntKind.u8 (bits BinOp.xor IntKind.u8 (if IntKind.u8.signed = true then -1 else IntKind.u8.max) (bits BinOp.xor IntKind.u8 a.v m.v)) (bits BinOp.xor IntKind.u8 a.v (IntKind.u64.wrap (IntKind.u64.wrap (IntKind.u64.wrap a.v + IntKind.u64.wrap m.v) + IntKind.u64.wrap (getF f 1).v) % 256))) 128)), anyB [⟨IntKind.u64.wrap (IntKind.u64.wrap (IntKind.u64.wrap a.v + IntKind.u64.wrap m.v) + IntKind.u64.wrap (getF f 1).v) % 256, anyB [a, m, getF f 1]⟩]⟩ _).mono ?_
      rintro e w12 ⟨rfl, b12⟩
      clear cf0 cf1 zf0 zf1 ca0 ca1 za0 za1 cm0 cm1 zm0 zm1 co0 co1 zo0 zo1 cr0 cr1 zr0 zr1 cc0 cc1 zc0 zc1 cx0 cx1 zx0 zx1 nef nea nem neo ner nec nex
      replace Kf := kp b12 Kf
      replace Ka := kp b12 Ka
      replace Km := kp b12 Km
      replace Ko := kp b12 Ko
      replace Kr := kp b12 Kr
      replace Kc := kp b12 Kc
      replace Kx := kp b12 Kx
      replace Rj := Rj.below b12
      replace bl := bl.trans (b12.mono bl.size)
      clear b12
      obtain ⟨cf0, zf0, cf1, zf1, nef⟩ := b2z Kf
      obtain ⟨ca0, za0, ca1, za1, nea⟩ := b2z Ka
      obtain ⟨cm0, zm0, cm1, zm1, nem⟩ := b2z Km
      obtain ⟨co0, zo0, co1, zo1, neo⟩ := b2z Ko
      obtain ⟨cr0, zr0, cr1, zr1, ner⟩ := b2z Kr
      obtain ⟨cc0, zc0, cc1, zc1, nec⟩ := b2z Kc
      obtain ⟨cx0, zx0, cx1, zx1, nex⟩ := b2z Kx
      refine hK.out _ _ ⟨blk_cell Kf 0, blk_cell Kf 1, blk_cell Kx 0, blk_cell Kx 1⟩ (fun hHeld => ?_)
      clear hK K
      refine wpAnyH_ready (rs := [9]) (by kernel_rfl) (by simp) ?_
      refine AllReadyH.cons (o := ⟨_, _, _, _, _, _⟩) rfl (fun K hK => ?_) (AllReadyH.nil)
      go_simp
      refine (nz_any (setF (setF f 1 ⟨trI (decide (255 < IntKind.u64.wrap (IntKind.u64.wrap (IntKind.u64.wrap a.v + IntKind.u64.wrap m.v) + IntKind.u64.wrap (getF f 1).v))), anyB [⟨IntKind.u64.wrap (IntKind.u64.wrap (IntKind.u64.wrap a.v + IntKind.u64.wrap m.v) + IntKind.u64.wrap (getF f 1).v) % 256, anyB [a, m, getF f 1]⟩]⟩) 64 ⟨trI (decide (0 < bits BinOp.and IntKind.u8 (bits BinOp.and IntKind.u8 (bits BinOp.xor IntKind.u8 (if IntKind.u8.signed = true then -1 else IntKind.u8.max) (bits BinOp.xor IntKind.u8 a.v m.v)) (bits BinOp.xor IntKind.u8 a.v (IntKind.u64.wrap (IntKind.u64.wrap (IntKind.u64.wrap a.v + IntKind.u64.wrap m.v) + IntKind.u64.wrap (getF f 1).v) % 256))) 128)), anyB [⟨IntKind.u64.wrap (IntKind.u64.wrap (IntKind.u64.wrap a.v + IntKind.u64.wrap m.v) + IntKind.u64.wrap (getF f 1).v) % 256, anyB [a, m, getF f 1]⟩]⟩) ⟨IntKind.u64.wrap (IntKind.u64.wrap (IntKind.u64.wrap a.v + IntKind.u64.wrap m.v) + IntKind.u64.wrap (getF f 1).v) % 256, anyB [a, m, getF f 1]⟩ _).mono ?_
      rintro e w13 ⟨rfl, b13⟩
      clear cf0 cf1 zf0 zf1 ca0 ca1 za0 za1 cm0 cm1 zm0 zm1 co0 co1 zo0 zo1 cr0 cr1 zr0 zr1 cc0 cc1 zc0 zc1 cx0 cx1 zx0 zx1 nef nea nem neo ner nec nex
      replace Kf := kp b13 Kf
      replace Ka := kp b13 Ka
      replace Km := kp b13 Km
      replace Ko := kp b13 Ko
      replace Kr := kp b13 Kr
      replace Kc := kp b13 Kc
      replace Kx := kp b13 Kx
      replace Rj := Rj.below b13
      replace bl := bl.trans (b13.mono bl.size)
      clear b13
      obtain ⟨cf0, zf0, cf1, zf1, nef⟩ := b2z Kf
      obtain ⟨ca0, za0, ca1, za1, nea⟩ := b2z Ka
      obtain ⟨cm0, zm0, cm1, zm1, nem⟩ := b2z Km
      obtain ⟨co0, zo0, co1, zo1, neo⟩ := b2z Ko
      obtain ⟨cr0, zr0, cr1, zr1, ner⟩ := b2z Kr
      obtain ⟨cc0, zc0, cc1, zc1, nec⟩ := b2z Kc
      obtain ⟨cx0, zx0, cx1, zx1, nex⟩ := b2z Kx
      refine hK.out _ _ ⟨blk_cell Kf 0, blk_cell Kf 1, blk_cell Kx 0, blk_cell Kx 1⟩ (fun hHeld => ?_)
      clear hK K
      refine wpAnyH_ready (rs := [10]) (by kernel_rfl) (by simp) ?_
      refine AllReadyH.cons (o := ⟨_, _, _, _, _, _⟩) rfl (fun K hK => ?_) (AllReadyH.nil)
      go_simp
      clear cf0 cf1 zf0 zf1 ca0 ca1 za0 za1 cm0 cm1 zm0 zm1 co0 co1 zo0 zo1 cr0 cr1 zr0 zr1 cc0 cc1 zc0 zc1 cx0 cx1 zx0 zx1 nef nea nem neo ner nec nex
      clear Rj
      obtain ⟨w14, hw14⟩ : ∃ ww, ww = ((w13.setCell ⟨(w.heap.size + 1 + 1 + 1), 0, none⟩ (.int .u8 (IntKind.u64.wrap (IntKind.u64.wrap (IntKind.u64.wrap a.v + IntKind.u64.wrap m.v) + IntKind.u64.wrap (getF f 1).v) % 256))).setCell ⟨(w.heap.size + 1 + 1 + 1), 1, none⟩ (.bool (anyB [a, m, getF f 1]))) := ⟨_, rfl⟩
      rw [← hw14]
      have nnf : (w.heap.size + 1 + 1 + 1) ≠ (w.heap.size) := by first | omega | (have := blk_lt Kf; have := blk_lt Ko; have := bl.size; omega)
      replace Kf : B2 w14 (w.heap.size) (.int .u8 (setF f 1 ⟨trI (decide (255 < IntKind.u64.wrap (IntKind.u64.wrap (IntKind.u64.wrap a.v + IntKind.u64.wrap m.v) + IntKind.u64.wrap (getF f 1).v))), anyB [⟨IntKind.u64.wrap (IntKind.u64.wrap (IntKind.u64.wrap a.v + IntKind.u64.wrap m.v) + IntKind.u64.wrap (getF f 1).v) % 256, anyB [a, m, getF f 1]⟩]⟩).p) (.int .u8 (setF f 1 ⟨trI (decide (255 < IntKind.u64.wrap (IntKind.u64.wrap (IntKind.u64.wrap a.v + IntKind.u64.wrap m.v) + IntKind.u64.wrap (getF f 1).v))), anyB [⟨IntKind.u64.wrap (IntKind.u64.wrap (IntKind.u64.wrap a.v + IntKind.u64.wrap m.v) + IntKind.u64.wrap (getF f 1).v) % 256, anyB [a, m, getF f 1]⟩]⟩).s) 23 := by rw [hw14]; exact ((oth2 nnf _ _).trans Kf)
      clear nnf
      have nna : (w.heap.size + 1 + 1 + 1) ≠ (w.heap.size + 1) := by first | omega | (have := blk_lt Ka; have := blk_lt Ko; have := bl.size; omega)
      replace Ka : B2 w14 (w.heap.size + 1) (.int .u8 a.v) (.bool a.s) 25 := by rw [hw14]; exact ((oth2 nna _ _).trans Ka)
      clear nna
      have nnm : (w.heap.size + 1 + 1 + 1) ≠ (w.heap.size + 1 + 1) := by first | omega | (have := blk_lt Km; have := blk_lt Ko; have := bl.size; omega)
      replace Km : B2 w14 (w.heap.size + 1 + 1) (.int .u8 m.v) (.bool m.s) 25 := by rw [hw14]; exact ((oth2 nnm _ _).trans Km)
      clear nnm
      have nnr : (w.heap.size + 1 + 1 + 1) ≠ (w.heap.size + 1 + 1 + 1 + 1) := by first | omega | (have := blk_lt Kr; have := blk_lt Ko; have := bl.size; omega)
      replace Kr : B2 w14 (w.heap.size + 1 + 1 + 1 + 1) (.int .u8 0) (.int .u8 0) 23 := by rw [hw14]; exact ((oth2 nnr _ _).trans Kr)
      clear nnr
      have nnc : (w.heap.size + 1 + 1 + 1) ≠ w1.heap.size := by first | omega | (have := blk_lt Kc; have := blk_lt Ko; have := bl.size; omega)
      replace Kc : B2 w14 w1.heap.size (.int .u8 (getF f 1).v) (.bool (getF f 1).s) 25 := by rw [hw14]; exact ((oth2 nnc _ _).trans Kc)
      clear nnc
      have nnx : (w.heap.size + 1 + 1 + 1) ≠ w4.heap.size := by first | omega | (have := blk_lt Kx; have := blk_lt Ko; have := bl.size; omega)
      replace Kx : B2 w14 w4.heap.size (.int .u8 (IntKind.u64.wrap (IntKind.u64.wrap (IntKind.u64.wrap a.v + IntKind.u64.wrap m.v) + IntKind.u64.wrap (getF f 1).v) % 256)) (.bool (anyB [a, m, getF f 1])) 25 := by rw [hw14]; exact ((oth2 nnx _ _).trans Kx)
      clear nnx
      replace Ko : B2 w14 (w.heap.size + 1 + 1 + 1) (.int .u8 (IntKind.u64.wrap (IntKind.u64.wrap (IntKind.u64.wrap a.v + IntKind.u64.wrap m.v) + IntKind.u64.wrap (getF f 1).v) % 256)) (.bool (anyB [a, m, getF f 1])) 25 := by rw [hw14]; exact (set2 Ko _ _)
      replace bl : Below w.heap.size w w14 := by rw [hw14]; exact bs2 bl (by first | exact Nat.le_refl _ | omega | (have := bl.size; omega)) _ _
      clear hw14
      obtain ⟨cf0, zf0, cf1, zf1, nef⟩ := b2z Kf
      obtain ⟨ca0, za0, ca1, za1, nea⟩ := b2z Ka
      obtain ⟨cm0, zm0, cm1, zm1, nem⟩ := b2z Km
      obtain ⟨co0, zo0, co1, zo1, neo⟩ := b2z Ko
      obtain ⟨cr0, zr0, cr1, zr1, ner⟩ := b2z Kr
      obtain ⟨cc0, zc0, cc1, zc1, nec⟩ := b2z Kc
      obtain ⟨cx0, zx0, cx1, zx1, nex⟩ := b2z Kx
      refine hK.out _ _ ⟨blk_cell Kf 0, blk_cell Kf 1, blk_cell Kx 0, blk_cell Kx 1⟩ (fun hHeld => ?_)
      clear hK K
      refine wpAnyH_ready (rs := [11]) (by kernel_rfl) (by simp) ?_
      refine AllReadyH.cons (o := ⟨_, _, _, _, _, _⟩) rfl (fun K hK => ?_) (AllReadyH.nil)
      go_simp
      clear cf0 cf1 zf0 zf1 ca0 ca1 za0 za1 cm0 cm1 zm0 zm1 co0 co1 zo0 zo1 cr0 cr1 zr0 zr1 cc0 cc1 zc0 zc1 cx0 cx1 zx0 zx1 nef nea nem neo ner nec nex
      obtain ⟨w15, hw15⟩ : ∃ ww, ww = ((w14.setCell ⟨(w.heap.size + 1 + 1 + 1 + 1), 0, none⟩ (.int .u8 (nzF (setF (setF f 1 ⟨trI (decide (255 < IntKind.u64.wrap (IntKind.u64.wrap (IntKind.u64.wrap a.v + IntKind.u64.wrap m.v) + IntKind.u64.wrap (getF f 1).v))), anyB [⟨IntKind.u64.wrap (IntKind.u64.wrap (IntKind.u64.wrap a.v + IntKind.u64.wrap m.v) + IntKind.u64.wrap (getF f 1).v) % 256, anyB [a, m, getF f 1]⟩]⟩) 64 ⟨trI (decide (0 < bits BinOp.and IntKind.u8 (bits BinOp.and IntKind.u8 (bits BinOp.xor IntKind.u8 (if IntKind.u8.signed = true then -1 else IntKind.u8.max) (bits BinOp.xor IntKind.u8 a.v m.v)) (bits BinOp.xor IntKind.u8 a.v (IntKind.u64.wrap (IntKind.u64.wrap (IntKind.u64.wrap a.v + IntKind.u64.wrap m.v) + IntKind.u64.wrap (getF f 1).v) % 256))) 128)), anyB [⟨IntKind.u64.wrap (IntKind.u64.wrap (IntKind.u64.wrap a.v + IntKind.u64.wrap m.v) + IntKind.u64.wrap (getF f 1).v) % 256, anyB [a, m, getF f 1]⟩]⟩) ⟨IntKind.u64.wrap (IntKind.u64.wrap (IntKind.u64.wrap a.v + IntKind.u64.wrap m.v) + IntKind.u64.wrap (getF f 1).v) % 256, anyB [a, m, getF f 1]⟩).p)).setCell ⟨(w.heap.size + 1 + 1 + 1 + 1), 1, none⟩ (.int .u8 (nzF (setF (setF f 1 ⟨trI (decide (255 < IntKind.u64.wrap (IntKind.u64.wrap (IntKind.u64.wrap a.v + IntKind.u64.wrap m.v) + IntKind.u64.wrap (getF f 1).v))), anyB [⟨IntKind.u64.wrap (IntKind.u64.wrap (IntKind.u64.wrap a.v + IntKind.u64.wrap m.v) + IntKind.u64.wrap (getF f 1).v) % 256, anyB [a, m, getF f 1]⟩]⟩) 64 ⟨trI (decide (0 < bits BinOp.and IntKind.u8 (bits BinOp.and IntKind.u8 (bits BinOp.xor IntKind.u8 (if IntKind.u8.signed = true then -1 else IntKind.u8.max) (bits BinOp.xor IntKind.u8 a.v m.v)) (bits BinOp.xor IntKind.u8 a.v (IntKind.u64.wrap (IntKind.u64.wrap (IntKind.u64.wrap a.v + IntKind.u64.wrap m.v) + IntKind.u64.wrap (getF f 1).v) % 256))) 128)), anyB [⟨IntKind.u64.wrap (IntKind.u64.wrap (IntKind.u64.wrap a.v + IntKind.u64.wrap m.v) + IntKind.u64.wrap (getF f 1).v) % 256, anyB [a, m, getF f 1]⟩]⟩) ⟨IntKind.u64.wrap (IntKind.u64.wrap (IntKind.u64.wrap a.v + IntKind.u64.wrap m.v) + IntKind.u64.wrap (getF f 1).v) % 256, anyB [a, m, getF f 1]⟩).s)) := ⟨_, rfl⟩
      rw [← hw15]
      have nnf : (w.heap.size + 1 + 1 + 1 + 1) ≠ (w.heap.size) := by first | omega | (have := blk_lt Kf; have := blk_lt Kr; have := bl.size; omega)
      replace Kf : B2 w15 (w.heap.size) (.int .u8 (setF f 1 ⟨trI (decide (255 < IntKind.u64.wrap (IntKind.u64.wrap (IntKind.u64.wrap a.v + IntKind.u64.wrap m.v) + IntKind.u64.wrap (getF f 1).v))), anyB [⟨IntKind.u64.wrap (IntKind.u64.wrap (IntKind.u64.wrap a.v + IntKind.u64.wrap m.v) + IntKind.u64.wrap (getF f 1).v) % 256, anyB [a, m, getF f 1]⟩]⟩).p) (.int .u8 (setF f 1 ⟨trI (decide (255 < IntKind.u64.wrap (IntKind.u64.wrap (IntKind.u64.wrap a.v + IntKind.u64.wrap m.v) + IntKind.u64.wrap (getF f 1).v))), anyB [⟨IntKind.u64.wrap (IntKind.u64.wrap (IntKind.u64.wrap a.v + IntKind.u64.wrap m.v) + IntKind.u64.wrap (getF f 1).v) % 256, anyB [a, m, getF f 1]⟩]⟩).s) 23 := by rw [hw15]; exact ((oth2 nnf _ _).trans Kf)
      clear nnf
      have nna : (w.heap.size + 1 + 1 + 1 + 1) ≠ (w.heap.size + 1) := by first | omega | (have := blk_lt Ka; have := blk_lt Kr; have := bl.size; omega)
      replace Ka : B2 w15 (w.heap.size + 1) (.int .u8 a.v) (.bool a.s) 25 := by rw [hw15]; exact ((oth2 nna _ _).trans Ka)
      clear nna
      have nnm : (w.heap.size + 1 + 1 + 1 + 1) ≠ (w.heap.size + 1 + 1) := by first | omega | (have := blk_lt Km; have := blk_lt Kr; have := bl.size; omega)
      replace Km : B2 w15 (w.heap.size + 1 + 1) (.int .u8 m.v) (.bool m.s) 25 := by rw [hw15]; exact ((oth2 nnm _ _).trans Km)
      clear nnm
      have nno : (w.heap.size + 1 + 1 + 1 + 1) ≠ (w.heap.size + 1 + 1 + 1) := by first | omega | (have := blk_lt Ko; have := blk_lt Kr; have := bl.size; omega)
      replace Ko : B2 w15 (w.heap.size + 1 + 1 + 1) (.int .u8 (IntKind.u64.wrap (IntKind.u64.wrap (IntKind.u64.wrap a.v + IntKind.u64.wrap m.v) + IntKind.u64.wrap (getF f 1).v) % 256)) (.bool (anyB [a, m, getF f 1])) 25 := by rw [hw15]; exact ((oth2 nno _ _).trans Ko)
      clear nno
      have nnc : (w.heap.size + 1 + 1 + 1 + 1) ≠ w1.heap.size := by first | omega | (have := blk_lt Kc; have := blk_lt Kr; have := bl.size; omega)
      replace Kc : B2 w15 w1.heap.size (.int .u8 (getF f 1).v) (.bool (getF f 1).s) 25 := by rw [hw15]; exact ((oth2 nnc _ _).trans Kc)
      clear nnc
      have nnx : (w.heap.size + 1 + 1 + 1 + 1) ≠ w4.heap.size := by first | omega | (have := blk_lt Kx; have := blk_lt Kr; have := bl.size; omega)
      replace Kx : B2 w15 w4.heap.size (.int .u8 (IntKind.u64.wrap (IntKind.u64.wrap (IntKind.u64.wrap a.v + IntKind.u64.wrap m.v) + IntKind.u64.wrap (getF f 1).v) % 256)) (.bool (anyB [a, m, getF f 1])) 25 := by rw [hw15]; exact ((oth2 nnx _ _).trans Kx)
      clear nnx
      replace Kr : B2 w15 (w.heap.size + 1 + 1 + 1 + 1) (.int .u8 (nzF (setF (setF f 1 ⟨trI (decide (255 < IntKind.u64.wrap (IntKind.u64.wrap (IntKind.u64.wrap a.v + IntKind.u64.wrap m.v) + IntKind.u64.wrap (getF f 1).v))), anyB [⟨IntKind.u64.wrap (IntKind.u64.wrap (IntKind.u64.wrap a.v + IntKind.u64.wrap m.v) + IntKind.u64.wrap (getF f 1).v) % 256, anyB [a, m, getF f 1]⟩]⟩) 64 ⟨trI (decide (0 < bits BinOp.and IntKind.u8 (bits BinOp.and IntKind.u8 (bits BinOp.xor IntKind.u8 (if IntKind.u8.signed = true then -1 else IntKind.u8.max) (bits BinOp.xor IntKind.u8 a.v m.v)) (bits BinOp.xor IntKind.u8 a.v (IntKind.u64.wrap (IntKind.u64.wrap (IntKind.u64.wrap a.v + IntKind.u64.wrap m.v) + IntKind.u64.wrap (getF f 1).v) % 256))) 128)), anyB [⟨IntKind.u64.wrap (IntKind.u64.wrap (IntKind.u64.wrap a.v + IntKind.u64.wrap m.v) + IntKind.u64.wrap (getF f 1).v) % 256, anyB [a, m, getF f 1]⟩]⟩) ⟨IntKind.u64.wrap (IntKind.u64.wrap (IntKind.u64.wrap a.v + IntKind.u64.wrap m.v) + IntKind.u64.wrap (getF f 1).v) % 256, anyB [a, m, getF f 1]⟩).p) (.int .u8 (nzF (setF (setF f 1 ⟨trI (decide (255 < IntKind.u64.wrap (IntKind.u64.wrap (IntKind.u64.wrap a.v + IntKind.u64.wrap m.v) + IntKind.u64.wrap (getF f 1).v))), anyB [⟨IntKind.u64.wrap (IntKind.u64.wrap (IntKind.u64.wrap a.v + IntKind.u64.wrap m.v) + IntKind.u64.wrap (getF f 1).v) % 256, anyB [a, m, getF f 1]⟩]⟩) 64 ⟨trI (decide (0 < bits BinOp.and IntKind.u8 (bits BinOp.and IntKind.u8 (bits BinOp.xor IntKind.u8 (if IntKind.u8.signed = true then -1 else IntKind.u8.max) (bits BinOp.xor IntKind.u8 a.v m.v)) (bits BinOp.xor IntKind.u8 a.v (IntKind.u64.wrap (IntKind.u64.wrap (IntKind.u64.wrap a.v + IntKind.u64.wrap m.v) + IntKind.u64.wrap (getF f 1).v) % 256))) 128)), anyB [⟨IntKind.u64.wrap (IntKind.u64.wrap (IntKind.u64.wrap a.v + IntKind.u64.wrap m.v) + IntKind.u64.wrap (getF f 1).v) % 256, anyB [a, m, getF f 1]⟩]⟩) ⟨IntKind.u64.wrap (IntKind.u64.wrap (IntKind.u64.wrap a.v + IntKind.u64.wrap m.v) + IntKind.u64.wrap (getF f 1).v) % 256, anyB [a, m, getF f 1]⟩).s) 23 := by rw [hw15]; exact (set2 Kr _ _)
      replace bl : Below w.heap.size w w15 := by rw [hw15]; exact bs2 bl (by first | exact Nat.le_refl _ | omega | (have := bl.size; omega)) _ _
      clear hw15
      obtain ⟨cf0, zf0, cf1, zf1, nef⟩ := b2z Kf
      obtain ⟨ca0, za0, ca1, za1, nea⟩ := b2z Ka
      obtain ⟨cm0, zm0, cm1, zm1, nem⟩ := b2z Km
      obtain ⟨co0, zo0, co1, zo1, neo⟩ := b2z Ko
      obtain ⟨cr0, zr0, cr1, zr1, ner⟩ := b2z Kr
      obtain ⟨cc0, zc0, cc1, zc1, nec⟩ := b2z Kc
      obtain ⟨cx0, zx0, cx1, zx1, nex⟩ := b2z Kx
      refine hK.out _ _ ⟨blk_cell Kf 0, blk_cell Kf 1, blk_cell Kx 0, blk_cell Kx 1⟩ (fun hHeld => ?_)
      clear hK K
      refine wpAnyH_done (by kernel_rfl) (NoPanic.normal ?_) _
      go_wp2_with fail
      exact bodyPost_ret (v := .tuple #[By.V ⟨IntKind.u64.wrap (IntKind.u64.wrap (IntKind.u64.wrap a.v + IntKind.u64.wrap m.v) + IntKind.u64.wrap (getF f 1).v) % 256, anyB [a, m, getF f 1]⟩, (nzF (setF (setF f 1 ⟨trI (decide (255 < IntKind.u64.wrap (IntKind.u64.wrap (IntKind.u64.wrap a.v + IntKind.u64.wrap m.v) + IntKind.u64.wrap (getF f 1).v))), anyB [⟨IntKind.u64.wrap (IntKind.u64.wrap (IntKind.u64.wrap a.v + IntKind.u64.wrap m.v) + IntKind.u64.wrap (getF f 1).v) % 256, anyB [a, m, getF f 1]⟩]⟩) 64 ⟨trI (decide (0 < bits BinOp.and IntKind.u8 (bits BinOp.and IntKind.u8 (bits BinOp.xor IntKind.u8 (if IntKind.u8.signed = true then -1 else IntKind.u8.max) (bits BinOp.xor IntKind.u8 a.v m.v)) (bits BinOp.xor IntKind.u8 a.v (IntKind.u64.wrap (IntKind.u64.wrap (IntKind.u64.wrap a.v + IntKind.u64.wrap m.v) + IntKind.u64.wrap (getF f 1).v) % 256))) 128)), anyB [⟨IntKind.u64.wrap (IntKind.u64.wrap (IntKind.u64.wrap a.v + IntKind.u64.wrap m.v) + IntKind.u64.wrap (getF f 1).v) % 256, anyB [a, m, getF f 1]⟩]⟩) ⟨IntKind.u64.wrap (IntKind.u64.wrap (IntKind.u64.wrap a.v + IntKind.u64.wrap m.v) + IntKind.u64.wrap (getF f 1).v) % 256, anyB [a, m, getF f 1]⟩).V]) (by simp [results, Try.results22, go_sem, co0, co1, cr0, cr1]) rfl ⟨rfl, bl⟩
set_option maxHeartbeats 1600000 in
theorem sbx_any (f : Fl) (a m : By) (w : World) : Calls Try.prog 26 #[f.V, a.V, m.V] w fun e w' => e = .returned (.tuple #[By.V ⟨(a.v - m.v) % 256, anyB [a, m]⟩, (nzF (setF f 1 ⟨trI (decide (m.v ≤ a.v)), anyB [a, m]⟩) ⟨(a.v - m.v) % 256, anyB [a, m]⟩).V]) ∧ Below w.heap.size w w' := by
  go_enter Try.func26, Try.ntmps26
  go_upto_region 1 with fail
  obtain ⟨w0, hw0⟩ : ∃ ww, ww = (((((w.alloc (.cells #[.int .u8 f.p, .int .u8 f.s] 23)).alloc (.cells #[.int .u8 a.v, .bool a.s] 25)).alloc (.cells #[.int .u8 m.v, .bool m.s] 25)).alloc (.cells #[.int .u8 0, .bool false] 25)).alloc (.cells #[.int .u8 0, .int .u8 0] 23)) := ⟨_, rfl⟩
  rw [← hw0]
  have Kf : B2 w0 (w.heap.size) (.int .u8 f.p) (.int .u8 f.s) 23 := by rw [hw0]; exact blk_alloc (blk_alloc (blk_alloc (blk_alloc (blk_new' _ (by simp)) _) _) _) _
  have Ka : B2 w0 (w.heap.size + 1) (.int .u8 a.v) (.bool a.s) 25 := by rw [hw0]; exact blk_alloc (blk_alloc (blk_alloc (blk_new' _ (by simp)) _) _) _
  have Km : B2 w0 (w.heap.size + 1 + 1) (.int .u8 m.v) (.bool m.s) 25 := by rw [hw0]; exact blk_alloc (blk_alloc (blk_new' _ (by simp)) _) _
  have Ko : B2 w0 (w.heap.size + 1 + 1 + 1) (.int .u8 0) (.bool false) 25 := by rw [hw0]; exact blk_alloc (blk_new' _ (by simp)) _
  have Kr : B2 w0 (w.heap.size + 1 + 1 + 1 + 1) (.int .u8 0) (.int .u8 0) 23 := by rw [hw0]; exact blk_new' _ (by simp)
  have qfa : w.heap.size ≠ w.heap.size + 1 := by omega
  have qfm : w.heap.size ≠ w.heap.size + 1 + 1 := by omega
  have qfo : w.heap.size ≠ w.heap.size + 1 + 1 + 1 := by omega
  have qfr : w.heap.size ≠ w.heap.size + 1 + 1 + 1 + 1 := by omega
  have qaf : w.heap.size + 1 ≠ w.heap.size := by omega
  have qam : w.heap.size + 1 ≠ w.heap.size + 1 + 1 := by omega
  have qao : w.heap.size + 1 ≠ w.heap.size + 1 + 1 + 1 := by omega
  have qar : w.heap.size + 1 ≠ w.heap.size + 1 + 1 + 1 + 1 := by omega
  have qmf : w.heap.size + 1 + 1 ≠ w.heap.size := by omega
  have qma : w.heap.size + 1 + 1 ≠ w.heap.size + 1 := by omega
  have qmo : w.heap.size + 1 + 1 ≠ w.heap.size + 1 + 1 + 1 := by omega
  have qmr : w.heap.size + 1 + 1 ≠ w.heap.size + 1 + 1 + 1 + 1 := by omega
  have qof : w.heap.size + 1 + 1 + 1 ≠ w.heap.size := by omega
  have qoa : w.heap.size + 1 + 1 + 1 ≠ w.heap.size + 1 := by omega
  have qom : w.heap.size + 1 + 1 + 1 ≠ w.heap.size + 1 + 1 := by omega
  have qor : w.heap.size + 1 + 1 + 1 ≠ w.heap.size + 1 + 1 + 1 + 1 := by omega
  have qrf : w.heap.size + 1 + 1 + 1 + 1 ≠ w.heap.size := by omega
  have qra : w.heap.size + 1 + 1 + 1 + 1 ≠ w.heap.size + 1 := by omega
  have qrm : w.heap.size + 1 + 1 + 1 + 1 ≠ w.heap.size + 1 + 1 := by omega
  have qro : w.heap.size + 1 + 1 + 1 + 1 ≠ w.heap.size + 1 + 1 + 1 := by omega
  have bl : Below w.heap.size w w0 := by rw [hw0]; (repeat first | exact .refl _ _ | exact (Below.refl _ _).drew | refine .drew ?_ | refine .alloc ?_ (by simp <;> omega) _)
  clear hw0
  obtain ⟨cf0, zf0, cf1, zf1, nef⟩ := b2z Kf
  obtain ⟨ca0, za0, ca1, za1, nea⟩ := b2z Ka
  obtain ⟨cm0, zm0, cm1, zm1, nem⟩ := b2z Km
  obtain ⟨co0, zo0, co1, zo1, neo⟩ := b2z Ko
  obtain ⟨cr0, zr0, cr1, zr1, ner⟩ := b2z Kr
  go_wp2_with fail
  obtain ⟨w1, hw1⟩ : ∃ ww, ww = (w0.alloc (.cells #[.int .u8 a.v, .bool a.s, .int .u8 m.v, .bool m.s] 25)) := ⟨_, rfl⟩
  rw [← hw1]
  have b1 : Below w0.heap.size w0 w1 := by rw [hw1]; (repeat first | exact .refl _ _ | exact (Below.refl _ _).drew | refine .drew ?_ | refine .alloc ?_ (by simp <;> omega) _)
  have Rl : ByAt w1 (some ⟨w0.heap.size, 0, none⟩) [a, m] := by rw [hw1]; exact byAt2 _ _ a m
  clear hw1
  clear cf0 cf1 zf0 zf1 ca0 ca1 za0 za1 cm0 cm1 zm0 zm1 co0 co1 zo0 zo1 cr0 cr1 zr0 zr1 nef nea nem neo ner
  replace Kf := kp b1 Kf
  replace Ka := kp b1 Ka
  replace Km := kp b1 Km
  replace Ko := kp b1 Ko
  replace Kr := kp b1 Kr
  replace bl := bl.trans (b1.mono bl.size)
  clear b1
  obtain ⟨cf0, zf0, cf1, zf1, nef⟩ := b2z Kf
  obtain ⟨ca0, za0, ca1, za1, nea⟩ := b2z Ka
  obtain ⟨cm0, zm0, cm1, zm1, nem⟩ := b2z Km
  obtain ⟨co0, zo0, co1, zo1, neo⟩ := b2z Ko
  obtain ⟨cr0, zr0, cr1, zr1, ner⟩ := b2z Kr
  refine (of_any _ [a, m] _ 2 _ rfl (by omega) Rl).mono ?_
  rintro e w2 ⟨rfl, b2⟩
  clear cf0 cf1 zf0 zf1 ca0 ca1 za0 za1 cm0 cm1 zm0 zm1 co0 co1 zo0 zo1 cr0 cr1 zr0 zr1 nef nea nem neo ner
  replace Kf := kp b2 Kf
  replace Ka := kp b2 Ka
  replace Km := kp b2 Km
  replace Ko := kp b2 Ko
  replace Kr := kp b2 Kr
  replace Rl := Rl.below b2
  replace bl := bl.trans (b2.mono bl.size)
  clear b2
  obtain ⟨cf0, zf0, cf1, zf1, nef⟩ := b2z Kf
  obtain ⟨ca0, za0, ca1, za1, nea⟩ := b2z Ka
  obtain ⟨cm0, zm0, cm1, zm1, nem⟩ := b2z Km
  obtain ⟨co0, zo0, co1, zo1, neo⟩ := b2z Ko
  obtain ⟨cr0, zr0, cr1, zr1, ner⟩ := b2z Kr
  go_upto_region 2 with fail
  have qfx : (w.heap.size) ≠ w2.heap.size := by have := blk_lt Kf; omega
  have qxf := qfx.symm
  have qax : (w.heap.size + 1) ≠ w2.heap.size := by have := blk_lt Ka; omega
  have qxa := qax.symm
  have qmx : (w.heap.size + 1 + 1) ≠ w2.heap.size := by have := blk_lt Km; omega
  have qxm := qmx.symm
  have qox : (w.heap.size + 1 + 1 + 1) ≠ w2.heap.size := by have := blk_lt Ko; omega
  have qxo := qox.symm
  have qrx : (w.heap.size + 1 + 1 + 1 + 1) ≠ w2.heap.size := by have := blk_lt Kr; omega
  have qxr := qrx.symm
  obtain ⟨w3, hw3⟩ : ∃ ww, ww = (w2.alloc (.cells #[.int .u8 ((a.v - m.v) % 256), .bool (anyB [a, m])] 25)) := ⟨_, rfl⟩
  rw [← hw3]
  have b3 : Below w2.heap.size w2 w3 := by rw [hw3]; (repeat first | exact .refl _ _ | exact (Below.refl _ _).drew | refine .drew ?_ | refine .alloc ?_ (by simp <;> omega) _)
  have Kx : B2 w3 w2.heap.size (.int .u8 ((a.v - m.v) % 256)) (.bool (anyB [a, m])) 25 := by rw [hw3]; exact blk_new _ _
  clear hw3
  clear cf0 cf1 zf0 zf1 ca0 ca1 za0 za1 cm0 cm1 zm0 zm1 co0 co1 zo0 zo1 cr0 cr1 zr0 zr1 nef nea nem neo ner
  replace Kf := kp b3 Kf
  replace Ka := kp b3 Ka
  replace Km := kp b3 Km
  replace Ko := kp b3 Ko
  replace Kr := kp b3 Kr
  replace Rl := Rl.below b3
  replace bl := bl.trans (b3.mono bl.size)
  clear b3
  obtain ⟨cf0, zf0, cf1, zf1, nef⟩ := b2z Kf
  obtain ⟨ca0, za0, ca1, za1, nea⟩ := b2z Ka
  obtain ⟨cm0, zm0, cm1, zm1, nem⟩ := b2z Km
  obtain ⟨co0, zo0, co1, zo1, neo⟩ := b2z Ko
  obtain ⟨cr0, zr0, cr1, zr1, ner⟩ := b2z Kr
  obtain ⟨cx0, zx0, cx1, zx1, nex⟩ := b2z Kx
  refine wp_region_noPanic ?_
  refine wp_region_held_drew (S := (fun w' => w'.cell? ⟨(w.heap.size), 0, none⟩ = some (.int .u8 f.p) ∧ w'.cell? ⟨(w.heap.size), 1, none⟩ = some (.int .u8 f.s) ∧ w'.cell? ⟨(w.heap.size + 1), 0, none⟩ = some (.int .u8 a.v) ∧ w'.cell? ⟨(w.heap.size + 1), 1, none⟩ = some (.bool a.s) ∧ w'.cell? ⟨(w.heap.size + 1 + 1), 0, none⟩ = some (.int .u8 m.v) ∧ w'.cell? ⟨(w.heap.size + 1 + 1), 1, none⟩ = some (.bool m.s) ∧ w'.cell? ⟨w2.heap.size, 0, none⟩ = some (.int .u8 ((a.v - m.v) % 256)) ∧ w'.cell? ⟨w2.heap.size, 1, none⟩ = some (.bool (anyB [a, m])))) (by kernel_rfl) ⟨blk_cell Kf 0, blk_cell Kf 1, blk_cell Ka 0, blk_cell Ka 1, blk_cell Km 0, blk_cell Km 1, blk_cell Kx 0, blk_cell Kx 1⟩ (fun hHeld => ?_)
  refine tk 0 (v := ?_) rfl ?_ ?_; rotate_left; (focus (intro w hSw; (try dsimp only at hSw); go_simp; with_reducible rfl)); simp only [Act.put, tA, tB, tC]
  refine tk 1 (v := ?_) rfl ?_ ?_; rotate_left; (focus (intro w hSw; (try dsimp only at hSw); go_simp; with_reducible rfl)); simp only [Act.put, tA, tB, tC]
  refine tk 2 (v := ?_) rfl ?_ ?_; rotate_left; (focus (intro w hSw; (try dsimp only at hSw); go_simp; with_reducible rfl)); simp only [Act.put, tA, tB, tC]
  refine tk 3 (v := ?_) rfl ?_ ?_; rotate_left; (focus (intro w hSw; (try dsimp only at hSw); go_simp; with_reducible rfl)); simp only [Act.put, tA, tB, tC]
  refine tk 4 (v := ?_) rfl ?_ ?_; rotate_left; (focus (intro w hSw; (try dsimp only at hSw); go_simp; with_reducible rfl)); simp only [Act.put, tA, tB, tC]
  refine tk 5 (v := ?_) rfl ?_ ?_; rotate_left; (focus (intro w hSw; (try dsimp only at hSw); go_simp; with_reducible rfl)); simp only [Act.put, tA, tB, tC]
  refine tk 6 (v := ?_) rfl ?_ ?_; rotate_left; (focus (intro w hSw; (try dsimp only at hSw); go_simp; with_reducible rfl)); simp only [Act.put, tA, tB, tC]
  refine tk 7 (v := ?_) rfl ?_ ?_; rotate_left; (focus (intro w hSw; (try dsimp only at hSw); go_simp; with_reducible rfl)); simp only [Act.put, tA, tB, tC]
  refine tk 8 (v := ?_) rfl ?_ ?_; rotate_left; (focus (intro w hSw; (try dsimp only at hSw); go_simp; with_reducible rfl)); simp only [Act.put, tA, tB, tC]
  refine tk 12 (v := ?_) rfl ?_ ?_; rotate_left; (focus (intro w hSw; (try dsimp only at hSw); go_simp; with_reducible rfl)); simp only [Act.put, tA, tB, tC]
  refine wpAnyH_ready (rs := [9]) (by kernel_rfl) (by simp) ?_
  refine AllReadyH.cons (o := ⟨_, _, _, _, _, _⟩) rfl (fun K hK => ?_) (AllReadyH.nil)
  go_simp
  obtain ⟨w4, hw4⟩ : ∃ ww, ww = (w3.alloc (.cells #[.int .u8 a.v, .bool a.s, .int .u8 m.v, .bool m.s] 25)).drew := ⟨_, rfl⟩
  rw [← hw4]
  have b4 : Below w3.heap.size w3 w4 := by rw [hw4]; (repeat first | exact .refl _ _ | exact (Below.refl _ _).drew | refine .drew ?_ | refine .alloc ?_ (by simp <;> omega) _)
  have Rk : ByAt w4 (some ⟨w3.heap.size, 0, none⟩) [a, m] := by rw [hw4]; exact (byAt2 _ _ a m).below (Below.refl _ _).drew
  clear hw4
  clear cf0 cf1 zf0 zf1 ca0 ca1 za0 za1 cm0 cm1 zm0 zm1 co0 co1 zo0 zo1 cr0 cr1 zr0 zr1 cx0 cx1 zx0 zx1 nef nea nem neo ner nex
  replace Kf := kp b4 Kf
  replace Ka := kp b4 Ka
  replace Km := kp b4 Km
  replace Ko := kp b4 Ko
  replace Kr := kp b4 Kr
  replace Kx := kp b4 Kx
  replace Rl := Rl.below b4
  replace bl := bl.trans (b4.mono bl.size)
  clear b4
  obtain ⟨cf0, zf0, cf1, zf1, nef⟩ := b2z Kf
  obtain ⟨ca0, za0, ca1, za1, nea⟩ := b2z Ka
  obtain ⟨cm0, zm0, cm1, zm1, nem⟩ := b2z Km
  obtain ⟨co0, zo0, co1, zo1, neo⟩ := b2z Ko
  obtain ⟨cr0, zr0, cr1, zr1, ner⟩ := b2z Kr
  obtain ⟨cx0, zx0, cx1, zx1, nex⟩ := b2z Kx
  refine hK.out _ _ ⟨blk_cell Kf 0, blk_cell Kf 1, blk_cell Ka 0, blk_cell Ka 1, blk_cell Km 0, blk_cell Km 1, blk_cell Kx 0, blk_cell Kx 1⟩ (fun hHeld => ?_)
  clear hK K
  refine wpAnyH_ready (rs := [10]) (by kernel_rfl) (by simp) ?_
  refine AllReadyH.cons (o := ⟨_, _, _, _, _, _⟩) rfl (fun K hK => ?_) (AllReadyH.nil)
  go_simp
  refine (truth_any _ [a, m] _ 2 _ rfl (by omega) Rk).mono ?_
  rintro e w5 ⟨rfl, b5⟩
  clear cf0 cf1 zf0 zf1 ca0 ca1 za0 za1 cm0 cm1 zm0 zm1 co0 co1 zo0 zo1 cr0 cr1 zr0 zr1 cx0 cx1 zx0 zx1 nef nea nem neo ner nex
  replace Kf := kp b5 Kf
  replace Ka := kp b5 Ka
  replace Km := kp b5 Km
  replace Ko := kp b5 Ko
  replace Kr := kp b5 Kr
  replace Kx := kp b5 Kx
  replace Rl := Rl.below b5
  replace Rk := Rk.below b5
  replace bl := bl.trans (b5.mono bl.size)
  clear b5
  obtain ⟨cf0, zf0, cf1, zf1, nef⟩ := b2z Kf
  obtain ⟨ca0, za0, ca1, za1, nea⟩ := b2z Ka
  obtain ⟨cm0, zm0, cm1, zm1, nem⟩ := b2z Km
  obtain ⟨co0, zo0, co1, zo1, neo⟩ := b2z Ko
  obtain ⟨cr0, zr0, cr1, zr1, ner⟩ := b2z Kr
  obtain ⟨cx0, zx0, cx1, zx1, nex⟩ := b2z Kx
  refine hK.out _ _ ⟨blk_cell Kf 0, blk_cell Kf 1, blk_cell Ka 0, blk_cell Ka 1, blk_cell Km 0, blk_cell Km 1, blk_cell Kx 0, blk_cell Kx 1⟩ (fun hHeld => ?_)
  clear hK K
  refine wpAnyH_ready (rs := [11]) (by kernel_rfl) (by simp) ?_
  refine AllReadyH.cons (o := ⟨_, _, _, _, _, _⟩) rfl (fun K hK => ?_) (AllReadyH.nil)
  go_simp
  refine (set_any f 1 ⟨trI (decide (m.v ≤ a.v)), anyB [a, m]⟩ _).mono ?_
  rintro e w6 ⟨rfl, b6⟩
  clear cf0 cf1 zf0 zf1 ca0 ca1 za0 za1 cm0 cm1 zm0 zm1 co0 co1 zo0 zo1 cr0 cr1 zr0 zr1 cx0 cx1 zx0 zx1 nef nea nem neo ner nex
  replace Kf := kp b6 Kf
  replace Ka := kp b6 Ka
  replace Km := kp b6 Km
  replace Ko := kp b6 Ko
  replace Kr := kp b6 Kr
  replace Kx := kp b6 Kx
  replace Rl := Rl.below b6
  replace Rk := Rk.below b6
  replace bl := bl.trans (b6.mono bl.size)
  clear b6
  obtain ⟨cf0, zf0, cf1, zf1, nef⟩ := b2z Kf
  obtain ⟨ca0, za0, ca1, za1, nea⟩ := b2z Ka
  obtain ⟨cm0, zm0, cm1, zm1, nem⟩ := b2z Km
  obtain ⟨co0, zo0, co1, zo1, neo⟩ := b2z Ko
  obtain ⟨cr0, zr0, cr1, zr1, ner⟩ := b2z Kr
  obtain ⟨cx0, zx0, cx1, zx1, nex⟩ := b2z Kx
  refine hK.out _ _ ⟨blk_cell Kf 0, blk_cell Kf 1, blk_cell Ka 0, blk_cell Ka 1, blk_cell Km 0, blk_cell Km 1, blk_cell Kx 0, blk_cell Kx 1⟩ (fun hHeld => ?_)
  clear hK K
  refine wpAnyH_ready (rs := [13]) (by kernel_rfl) (by simp) ?_
  refine AllReadyH.cons (o := ⟨_, _, _, _, _, _⟩) rfl (fun K hK => ?_) (AllReadyH.nil)
  go_simp
  refine (nz_any (setF f 1 ⟨trI (decide (m.v ≤ a.v)), anyB [a, m]⟩) ⟨(a.v - m.v) % 256, anyB [a, m]⟩ _).mono ?_
  rintro e w7 ⟨rfl, b7⟩
  clear cf0 cf1 zf0 zf1 ca0 ca1 za0 za1 cm0 cm1 zm0 zm1 co0 co1 zo0 zo1 cr0 cr1 zr0 zr1 cx0 cx1 zx0 zx1 nef nea nem neo ner nex
  replace Kf := kp b7 Kf
  replace Ka := kp b7 Ka
  replace Km := kp b7 Km
  replace Ko := kp b7 Ko
  replace Kr := kp b7 Kr
  replace Kx := kp b7 Kx
  replace Rl := Rl.below b7
  replace Rk := Rk.below b7
  replace bl := bl.trans (b7.mono bl.size)
  clear b7
  obtain ⟨cf0, zf0, cf1, zf1, nef⟩ := b2z Kf
  obtain ⟨ca0, za0, ca1, za1, nea⟩ := b2z Ka
  obtain ⟨cm0, zm0, cm1, zm1, nem⟩ := b2z Km
  obtain ⟨co0, zo0, co1, zo1, neo⟩ := b2z Ko
  obtain ⟨cr0, zr0, cr1, zr1, ner⟩ := b2z Kr
  obtain ⟨cx0, zx0, cx1, zx1, nex⟩ := b2z Kx
  refine hK.out _ _ ⟨blk_cell Kf 0, blk_cell Kf 1, blk_cell Ka 0, blk_cell Ka 1, blk_cell Km 0, blk_cell Km 1, blk_cell Kx 0, blk_cell Kx 1⟩ (fun hHeld => ?_)
  clear hK K
  refine wpAnyH_ready (rs := [14]) (by kernel_rfl) (by simp) ?_
  refine AllReadyH.cons (o := ⟨_, _, _, _, _, _⟩) rfl (fun K hK => ?_) (AllReadyH.nil)
  go_simp
  clear cf0 cf1 zf0 zf1 ca0 ca1 za0 za1 cm0 cm1 zm0 zm1 co0 co1 zo0 zo1 cr0 cr1 zr0 zr1 cx0 cx1 zx0 zx1 nef nea nem neo ner nex
  clear Rl
  clear Rk
  obtain ⟨w8, hw8⟩ : ∃ ww, ww = ((w7.setCell ⟨(w.heap.size + 1 + 1 + 1), 0, none⟩ (.int .u8 ((a.v - m.v) % 256))).setCell ⟨(w.heap.size + 1 + 1 + 1), 1, none⟩ (.bool (anyB [a, m]))) := ⟨_, rfl⟩
  rw [← hw8]
  have nnf : (w.heap.size + 1 + 1 + 1) ≠ (w.heap.size) := by first | omega | (have := blk_lt Kf; have := blk_lt Ko; have := bl.size; omega)
  replace Kf : B2 w8 (w.heap.size) (.int .u8 f.p) (.int .u8 f.s) 23 := by rw [hw8]; exact ((oth2 nnf _ _).trans Kf)
  clear nnf
  have nna : (w.heap.size + 1 + 1 + 1) ≠ (w.heap.size + 1) := by first | omega | (have := blk_lt Ka; have := blk_lt Ko; have := bl.size; omega)
  replace Ka : B2 w8 (w.heap.size + 1) (.int .u8 a.v) (.bool a.s) 25 := by rw [hw8]; exact ((oth2 nna _ _).trans Ka)
  clear nna
  have nnm : (w.heap.size + 1 + 1 + 1) ≠ (w.heap.size + 1 + 1) := by first | omega | (have := blk_lt Km; have := blk_lt Ko; have := bl.size; omega)
  replace Km : B2 w8 (w.heap.size + 1 + 1) (.int .u8 m.v) (.bool m.s) 25 := by rw [hw8]; exact ((oth2 nnm _ _).trans Km)
  clear nnm
  have nnr : (w.heap.size + 1 + 1 + 1) ≠ (w.heap.size + 1 + 1 + 1 + 1) := by first | omega | (have := blk_lt Kr; have := blk_lt Ko; have := bl.size; omega)
  replace Kr : B2 w8 (w.heap.size + 1 + 1 + 1 + 1) (.int .u8 0) (.int .u8 0) 23 := by rw [hw8]; exact ((oth2 nnr _ _).trans Kr)
  clear nnr
  have nnx : (w.heap.size + 1 + 1 + 1) ≠ w2.heap.size := by first | omega | (have := blk_lt Kx; have := blk_lt Ko; have := bl.size; omega)
  replace Kx : B2 w8 w2.heap.size (.int .u8 ((a.v - m.v) % 256)) (.bool (anyB [a, m])) 25 := by rw [hw8]; exact ((oth2 nnx _ _).trans Kx)
  clear nnx
  replace Ko : B2 w8 (w.heap.size + 1 + 1 + 1) (.int .u8 ((a.v - m.v) % 256)) (.bool (anyB [a, m])) 25 := by rw [hw8]; exact (set2 Ko _ _)
  replace bl : Below w.heap.size w w8 := by rw [hw8]; exact bs2 bl (by first | exact Nat.le_refl _ | omega | (have := bl.size; omega)) _ _
  clear hw8
  obtain ⟨cf0, zf0, cf1, zf1, nef⟩ := b2z Kf
  obtain ⟨ca0, za0, ca1, za1, nea⟩ := b2z Ka
  obtain ⟨cm0, zm0, cm1, zm1, nem⟩ := b2z Km
  obtain ⟨co0, zo0, co1, zo1, neo⟩ := b2z Ko
  obtain ⟨cr0, zr0, cr1, zr1, ner⟩ := b2z Kr
  obtain ⟨cx0, zx0, cx1, zx1, nex⟩ := b2z Kx
  refine hK.out _ _ ⟨blk_cell Kf 0, blk_cell Kf 1, blk_cell Ka 0, blk_cell Ka 1, blk_cell Km 0, blk_cell Km 1, blk_cell Kx 0, blk_cell Kx 1⟩ (fun hHeld => ?_)
  clear hK K
  refine wpAnyH_ready (rs := [15]) (by kernel_rfl) (by simp) ?_
  refine AllReadyH.cons (o := ⟨_, _, _, _, _, _⟩) rfl (fun K hK => ?_) (AllReadyH.nil)
  go_simp
  clear cf0 cf1 zf0 zf1 ca0 ca1 za0 za1 cm0 cm1 zm0 zm1 co0 co1 zo0 zo1 cr0 cr1 zr0 zr1 cx0 cx1 zx0 zx1 nef nea nem neo ner nex
  obtain ⟨w9, hw9⟩ : ∃ ww, ww = ((w8.setCell ⟨(w.heap.size + 1 + 1 + 1 + 1), 0, none⟩ (.int .u8 (nzF (setF f 1 ⟨trI (decide (m.v ≤ a.v)), anyB [a, m]⟩) ⟨(a.v - m.v) % 256, anyB [a, m]⟩).p)).setCell ⟨(w.heap.size + 1 + 1 + 1 + 1), 1, none⟩ (.int .u8 (nzF (setF f 1 ⟨trI (decide (m.v ≤ a.v)), anyB [a, m]⟩) ⟨(a.v - m.v) % 256, anyB [a, m]⟩).s)) := ⟨_, rfl⟩
  rw [← hw9]
  have nnf : (w.heap.size + 1 + 1 + 1 + 1) ≠ (w.heap.size) := by first | omega | (have := blk_lt Kf; have := blk_lt Kr; have := bl.size; omega)
  replace Kf : B2 w9 (w.heap.size) (.int .u8 f.p) (.int .u8 f.s) 23 := by rw [hw9]; exact ((oth2 nnf _ _).trans Kf)
  clear nnf
  have nna : (w.heap.size + 1 + 1 + 1 + 1) ≠ (w.heap.size + 1) := by first | omega | (have := blk_lt Ka; have := blk_lt Kr; have := bl.size; omega)
  replace Ka : B2 w9 (w.heap.size + 1) (.int .u8 a.v) (.bool a.s) 25 := by rw [hw9]; exact ((oth2 nna _ _).trans Ka)
  clear nna
  have nnm : (w.heap.size + 1 + 1 + 1 + 1) ≠ (w.heap.size + 1 + 1) := by first | omega | (have := blk_lt Km; have := blk_lt Kr; have := bl.size; omega)
  replace Km : B2 w9 (w.heap.size + 1 + 1) (.int .u8 m.v) (.bool m.s) 25 := by rw [hw9]; exact ((oth2 nnm _ _).trans Km)
  clear nnm
  have nno : (w.heap.size + 1 + 1 + 1 + 1) ≠ (w.heap.size + 1 + 1 + 1) := by first | omega | (have := blk_lt Ko; have := blk_lt Kr; have := bl.size; omega)
  replace Ko : B2 w9 (w.heap.size + 1 + 1 + 1) (.int .u8 ((a.v - m.v) % 256)) (.bool (anyB [a, m])) 25 := by rw [hw9]; exact ((oth2 nno _ _).trans Ko)
  clear nno
  have nnx : (w.heap.size + 1 + 1 + 1 + 1) ≠ w2.heap.size := by first | omega | (have := blk_lt Kx; have := blk_lt Kr; have := bl.size; omega)
  replace Kx : B2 w9 w2.heap.size (.int .u8 ((a.v - m.v) % 256)) (.bool (anyB [a, m])) 25 := by rw [hw9]; exact ((oth2 nnx _ _).trans Kx)
  clear nnx
  replace Kr : B2 w9 (w.heap.size + 1 + 1 + 1 + 1) (.int .u8 (nzF (setF f 1 ⟨trI (decide (m.v ≤ a.v)), anyB [a, m]⟩) ⟨(a.v - m.v) % 256, anyB [a, m]⟩).p) (.int .u8 (nzF (setF f 1 ⟨trI (decide (m.v ≤ a.v)), anyB [a, m]⟩) ⟨(a.v - m.v) % 256, anyB [a, m]⟩).s) 23 := by rw [hw9]; exact (set2 Kr _ _)
  replace bl : Below w.heap.size w w9 := by rw [hw9]; exact bs2 bl (by first | exact Nat.le_refl _ | omega | (have := bl.size; omega)) _ _
  clear hw9
  obtain ⟨cf0, zf0, cf1, zf1, nef⟩ := b2z Kf
  obtain ⟨ca0, za0, ca1, za1, nea⟩ := b2z Ka
  obtain ⟨cm0, zm0, cm1, zm1, nem⟩ := b2z Km
  obtain ⟨co0, zo0, co1, zo1, neo⟩ := b2z Ko
  obtain ⟨cr0, zr0, cr1, zr1, ner⟩ := b2z Kr
  obtain ⟨cx0, zx0, cx1, zx1, nex⟩ := b2z Kx
  refine hK.out _ _ ⟨blk_cell Kf 0, blk_cell Kf 1, blk_cell Ka 0, blk_cell Ka 1, blk_cell Km 0, blk_cell Km 1, blk_cell Kx 0, blk_cell Kx 1⟩ (fun hHeld => ?_)
  clear hK K
  refine wpAnyH_done (by kernel_rfl) (NoPanic.normal ?_) _
  go_wp2_with fail
  exact bodyPost_ret (v := .tuple #[By.V ⟨(a.v - m.v) % 256, anyB [a, m]⟩, (nzF (setF f 1 ⟨trI (decide (m.v ≤ a.v)), anyB [a, m]⟩) ⟨(a.v - m.v) % 256, anyB [a, m]⟩).V]) (by simp [results, Try.results26, go_sem, co0, co1, cr0, cr1]) rfl ⟨rfl, bl⟩
set_option maxHeartbeats 1600000 in
theorem cmp_any (f : Fl) (a m : By) (w : World) : Calls Try.prog 28 #[f.V, a.V, m.V] w fun e w' => e = .returned (nzF (setF f 1 ⟨trI (decide (m.v ≤ a.v)), anyB [a, m]⟩) ⟨(a.v - m.v) % 256, anyB [a, m]⟩).V ∧ Below w.heap.size w w' := by
  go_enter Try.func28, Try.ntmps28
  go_upto_region 1 with fail
  obtain ⟨w0, hw0⟩ : ∃ ww, ww = ((((w.alloc (.cells #[.int .u8 f.p, .int .u8 f.s] 23)).alloc (.cells #[.int .u8 a.v, .bool a.s] 25)).alloc (.cells #[.int .u8 m.v, .bool m.s] 25)).alloc (.cells #[.int .u8 0, .int .u8 0] 23)) := ⟨_, rfl⟩
  rw [← hw0]
  have Kf : B2 w0 (w.heap.size) (.int .u8 f.p) (.int .u8 f.s) 23 := by rw [hw0]; exact blk_alloc (blk_alloc (blk_alloc (blk_new' _ (by simp)) _) _) _
  have Ka : B2 w0 (w.heap.size + 1) (.int .u8 a.v) (.bool a.s) 25 := by rw [hw0]; exact blk_alloc (blk_alloc (blk_new' _ (by simp)) _) _
  have Km : B2 w0 (w.heap.size + 1 + 1) (.int .u8 m.v) (.bool m.s) 25 := by rw [hw0]; exact blk_alloc (blk_new' _ (by simp)) _
  have Kr : B2 w0 (w.heap.size + 1 + 1 + 1) (.int .u8 0) (.int .u8 0) 23 := by rw [hw0]; exact blk_new' _ (by simp)
  have qfa : w.heap.size ≠ w.heap.size + 1 := by omega
  have qfm : w.heap.size ≠ w.heap.size + 1 + 1 := by omega
  have qfr : w.heap.size ≠ w.heap.size + 1 + 1 + 1 := by omega
  have qaf : w.heap.size + 1 ≠ w.heap.size := by omega
  have qam : w.heap.size + 1 ≠ w.heap.size + 1 + 1 := by omega
  have qar : w.heap.size + 1 ≠ w.heap.size + 1 + 1 + 1 := by omega
  have qmf : w.heap.size + 1 + 1 ≠ w.heap.size := by omega
  have qma : w.heap.size + 1 + 1 ≠ w.heap.size + 1 := by omega
  have qmr : w.heap.size + 1 + 1 ≠ w.heap.size + 1 + 1 + 1 := by omega
  have qrf : w.heap.size + 1 + 1 + 1 ≠ w.heap.size := by omega
  have qra : w.heap.size + 1 + 1 + 1 ≠ w.heap.size + 1 := by omega
  have qrm : w.heap.size + 1 + 1 + 1 ≠ w.heap.size + 1 + 1 := by omega
  have bl : Below w.heap.size w w0 := by rw [hw0]; (repeat first | exact .refl _ _ | exact (Below.refl _ _).drew | refine .drew ?_ | refine .alloc ?_ (by simp <;> omega) _)
  clear hw0
  obtain ⟨cf0, zf0, cf1, zf1, nef⟩ := b2z Kf
  obtain ⟨ca0, za0, ca1, za1, nea⟩ := b2z Ka
  obtain ⟨cm0, zm0, cm1, zm1, nem⟩ := b2z Km
  obtain ⟨cr0, zr0, cr1, zr1, ner⟩ := b2z Kr
  go_wp2_with fail
  refine (sbx_any f a m _).mono ?_
  rintro e w1 ⟨rfl, b1⟩
  clear cf0 cf1 zf0 zf1 ca0 ca1 za0 za1 cm0 cm1 zm0 zm1 cr0 cr1 zr0 zr1 nef nea nem ner
  replace Kf := kp b1 Kf
  replace Ka := kp b1 Ka
  replace Km := kp b1 Km
  replace Kr := kp b1 Kr
  replace bl := bl.trans (b1.mono bl.size)
  clear b1
  obtain ⟨cf0, zf0, cf1, zf1, nef⟩ := b2z Kf
  obtain ⟨ca0, za0, ca1, za1, nea⟩ := b2z Ka
  obtain ⟨cm0, zm0, cm1, zm1, nem⟩ := b2z Km
  obtain ⟨cr0, zr0, cr1, zr1, ner⟩ := b2z Kr
  go_upto_region 2 with fail
  clear cf0 cf1 zf0 zf1 ca0 ca1 za0 za1 cm0 cm1 zm0 zm1 cr0 cr1 zr0 zr1 nef nea nem ner
  obtain ⟨w2, hw2⟩ : ∃ ww, ww = ((w1.setCell ⟨(w.heap.size), 0, none⟩ (.int .u8 (nzF (setF f 1 ⟨trI (decide (m.v ≤ a.v)), anyB [a, m]⟩) ⟨(a.v - m.v) % 256, anyB [a, m]⟩).p)).setCell ⟨(w.heap.size), 1, none⟩ (.int .u8 (nzF (setF f 1 ⟨trI (decide (m.v ≤ a.v)), anyB [a, m]⟩) ⟨(a.v - m.v) % 256, anyB [a, m]⟩).s)) := ⟨_, rfl⟩
  rw [← hw2]
  have nna : (w.heap.size) ≠ (w.heap.size + 1) := by first | omega | (have := blk_lt Ka; have := blk_lt Kf; have := bl.size; omega)
  replace Ka : B2 w2 (w.heap.size + 1) (.int .u8 a.v) (.bool a.s) 25 := by rw [hw2]; exact ((oth2 nna _ _).trans Ka)
  clear nna
  have nnm : (w.heap.size) ≠ (w.heap.size + 1 + 1) := by first | omega | (have := blk_lt Km; have := blk_lt Kf; have := bl.size; omega)
  replace Km : B2 w2 (w.heap.size + 1 + 1) (.int .u8 m.v) (.bool m.s) 25 := by rw [hw2]; exact ((oth2 nnm _ _).trans Km)
  clear nnm
  have nnr : (w.heap.size) ≠ (w.heap.size + 1 + 1 + 1) := by first | omega | (have := blk_lt Kr; have := blk_lt Kf; have := bl.size; omega)
  replace Kr : B2 w2 (w.heap.size + 1 + 1 + 1) (.int .u8 0) (.int .u8 0) 23 := by rw [hw2]; exact ((oth2 nnr _ _).trans Kr)
  clear nnr
  replace Kf : B2 w2 (w.heap.size) (.int .u8 (nzF (setF f 1 ⟨trI (decide (m.v ≤ a.v)), anyB [a, m]⟩) ⟨(a.v - m.v) % 256, anyB [a, m]⟩).p) (.int .u8 (nzF (setF f 1 ⟨trI (decide (m.v ≤ a.v)), anyB [a, m]⟩) ⟨(a.v - m.v) % 256, anyB [a, m]⟩).s) 23 := by rw [hw2]; exact (set2 Kf _ _)
  replace bl : Below w.heap.size w w2 := by rw [hw2]; exact bs2 bl (by first | exact Nat.le_refl _ | omega | (have := bl.size; omega)) _ _
  clear hw2
  obtain ⟨cf0, zf0, cf1, zf1, nef⟩ := b2z Kf
  obtain ⟨ca0, za0, ca1, za1, nea⟩ := b2z Ka
  obtain ⟨cm0, zm0, cm1, zm1, nem⟩ := b2z Km
  obtain ⟨cr0, zr0, cr1, zr1, ner⟩ := b2z Kr
  go_wp2_with fail
  clear cf0 cf1 zf0 zf1 ca0 ca1 za0 za1 cm0 cm1 zm0 zm1 cr0 cr1 zr0 zr1 nef nea nem ner
  obtain ⟨w3, hw3⟩ : ∃ ww, ww = ((w2.setCell ⟨(w.heap.size + 1 + 1 + 1), 0, none⟩ (.int .u8 (nzF (setF f 1 ⟨trI (decide (m.v ≤ a.v)), anyB [a, m]⟩) ⟨(a.v - m.v) % 256, anyB [a, m]⟩).p)).setCell ⟨(w.heap.size + 1 + 1 + 1), 1, none⟩ (.int .u8 (nzF (setF f 1 ⟨trI (decide (m.v ≤ a.v)), anyB [a, m]⟩) ⟨(a.v - m.v) % 256, anyB [a, m]⟩).s)) := ⟨_, rfl⟩
  rw [← hw3]
  have nnf : (w.heap.size + 1 + 1 + 1) ≠ (w.heap.size) := by first | omega | (have := blk_lt Kf; have := blk_lt Kr; have := bl.size; omega)
  replace Kf : B2 w3 (w.heap.size) (.int .u8 (nzF (setF f 1 ⟨trI (decide (m.v ≤ a.v)), anyB [a, m]⟩) ⟨(a.v - m.v) % 256, anyB [a, m]⟩).p) (.int .u8 (nzF (setF f 1 ⟨trI (decide (m.v ≤ a.v)), anyB [a, m]⟩) ⟨(a.v - m.v) % 256, anyB [a, m]⟩).s) 23 := by rw [hw3]; exact ((oth2 nnf _ _).trans Kf)
  clear nnf
  have nna : (w.heap.size + 1 + 1 + 1) ≠ (w.heap.size + 1) := by first | omega | (have := blk_lt Ka; have := blk_lt Kr; have := bl.size; omega)
  replace Ka : B2 w3 (w.heap.size + 1) (.int .u8 a.v) (.bool a.s) 25 := by rw [hw3]; exact ((oth2 nna _ _).trans Ka)
  clear nna
  have nnm : (w.heap.size + 1 + 1 + 1) ≠ (w.heap.size + 1 + 1) := by first | omega | (have := blk_lt Km; have := blk_lt Kr; have := bl.size; omega)
  replace Km : B2 w3 (w.heap.size + 1 + 1) (.int .u8 m.v) (.bool m.s) 25 := by rw [hw3]; exact ((oth2 nnm _ _).trans Km)
  clear nnm
  replace Kr : B2 w3 (w.heap.size + 1 + 1 + 1) (.int .u8 (nzF (setF f 1 ⟨trI (decide (m.v ≤ a.v)), anyB [a, m]⟩) ⟨(a.v - m.v) % 256, anyB [a, m]⟩).p) (.int .u8 (nzF (setF f 1 ⟨trI (decide (m.v ≤ a.v)), anyB [a, m]⟩) ⟨(a.v - m.v) % 256, anyB [a, m]⟩).s) 23 := by rw [hw3]; exact (set2 Kr _ _)
  replace bl : Below w.heap.size w w3 := by rw [hw3]; exact bs2 bl (by first | exact Nat.le_refl _ | omega | (have := bl.size; omega)) _ _
  clear hw3
  obtain ⟨cf0, zf0, cf1, zf1, nef⟩ := b2z Kf
  obtain ⟨ca0, za0, ca1, za1, nea⟩ := b2z Ka
  obtain ⟨cm0, zm0, cm1, zm1, nem⟩ := b2z Km
  obtain ⟨cr0, zr0, cr1, zr1, ner⟩ := b2z Kr
  exact bodyPost_ret (v := (nzF (setF f 1 ⟨trI (decide (m.v ≤ a.v)), anyB [a, m]⟩) ⟨(a.v - m.v) % 256, anyB [a, m]⟩).V) (by simp [results, Try.results28, go_sem, cr0, cr1]) rfl ⟨rfl, bl⟩
set_option maxHeartbeats 1600000 in
theorem bitop_any (f : Fl) (a m : By) (w : World) : Calls Try.prog 29 #[f.V, a.V, m.V] w fun e w' => e = .returned (setF (setF (setF f 2 ⟨trI ((bits BinOp.and IntKind.u8 a.v m.v) == 0), anyB [⟨bits BinOp.and IntKind.u8 a.v m.v, anyB [a, m]⟩]⟩) 128 (lbF m (m.v / 128))) 64 (lbF m (m.v / 64))).V ∧ Below w.heap.size w w' := by
  go_enter Try.func29, Try.ntmps29
  go_upto_region 1 with fail
  obtain ⟨w0, hw0⟩ : ∃ ww, ww = ((((w.alloc (.cells #[.int .u8 f.p, .int .u8 f.s] 23)).alloc (.cells #[.int .u8 a.v, .bool a.s] 25)).alloc (.cells #[.int .u8 m.v, .bool m.s] 25)).alloc (.cells #[.int .u8 0, .int .u8 0] 23)) := ⟨_, rfl⟩
  rw [← hw0]
  have Kf : B2 w0 (w.heap.size) (.int .u8 f.p) (.int .u8 f.s) 23 := by rw [hw0]; exact blk_alloc (blk_alloc (blk_alloc (blk_new' _ (by simp)) _) _) _
  have Ka : B2 w0 (w.heap.size + 1) (.int .u8 a.v) (.bool a.s) 25 := by rw [hw0]; exact blk_alloc (blk_alloc (blk_new' _ (by simp)) _) _
  have Km : B2 w0 (w.heap.size + 1 + 1) (.int .u8 m.v) (.bool m.s) 25 := by rw [hw0]; exact blk_alloc (blk_new' _ (by simp)) _
  have Kr : B2 w0 (w.heap.size + 1 + 1 + 1) (.int .u8 0) (.int .u8 0) 23 := by rw [hw0]; exact blk_new' _ (by simp)
  have qfa : w.heap.size ≠ w.heap.size + 1 := by omega
  have qfm : w.heap.size ≠ w.heap.size + 1 + 1 := by omega
  have qfr : w.heap.size ≠ w.heap.size + 1 + 1 + 1 := by omega
  have qaf : w.heap.size + 1 ≠ w.heap.size := by omega
  have qam : w.heap.size + 1 ≠ w.heap.size + 1 + 1 := by omega
  have qar : w.heap.size + 1 ≠ w.heap.size + 1 + 1 + 1 := by omega
  have qmf : w.heap.size + 1 + 1 ≠ w.heap.size := by omega
  have qma : w.heap.size + 1 + 1 ≠ w.heap.size + 1 := by omega
  have qmr : w.heap.size + 1 + 1 ≠ w.heap.size + 1 + 1 + 1 := by omega
  have qrf : w.heap.size + 1 + 1 + 1 ≠ w.heap.size := by omega
  have qra : w.heap.size + 1 + 1 + 1 ≠ w.heap.size + 1 := by omega
  have qrm : w.heap.size + 1 + 1 + 1 ≠ w.heap.size + 1 + 1 := by omega
  have bl : Below w.heap.size w w0 := by rw [hw0]; (repeat first | exact .refl _ _ | exact (Below.refl _ _).drew | refine .drew ?_ | refine .alloc ?_ (by simp <;> omega) _)
  clear hw0
  obtain ⟨cf0, zf0, cf1, zf1, nef⟩ := b2z Kf
  obtain ⟨ca0, za0, ca1, za1, nea⟩ := b2z Ka
  obtain ⟨cm0, zm0, cm1, zm1, nem⟩ := b2z Km
  obtain ⟨cr0, zr0, cr1, zr1, ner⟩ := b2z Kr
  go_wp2_with fail
  refine (and_any a m _).mono ?_
  rintro e w1 ⟨rfl, b1⟩
  clear cf0 cf1 zf0 zf1 ca0 ca1 za0 za1 cm0 cm1 zm0 zm1 cr0 cr1 zr0 zr1 nef nea nem ner
  replace Kf := kp b1 Kf
  replace Ka := kp b1 Ka
  replace Km := kp b1 Km
  replace Kr := kp b1 Kr
  replace bl := bl.trans (b1.mono bl.size)
  clear b1
  obtain ⟨cf0, zf0, cf1, zf1, nef⟩ := b2z Kf
  obtain ⟨ca0, za0, ca1, za1, nea⟩ := b2z Ka
  obtain ⟨cm0, zm0, cm1, zm1, nem⟩ := b2z Km
  obtain ⟨cr0, zr0, cr1, zr1, ner⟩ := b2z Kr
  go_upto_region 2 with fail
  have qfx : (w.heap.size) ≠ w1.heap.size := by have := blk_lt Kf; omega
  have qxf := qfx.symm
  have qax : (w.heap.size + 1) ≠ w1.heap.size := by have := blk_lt Ka; omega
  have qxa := qax.symm
  have qmx : (w.heap.size + 1 + 1) ≠ w1.heap.size := by have := blk_lt Km; omega
  have qxm := qmx.symm
  have qrx : (w.heap.size + 1 + 1 + 1) ≠ w1.heap.size := by have := blk_lt Kr; omega
  have qxr := qrx.symm
  obtain ⟨w2, hw2⟩ : ∃ ww, ww = (w1.alloc (.cells #[.int .u8 (bits BinOp.and IntKind.u8 a.v m.v), .bool (anyB [a, m])] 25)) := ⟨_, rfl⟩
  rw [← hw2]
  have b2 : Below w1.heap.size w1 w2 := by rw [hw2]; (repeat first | exact .refl _ _ | exact (Below.refl _ _).drew | refine .drew ?_ | refine .alloc ?_ (by simp <;> omega) _)
  have Kx : B2 w2 w1.heap.size (.int .u8 (bits BinOp.and IntKind.u8 a.v m.v)) (.bool (anyB [a, m])) 25 := by rw [hw2]; exact blk_new _ _
  clear hw2
  clear cf0 cf1 zf0 zf1 ca0 ca1 za0 za1 cm0 cm1 zm0 zm1 cr0 cr1 zr0 zr1 nef nea nem ner
  replace Kf := kp b2 Kf
  replace Ka := kp b2 Ka
  replace Km := kp b2 Km
  replace Kr := kp b2 Kr
  replace bl := bl.trans (b2.mono bl.size)
  clear b2
  obtain ⟨cf0, zf0, cf1, zf1, nef⟩ := b2z Kf
  obtain ⟨ca0, za0, ca1, za1, nea⟩ := b2z Ka
  obtain ⟨cm0, zm0, cm1, zm1, nem⟩ := b2z Km
  obtain ⟨cr0, zr0, cr1, zr1, ner⟩ := b2z Kr
  obtain ⟨cx0, zx0, cx1, zx1, nex⟩ := b2z Kx
  refine wp_region_noPanic ?_
  refine wp_region_held_drew (S := (fun w' => w'.cell? ⟨w1.heap.size, 0, none⟩ = some (.int .u8 (bits BinOp.and IntKind.u8 a.v m.v)) ∧ w'.cell? ⟨w1.heap.size, 1, none⟩ = some (.bool (anyB [a, m])))) (by kernel_rfl) ⟨blk_cell Kx 0, blk_cell Kx 1⟩ (fun hHeld => ?_)
  refine tk 1 (v := ?_) rfl ?_ ?_; rotate_left; (focus (intro w hSw; (try dsimp only at hSw); go_simp; with_reducible rfl)); simp only [Act.put, tA, tB, tC]
  refine tk 2 (v := ?_) rfl ?_ ?_; rotate_left; (focus (intro w hSw; (try dsimp only at hSw); go_simp; with_reducible rfl)); simp only [Act.put, tA, tB, tC]
  refine tk 3 (v := ?_) rfl ?_ ?_; rotate_left; (focus (intro w hSw; (try dsimp only at hSw); go_simp; with_reducible rfl)); simp only [Act.put, tA, tB, tC]
  refine tk 4 (v := ?_) rfl ?_ ?_; rotate_left; (focus (intro w hSw; (try dsimp only at hSw); go_simp; with_reducible rfl)); simp only [Act.put, tA, tB, tC]
  refine wpAnyH_ready (rs := [0, 5]) (by kernel_rfl) (by simp) ?_
  refine AllReadyH.cons (o := ⟨_, _, _, _, _, _⟩) rfl (fun K hK => ?_) (AllReadyH.cons (o := ⟨_, _, _, _, _, _⟩) rfl (fun K hK => ?_) (AllReadyH.nil))
  · go_simp
    refine hK.out _ _ ⟨blk_cell Kx 0, blk_cell Kx 1⟩ (fun hHeld => ?_)
    clear hK K
    refine wpAnyH_ready (rs := [5]) (by kernel_rfl) (by simp) ?_
    refine AllReadyH.cons (o := ⟨_, _, _, _, _, _⟩) rfl (fun K hK => ?_) (AllReadyH.nil)
    go_simp
    obtain ⟨w3, hw3⟩ : ∃ ww, ww = (w2.alloc (.cells #[.int .u8 (⟨bits BinOp.and IntKind.u8 a.v m.v, anyB [a, m]⟩ : By).v, .bool (⟨bits BinOp.and IntKind.u8 a.v m.v, anyB [a, m]⟩ : By).s] 25)).drew := ⟨_, rfl⟩
    rw [← hw3]
    have b3 : Below w2.heap.size w2 w3 := by rw [hw3]; (repeat first | exact .refl _ _ | exact (Below.refl _ _).drew | refine .drew ?_ | refine .alloc ?_ (by simp <;> omega) _)
    have Rl : ByAt w3 (some ⟨w2.heap.size, 0, none⟩) [(⟨bits BinOp.and IntKind.u8 a.v m.v, anyB [a, m]⟩ : By)] := by rw [hw3]; exact (byAt1 _ _ (⟨bits BinOp.and IntKind.u8 a.v m.v, anyB [a, m]⟩ : By)).below (Below.refl _ _).drew
    clear hw3
    clear cf0 cf1 zf0 zf1 ca0 ca1 za0 za1 cm0 cm1 zm0 zm1 cr0 cr1 zr0 zr1 cx0 cx1 zx0 zx1 nef nea nem ner nex
    replace Kf := kp b3 Kf
    replace Ka := kp b3 Ka
    replace Km := kp b3 Km
    replace Kr := kp b3 Kr
    replace Kx := kp b3 Kx
    replace bl := bl.trans (b3.mono bl.size)
    clear b3
    obtain ⟨cf0, zf0, cf1, zf1, nef⟩ := b2z Kf
    obtain ⟨ca0, za0, ca1, za1, nea⟩ := b2z Ka
    obtain ⟨cm0, zm0, cm1, zm1, nem⟩ := b2z Km
    obtain ⟨cr0, zr0, cr1, zr1, ner⟩ := b2z Kr
    obtain ⟨cx0, zx0, cx1, zx1, nex⟩ := b2z Kx
    refine hK.out _ _ ⟨blk_cell Kx 0, blk_cell Kx 1⟩ (fun hHeld => ?_)
    clear hK K
    refine wpAnyH_ready (rs := [6]) (by kernel_rfl) (by simp) ?_
    refine AllReadyH.cons (o := ⟨_, _, _, _, _, _⟩) rfl (fun K hK => ?_) (AllReadyH.nil)
    go_simp
    refine (truth_any _ [⟨bits BinOp.and IntKind.u8 a.v m.v, anyB [a, m]⟩] _ 1 _ rfl (by omega) Rl).mono ?_
    rintro e w4 ⟨rfl, b4⟩
    clear cf0 cf1 zf0 zf1 ca0 ca1 za0 za1 cm0 cm1 zm0 zm1 cr0 cr1 zr0 zr1 cx0 cx1 zx0 zx1 nef nea nem ner nex
    replace Kf := kp b4 Kf
    replace Ka := kp b4 Ka
    replace Km := kp b4 Km
    replace Kr := kp b4 Kr
    replace Kx := kp b4 Kx
    replace Rl := Rl.below b4
    replace bl := bl.trans (b4.mono bl.size)
    clear b4
    obtain ⟨cf0, zf0, cf1, zf1, nef⟩ := b2z Kf
    obtain ⟨ca0, za0, ca1, za1, nea⟩ := b2z Ka
    obtain ⟨cm0, zm0, cm1, zm1, nem⟩ := b2z Km
    obtain ⟨cr0, zr0, cr1, zr1, ner⟩ := b2z Kr
    obtain ⟨cx0, zx0, cx1, zx1, nex⟩ := b2z Kx
    refine hK.out _ _ ⟨blk_cell Kx 0, blk_cell Kx 1⟩ (fun hHeld => ?_)
    clear hK K
    refine wpAnyH_ready (rs := [7]) (by kernel_rfl) (by simp) ?_
    refine AllReadyH.cons (o := ⟨_, _, _, _, _, _⟩) rfl (fun K hK => ?_) (AllReadyH.nil)
    go_simp
    refine (set_any f 2 ⟨trI ((bits BinOp.and IntKind.u8 a.v m.v) == 0), anyB [⟨bits BinOp.and IntKind.u8 a.v m.v, anyB [a, m]⟩]⟩ _).mono ?_
    rintro e w5 ⟨rfl, b5⟩
    clear cf0 cf1 zf0 zf1 ca0 ca1 za0 za1 cm0 cm1 zm0 zm1 cr0 cr1 zr0 zr1 cx0 cx1 zx0 zx1 nef nea nem ner nex
    replace Kf := kp b5 Kf
    replace Ka := kp b5 Ka
    replace Km := kp b5 Km
    replace Kr := kp b5 Kr
    replace Kx := kp b5 Kx
    replace Rl := Rl.below b5
    replace bl := bl.trans (b5.mono bl.size)
    clear b5
    obtain ⟨cf0, zf0, cf1, zf1, nef⟩ := b2z Kf
    obtain ⟨ca0, za0, ca1, za1, nea⟩ := b2z Ka
    obtain ⟨cm0, zm0, cm1, zm1, nem⟩ := b2z Km
    obtain ⟨cr0, zr0, cr1, zr1, ner⟩ := b2z Kr
    obtain ⟨cx0, zx0, cx1, zx1, nex⟩ := b2z Kx
    refine hK.out _ _ ⟨blk_cell Kx 0, blk_cell Kx 1⟩ (fun hHeld => ?_)
    clear hK K
    refine wpAnyH_ready (rs := [8]) (by kernel_rfl) (by simp) ?_
    refine AllReadyH.cons (o := ⟨_, _, _, _, _, _⟩) rfl (fun K hK => ?_) (AllReadyH.nil)
    go_simp
    clear cf0 cf1 zf0 zf1 ca0 ca1 za0 za1 cm0 cm1 zm0 zm1 cr0 cr1 zr0 zr1 cx0 cx1 zx0 zx1 nef nea nem ner nex
    clear Rl
    obtain ⟨w6, hw6⟩ : ∃ ww, ww = ((w5.setCell ⟨(w.heap.size), 0, none⟩ (.int .u8 (setF f 2 ⟨trI ((bits BinOp.and IntKind.u8 a.v m.v) == 0), anyB [⟨bits BinOp.and IntKind.u8 a.v m.v, anyB [a, m]⟩]⟩).p)).setCell ⟨(w.heap.size), 1, none⟩ (.int .u8 (setF f 2 ⟨trI ((bits BinOp.and IntKind.u8 a.v m.v) == 0), anyB [⟨bits BinOp.and IntKind.u8 a.v m.v, anyB [a, m]⟩]⟩).s)) := ⟨_, rfl⟩
    rw [← hw6]
    have nna : (w.heap.size) ≠ (w.heap.size + 1) := by first | omega | (have := blk_lt Ka; have := blk_lt Kf; have := bl.size; omega)
    replace Ka : B2 w6 (w.heap.size + 1) (.int .u8 a.v) (.bool a.s) 25 := by rw [hw6]; exact ((oth2 nna _ _).trans Ka)
    clear nna
    have nnm : (w.heap.size) ≠ (w.heap.size + 1 + 1) := by first | omega | (have := blk_lt Km; have := blk_lt Kf; have := bl.size; omega)
    replace Km : B2 w6 (w.heap.size + 1 + 1) (.int .u8 m.v) (.bool m.s) 25 := by rw [hw6]; exact ((oth2 nnm _ _).trans Km)
    clear nnm
    have nnr : (w.heap.size) ≠ (w.heap.size + 1 + 1 + 1) := by first | omega | (have := blk_lt Kr; have := blk_lt Kf; have := bl.size; omega)
    replace Kr : B2 w6 (w.heap.size + 1 + 1 + 1) (.int .u8 0) (.int .u8 0) 23 := by rw [hw6]; exact ((oth2 nnr _ _).trans Kr)
    clear nnr
    have nnx : (w.heap.size) ≠ w1.heap.size := by first | omega | (have := blk_lt Kx; have := blk_lt Kf; have := bl.size; omega)
    replace Kx : B2 w6 w1.heap.size (.int .u8 (bits BinOp.and IntKind.u8 a.v m.v)) (.bool (anyB [a, m])) 25 := by rw [hw6]; exact ((oth2 nnx _ _).trans Kx)
    clear nnx
    replace Kf : B2 w6 (w.heap.size) (.int .u8 (setF f 2 ⟨trI ((bits BinOp.and IntKind.u8 a.v m.v) == 0), anyB [⟨bits BinOp.and IntKind.u8 a.v m.v, anyB [a, m]⟩]⟩).p) (.int .u8 (setF f 2 ⟨trI ((bits BinOp.and IntKind.u8 a.v m.v) == 0), anyB [⟨bits BinOp.and IntKind.u8 a.v m.v, anyB [a, m]⟩]⟩).s) 23 := by rw [hw6]; exact (set2 Kf _ _)
    replace bl : Below w.heap.size w w6 := by rw [hw6]; exact bs2 bl (by first | exact Nat.le_refl _ | omega | (have := bl.size; omega)) _ _
    clear hw6
    obtain ⟨cf0, zf0, cf1, zf1, nef⟩ := b2z Kf
    obtain ⟨ca0, za0, ca1, za1, nea⟩ := b2z Ka
    obtain ⟨cm0, zm0, cm1, zm1, nem⟩ := b2z Km
    obtain ⟨cr0, zr0, cr1, zr1, ner⟩ := b2z Kr
    obtain ⟨cx0, zx0, cx1, zx1, nex⟩ := b2z Kx
    refine hK.out _ _ ⟨blk_cell Kx 0, blk_cell Kx 1⟩ (fun hHeld => ?_)
    clear hK K
    refine wpAnyH_done (by kernel_rfl) (NoPanic.normal ?_) _
    go_upto_region 3 with fail
    refine wp_region_noPanic ?_
    refine wp_region_held_drew (S := (fun w' => w'.cell? ⟨(w.heap.size), 0, none⟩ = some (.int .u8 (setF f 2 ⟨trI ((bits BinOp.and IntKind.u8 a.v m.v) == 0), anyB [⟨bits BinOp.and IntKind.u8 a.v m.v, anyB [a, m]⟩]⟩).p) ∧ w'.cell? ⟨(w.heap.size), 1, none⟩ = some (.int .u8 (setF f 2 ⟨trI ((bits BinOp.and IntKind.u8 a.v m.v) == 0), anyB [⟨bits BinOp.and IntKind.u8 a.v m.v, anyB [a, m]⟩]⟩).s) ∧ w'.cell? ⟨(w.heap.size + 1 + 1), 0, none⟩ = some (.int .u8 m.v) ∧ w'.cell? ⟨(w.heap.size + 1 + 1), 1, none⟩ = some (.bool m.s))) (by kernel_rfl) ⟨blk_cell Kf 0, blk_cell Kf 1, blk_cell Km 0, blk_cell Km 1⟩ (fun hHeld => ?_)
    refine tk 0 (v := ?_) rfl ?_ ?_; rotate_left; (focus (intro w hSw; (try dsimp only at hSw); go_simp; with_reducible rfl)); simp only [Act.put, tA, tB, tC]
    refine tk 1 (v := ?_) rfl ?_ ?_; rotate_left; (focus (intro w hSw; (try dsimp only at hSw); go_simp; with_reducible rfl)); simp only [Act.put, tA, tB, tC]
    refine tk 4 (v := ?_) rfl ?_ ?_; rotate_left; (focus (intro w hSw; (try dsimp only at hSw); go_simp; with_reducible rfl)); simp only [Act.put, tA, tB, tC]
    refine wpAnyH_ready (rs := [2]) (by kernel_rfl) (by simp) ?_
    refine AllReadyH.cons (o := ⟨_, _, _, _, _, _⟩) rfl (fun K hK => ?_) (AllReadyH.nil)
    go_simp
    refine (lbit7 m _).mono ?_
    rintro e w7 ⟨rfl, b7⟩
    replace b7 : Below w6.heap.size w6 w7 := (Below.refl _ _).drew.trans b7
    clear cf0 cf1 zf0 zf1 ca0 ca1 za0 za1 cm0 cm1 zm0 zm1 cr0 cr1 zr0 zr1 cx0 cx1 zx0 zx1 nef nea nem ner nex
    replace Kf := kp b7 Kf
    replace Ka := kp b7 Ka
    replace Km := kp b7 Km
    replace Kr := kp b7 Kr
    replace Kx := kp b7 Kx
    replace bl := bl.trans (b7.mono bl.size)
    clear b7
    obtain ⟨cf0, zf0, cf1, zf1, nef⟩ := b2z Kf
    obtain ⟨ca0, za0, ca1, za1, nea⟩ := b2z Ka
    obtain ⟨cm0, zm0, cm1, zm1, nem⟩ := b2z Km
    obtain ⟨cr0, zr0, cr1, zr1, ner⟩ := b2z Kr
    obtain ⟨cx0, zx0, cx1, zx1, nex⟩ := b2z Kx
    refine hK.out _ _ ⟨blk_cell Kf 0, blk_cell Kf 1, blk_cell Km 0, blk_cell Km 1⟩ (fun hHeld => ?_)
    clear hK K
    refine wpAnyH_ready (rs := [3]) (by kernel_rfl) (by simp) ?_
    refine AllReadyH.cons (o := ⟨_, _, _, _, _, _⟩) rfl (fun K hK => ?_) (AllReadyH.nil)
    go_simp
    refine (set_any (setF f 2 ⟨trI ((bits BinOp.and IntKind.u8 a.v m.v) == 0), anyB [⟨bits BinOp.and IntKind.u8 a.v m.v, anyB [a, m]⟩]⟩) 128 (lbF m (m.v / 128)) _).mono ?_
    rintro e w8 ⟨rfl, b8⟩
    clear cf0 cf1 zf0 zf1 ca0 ca1 za0 za1 cm0 cm1 zm0 zm1 cr0 cr1 zr0 zr1 cx0 cx1 zx0 zx1 nef nea nem ner nex
    replace Kf := kp b8 Kf
    replace Ka := kp b8 Ka
    replace Km := kp b8 Km
    replace Kr := kp b8 Kr
    replace Kx := kp b8 Kx
    replace bl := bl.trans (b8.mono bl.size)
    clear b8
    obtain ⟨cf0, zf0, cf1, zf1, nef⟩ := b2z Kf
    obtain ⟨ca0, za0, ca1, za1, nea⟩ := b2z Ka
    obtain ⟨cm0, zm0, cm1, zm1, nem⟩ := b2z Km
    obtain ⟨cr0, zr0, cr1, zr1, ner⟩ := b2z Kr
    obtain ⟨cx0, zx0, cx1, zx1, nex⟩ := b2z Kx
    refine hK.out _ _ ⟨blk_cell Kf 0, blk_cell Kf 1, blk_cell Km 0, blk_cell Km 1⟩ (fun hHeld => ?_)
    clear hK K
    refine wpAnyH_ready (rs := [5]) (by kernel_rfl) (by simp) ?_
    refine AllReadyH.cons (o := ⟨_, _, _, _, _, _⟩) rfl (fun K hK => ?_) (AllReadyH.nil)
    go_simp
    refine (lbit6 m _).mono ?_
    rintro e w9 ⟨rfl, b9⟩
    clear cf0 cf1 zf0 zf1 ca0 ca1 za0 za1 cm0 cm1 zm0 zm1 cr0 cr1 zr0 zr1 cx0 cx1 zx0 zx1 nef nea nem ner nex
    replace Kf := kp b9 Kf
    replace Ka := kp b9 Ka
    replace Km := kp b9 Km
    replace Kr := kp b9 Kr
    replace Kx := kp b9 Kx
    replace bl := bl.trans (b9.mono bl.size)
    clear b9
    obtain ⟨cf0, zf0, cf1, zf1, nef⟩ := b2z Kf
    obtain ⟨ca0, za0, ca1, za1, nea⟩ := b2z Ka
    obtain ⟨cm0, zm0, cm1, zm1, nem⟩ := b2z Km
    obtain ⟨cr0, zr0, cr1, zr1, ner⟩ := b2z Kr
    obtain ⟨cx0, zx0, cx1, zx1, nex⟩ := b2z Kx
    refine hK.out _ _ ⟨blk_cell Kf 0, blk_cell Kf 1, blk_cell Km 0, blk_cell Km 1⟩ (fun hHeld => ?_)
    clear hK K
    refine wpAnyH_ready (rs := [6]) (by kernel_rfl) (by simp) ?_
    refine AllReadyH.cons (o := ⟨_, _, _, _, _, _⟩) rfl (fun K hK => ?_) (AllReadyH.nil)
    go_simp
    refine (set_any (setF (setF f 2 ⟨trI ((bits BinOp.and IntKind.u8 a.v m.v) == 0), anyB [⟨bits BinOp.and IntKind.u8 a.v m.v, anyB [a, m]⟩]⟩) 128 (lbF m (m.v / 128))) 64 (lbF m (m.v / 64)) _).mono ?_
    rintro e w10 ⟨rfl, b10⟩
    clear cf0 cf1 zf0 zf1 ca0 ca1 za0 za1 cm0 cm1 zm0 zm1 cr0 cr1 zr0 zr1 cx0 cx1 zx0 zx1 nef nea nem ner nex
    replace Kf := kp b10 Kf
    replace Ka := kp b10 Ka
    replace Km := kp b10 Km
    replace Kr := kp b10 Kr
    replace Kx := kp b10 Kx
    replace bl := bl.trans (b10.mono bl.size)
    clear b10
    obtain ⟨cf0, zf0, cf1, zf1, nef⟩ := b2z Kf
    obtain ⟨ca0, za0, ca1, za1, nea⟩ := b2z Ka
    obtain ⟨cm0, zm0, cm1, zm1, nem⟩ := b2z Km
    obtain ⟨cr0, zr0, cr1, zr1, ner⟩ := b2z Kr
    obtain ⟨cx0, zx0, cx1, zx1, nex⟩ := b2z Kx
    refine hK.out _ _ ⟨blk_cell Kf 0, blk_cell Kf 1, blk_cell Km 0, blk_cell Km 1⟩ (fun hHeld => ?_)
    clear hK K
    refine wpAnyH_ready (rs := [7]) (by kernel_rfl) (by simp) ?_
    refine AllReadyH.cons (o := ⟨_, _, _, _, _, _⟩) rfl (fun K hK => ?_) (AllReadyH.nil)
    go_simp
    clear cf0 cf1 zf0 zf1 ca0 ca1 za0 za1 cm0 cm1 zm0 zm1 cr0 cr1 zr0 zr1 cx0 cx1 zx0 zx1 nef nea nem ner nex
    obtain ⟨w11, hw11⟩ : ∃ ww, ww = ((w10.setCell ⟨(w.heap.size + 1 + 1 + 1), 0, none⟩ (.int .u8 (setF (setF (setF f 2 ⟨trI ((bits BinOp.and IntKind.u8 a.v m.v) == 0), anyB [⟨bits BinOp.and IntKind.u8 a.v m.v, anyB [a, m]⟩]⟩) 128 (lbF m (m.v / 128))) 64 (lbF m (m.v / 64))).p)).setCell ⟨(w.heap.size + 1 + 1 + 1), 1, none⟩ (.int .u8 (setF (setF (setF f 2 ⟨trI ((bits BinOp.and IntKind.u8 a.v m.v) == 0), anyB [⟨bits BinOp.and IntKind.u8 a.v m.v, anyB [a, m]⟩]⟩) 128 (lbF m (m.v / 128))) 64 (lbF m (m.v / 64))).s)) := ⟨_, rfl⟩
    rw [← hw11]
    have nnf : (w.heap.size + 1 + 1 + 1) ≠ (w.heap.size) := by first | omega | (have := blk_lt Kf; have := blk_lt Kr; have := bl.size; omega)
    replace Kf : B2 w11 (w.heap.size) (.int .u8 (setF f 2 ⟨trI ((bits BinOp.and IntKind.u8 a.v m.v) == 0), anyB [⟨bits BinOp.and IntKind.u8 a.v m.v, anyB [a, m]⟩]⟩).p) (.int .u8 (setF f 2 ⟨trI ((bits BinOp.and IntKind.u8 a.v m.v) == 0), anyB [⟨bits BinOp.and IntKind.u8 a.v m.v, anyB [a, m]⟩]⟩).s) 23 := by rw [hw11]; exact ((oth2 nnf _ _).trans Kf)
    clear nnf
    have nna : (w.heap.size + 1 + 1 + 1) ≠ (w.heap.size + 1) := by first | omega | (have := blk_lt Ka; have := blk_lt Kr; have := bl.size; omega)
    replace Ka : B2 w11 (w.heap.size + 1) (.int .u8 a.v) (.bool a.s) 25 := by rw [hw11]; exact ((oth2 nna _ _).trans Ka)
    clear nna
    have nnm : (w.heap.size + 1 + 1 + 1) ≠ (w.heap.size + 1 + 1) := by first | omega | (have := blk_lt Km; have := blk_lt Kr; have := bl.size; omega)
    replace Km : B2 w11 (w.heap.size + 1 + 1) (.int .u8 m.v) (.bool m.s) 25 := by rw [hw11]; exact ((oth2 nnm _ _).trans Km)
    clear nnm
    have nnx : (w.heap.size + 1 + 1 + 1) ≠ w1.heap.size := by first | omega | (have := blk_lt Kx; have := blk_lt Kr; have := bl.size; omega)
    replace Kx : B2 w11 w1.heap.size (.int .u8 (bits BinOp.and IntKind.u8 a.v m.v)) (.bool (anyB [a, m])) 25 := by rw [hw11]; exact ((oth2 nnx _ _).trans Kx)
    clear nnx
    replace Kr : B2 w11 (w.heap.size + 1 + 1 + 1) (.int .u8 (setF (setF (setF f 2 ⟨trI ((bits BinOp.and IntKind.u8 a.v m.v) == 0), anyB [⟨bits BinOp.and IntKind.u8 a.v m.v, anyB [a, m]⟩]⟩) 128 (lbF m (m.v / 128))) 64 (lbF m (m.v / 64))).p) (.int .u8 (setF (setF (setF f 2 ⟨trI ((bits BinOp.and IntKind.u8 a.v m.v) == 0), anyB [⟨bits BinOp.and IntKind.u8 a.v m.v, anyB [a, m]⟩]⟩) 128 (lbF m (m.v / 128))) 64 (lbF m (m.v / 64))).s) 23 := by rw [hw11]; exact (set2 Kr _ _)
    replace bl : Below w.heap.size w w11 := by rw [hw11]; exact bs2 bl (by first | exact Nat.le_refl _ | omega | (have := bl.size; omega)) _ _
    clear hw11
    obtain ⟨cf0, zf0, cf1, zf1, nef⟩ := b2z Kf
    obtain ⟨ca0, za0, ca1, za1, nea⟩ := b2z Ka
    obtain ⟨cm0, zm0, cm1, zm1, nem⟩ := b2z Km
    obtain ⟨cr0, zr0, cr1, zr1, ner⟩ := b2z Kr
    obtain ⟨cx0, zx0, cx1, zx1, nex⟩ := b2z Kx
    refine hK.out _ _ ⟨blk_cell Kf 0, blk_cell Kf 1, blk_cell Km 0, blk_cell Km 1⟩ (fun hHeld => ?_)
    clear hK K
    refine wpAnyH_done (by kernel_rfl) (NoPanic.normal ?_) _
    go_wp2_with fail
    exact bodyPost_ret (v := (setF (setF (setF f 2 ⟨trI ((bits BinOp.and IntKind.u8 a.v m.v) == 0), anyB [⟨bits BinOp.and IntKind.u8 a.v m.v, anyB [a, m]⟩]⟩) 128 (lbF m (m.v / 128))) 64 (lbF m (m.v / 64))).V) (by simp [results, Try.results29, go_sem, cr0, cr1]) rfl ⟨rfl, bl⟩
  · go_simp
    obtain ⟨w3, hw3⟩ : ∃ ww, ww = (w2.alloc (.cells #[.int .u8 (⟨bits BinOp.and IntKind.u8 a.v m.v, anyB [a, m]⟩ : By).v, .bool (⟨bits BinOp.and IntKind.u8 a.v m.v, anyB [a, m]⟩ : By).s] 25)).drew := ⟨_, rfl⟩
    rw [← hw3]
    have b3 : Below w2.heap.size w2 w3 := by rw [hw3]; (repeat first | exact .refl _ _ | exact (Below.refl _ _).drew | refine .drew ?_ | refine .alloc ?_ (by simp <;> omega) _)
    have Rl : ByAt w3 (some ⟨w2.heap.size, 0, none⟩) [(⟨bits BinOp.and IntKind.u8 a.v m.v, anyB [a, m]⟩ : By)] := by rw [hw3]; exact (byAt1 _ _ (⟨bits BinOp.and IntKind.u8 a.v m.v, anyB [a, m]⟩ : By)).below (Below.refl _ _).drew
    clear hw3
    clear cf0 cf1 zf0 zf1 ca0 ca1 za0 za1 cm0 cm1 zm0 zm1 cr0 cr1 zr0 zr1 cx0 cx1 zx0 zx1 nef nea nem ner nex
    replace Kf := kp b3 Kf
    replace Ka := kp b3 Ka
    replace Km := kp b3 Km
    replace Kr := kp b3 Kr
    replace Kx := kp b3 Kx
    replace bl := bl.trans (b3.mono bl.size)
    clear b3
    obtain ⟨cf0, zf0, cf1, zf1, nef⟩ := b2z Kf
    obtain ⟨ca0, za0, ca1, za1, nea⟩ := b2z Ka
    obtain ⟨cm0, zm0, cm1, zm1, nem⟩ := b2z Km
    obtain ⟨cr0, zr0, cr1, zr1, ner⟩ := b2z Kr
    obtain ⟨cx0, zx0, cx1, zx1, nex⟩ := b2z Kx
    refine hK.out _ _ ⟨blk_cell Kx 0, blk_cell Kx 1⟩ (fun hHeld => ?_)
    clear hK K
    refine wpAnyH_ready (rs := [0, 6]) (by kernel_rfl) (by simp) ?_
    refine AllReadyH.cons (o := ⟨_, _, _, _, _, _⟩) rfl (fun K hK => ?_) (AllReadyH.cons (o := ⟨_, _, _, _, _, _⟩) rfl (fun K hK => ?_) (AllReadyH.nil))
    · go_simp
      refine hK.out _ _ ⟨blk_cell Kx 0, blk_cell Kx 1⟩ (fun hHeld => ?_)
      clear hK K
      refine wpAnyH_ready (rs := [6]) (by kernel_rfl) (by simp) ?_
      refine AllReadyH.cons (o := ⟨_, _, _, _, _, _⟩) rfl (fun K hK => ?_) (AllReadyH.nil)
      go_simp
      refine (truth_any _ [⟨bits BinOp.and IntKind.u8 a.v m.v, anyB [a, m]⟩] _ 1 _ rfl (by omega) Rl).mono ?_
      rintro e w4 ⟨rfl, b4⟩
      clear cf0 cf1 zf0 zf1 ca0 ca1 za0 za1 cm0 cm1 zm0 zm1 cr0 cr1 zr0 zr1 cx0 cx1 zx0 zx1 nef nea nem ner nex
      replace Kf := kp b4 Kf
      replace Ka := kp b4 Ka
      replace Km := kp b4 Km
      replace Kr := kp b4 Kr
      replace Kx := kp b4 Kx
      replace Rl := Rl.below b4
      replace bl := bl.trans (b4.mono bl.size)
      clear b4
      obtain ⟨cf0, zf0, cf1, zf1, nef⟩ := b2z Kf
      obtain ⟨ca0, za0, ca1, za1, nea⟩ := b2z Ka
      obtain ⟨cm0, zm0, cm1, zm1, nem⟩ := b2z Km
      obtain ⟨cr0, zr0, cr1, zr1, ner⟩ := b2z Kr
      obtain ⟨cx0, zx0, cx1, zx1, nex⟩ := b2z Kx
      refine hK.out _ _ ⟨blk_cell Kx 0, blk_cell Kx 1⟩ (fun hHeld => ?_)
      clear hK K
      refine wpAnyH_ready (rs := [7]) (by kernel_rfl) (by simp) ?_
      refine AllReadyH.cons (o := ⟨_, _, _, _, _, _⟩) rfl (fun K hK => ?_) (AllReadyH.nil)
      go_simp
      refine (set_any f 2 ⟨trI ((bits BinOp.and IntKind.u8 a.v m.v) == 0), anyB [⟨bits BinOp.and IntKind.u8 a.v m.v, anyB [a, m]⟩]⟩ _).mono ?_
      rintro e w5 ⟨rfl, b5⟩
      clear cf0 cf1 zf0 zf1 ca0 ca1 za0 za1 cm0 cm1 zm0 zm1 cr0 cr1 zr0 zr1 cx0 cx1 zx0 zx1 nef nea nem ner nex
      replace Kf := kp b5 Kf
      replace Ka := kp b5 Ka
      replace Km := kp b5 Km
      replace Kr := kp b5 Kr
      replace Kx := kp b5 Kx
      replace Rl := Rl.below b5
      replace bl := bl.trans (b5.mono bl.size)
      clear b5
      obtain ⟨cf0, zf0, cf1, zf1, nef⟩ := b2z Kf
      obtain ⟨ca0, za0, ca1, za1, nea⟩ := b2z Ka
      obtain ⟨cm0, zm0, cm1, zm1, nem⟩ := b2z Km
      obtain ⟨cr0, zr0, cr1, zr1, ner⟩ := b2z Kr
      obtain ⟨cx0, zx0, cx1, zx1, nex⟩ := b2z Kx
      refine hK.out _ _ ⟨blk_cell Kx 0, blk_cell Kx 1⟩ (fun hHeld => ?_)
      clear hK K
      refine wpAnyH_ready (rs := [8]) (by kernel_rfl) (by simp) ?_
      refine AllReadyH.cons (o := ⟨_, _, _, _, _, _⟩) rfl (fun K hK => ?_) (AllReadyH.nil)
      go_simp
      clear cf0 cf1 zf0 zf1 ca0 ca1 za0 za1 cm0 cm1 zm0 zm1 cr0 cr1 zr0 zr1 cx0 cx1 zx0 zx1 nef nea nem ner nex
      clear Rl
      obtain ⟨w6, hw6⟩ : ∃ ww, ww = ((w5.setCell ⟨(w.heap.size), 0, none⟩ (.int .u8 (setF f 2 ⟨trI ((bits BinOp.and IntKind.u8 a.v m.v) == 0), anyB [⟨bits BinOp.and IntKind.u8 a.v m.v, anyB [a, m]⟩]⟩).p)).setCell ⟨(w.heap.size), 1, none⟩ (.int .u8 (setF f 2 ⟨trI ((bits BinOp.and IntKind.u8 a.v m.v) == 0), anyB [⟨bits BinOp.and IntKind.u8 a.v m.v, anyB [a, m]⟩]⟩).s)) := ⟨_, rfl⟩
      rw [← hw6]
      have nna : (w.heap.size) ≠ (w.heap.size + 1) := by first | omega | (have := blk_lt Ka; have := blk_lt Kf; have := bl.size; omega)
      replace Ka : B2 w6 (w.heap.size + 1) (.int .u8 a.v) (.bool a.s) 25 := by rw [hw6]; exact ((oth2 nna _ _).trans Ka)
      clear nna
      have nnm : (w.heap.size) ≠ (w.heap.size + 1 + 1) := by first | omega | (have := blk_lt Km; have := blk_lt Kf; have := bl.size; omega)
      replace Km : B2 w6 (w.heap.size + 1 + 1) (.int .u8 m.v) (.bool m.s) 25 := by rw [hw6]; exact ((oth2 nnm _ _).trans Km)
      clear nnm
      have nnr : (w.heap.size) ≠ (w.heap.size + 1 + 1 + 1) := by first | omega | (have := blk_lt Kr; have := blk_lt Kf; have := bl.size; omega)
      replace Kr : B2 w6 (w.heap.size + 1 + 1 + 1) (.int .u8 0) (.int .u8 0) 23 := by rw [hw6]; exact ((oth2 nnr _ _).trans Kr)
      clear nnr
      have nnx : (w.heap.size) ≠ w1.heap.size := by first | omega | (have := blk_lt Kx; have := blk_lt Kf; have := bl.size; omega)
      replace Kx : B2 w6 w1.heap.size (.int .u8 (bits BinOp.and IntKind.u8 a.v m.v)) (.bool (anyB [a, m])) 25 := by rw [hw6]; exact ((oth2 nnx _ _).trans Kx)
      clear nnx
      replace Kf : B2 w6 (w.heap.size) (.int .u8 (setF f 2 ⟨trI ((bits BinOp.and IntKind.u8 a.v m.v) == 0), anyB [⟨bits BinOp.and IntKind.u8 a.v m.v, anyB [a, m]⟩]⟩).p) (.int .u8 (setF f 2 ⟨trI ((bits BinOp.and IntKind.u8 a.v m.v) == 0), anyB [⟨bits BinOp.and IntKind.u8 a.v m.v, anyB [a, m]⟩]⟩).s) 23 := by rw [hw6]; exact (set2 Kf _ _)
      replace bl : Below w.heap.size w w6 := by rw [hw6]; exact bs2 bl (by first | exact Nat.le_refl _ | omega | (have := bl.size; omega)) _ _
      clear hw6
      obtain ⟨cf0, zf0, cf1, zf1, nef⟩ := b2z Kf
      obtain ⟨ca0, za0, ca1, za1, nea⟩ := b2z Ka
      obtain ⟨cm0, zm0, cm1, zm1, nem⟩ := b2z Km
      obtain ⟨cr0, zr0, cr1, zr1, ner⟩ := b2z Kr
      obtain ⟨cx0, zx0, cx1, zx1, nex⟩ := b2z Kx
      refine hK.out _ _ ⟨blk_cell Kx 0, blk_cell Kx 1⟩ (fun hHeld => ?_)
      clear hK K
      refine wpAnyH_done (by kernel_rfl) (NoPanic.normal ?_) _
      go_upto_region 3 with fail
      refine wp_region_noPanic ?_
      refine wp_region_held_drew (S := (fun w' => w'.cell? ⟨(w.heap.size), 0, none⟩ = some (.int .u8 (setF f 2 ⟨trI ((bits BinOp.and IntKind.u8 a.v m.v) == 0), anyB [⟨bits BinOp.and IntKind.u8 a.v m.v, anyB [a, m]⟩]⟩).p) ∧ w'.cell? ⟨(w.heap.size), 1, none⟩ = some (.int .u8 (setF f 2 ⟨trI ((bits BinOp.and IntKind.u8 a.v m.v) == 0), anyB [⟨bits BinOp.and IntKind.u8 a.v m.v, anyB [a, m]⟩]⟩).s) ∧ w'.cell? ⟨(w.heap.size + 1 + 1), 0, none⟩ = some (.int .u8 m.v) ∧ w'.cell? ⟨(w.heap.size + 1 + 1), 1, none⟩ = some (.bool m.s))) (by kernel_rfl) ⟨blk_cell Kf 0, blk_cell Kf 1, blk_cell Km 0, blk_cell Km 1⟩ (fun hHeld => ?_)
      refine tk 0 (v := ?_) rfl ?_ ?_; rotate_left; (focus (intro w hSw; (try dsimp only at hSw); go_simp; with_reducible rfl)); simp only [Act.put, tA, tB, tC]
      refine tk 1 (v := ?_) rfl ?_ ?_; rotate_left; (focus (intro w hSw; (try dsimp only at hSw); go_simp; with_reducible rfl)); simp only [Act.put, tA, tB, tC]
      refine tk 4 (v := ?_) rfl ?_ ?_; rotate_left; (focus (intro w hSw; (try dsimp only at hSw); go_simp; with_reducible rfl)); simp only [Act.put, tA, tB, tC]
      refine wpAnyH_ready (rs := [2]) (by kernel_rfl) (by simp) ?_
      refine AllReadyH.cons (o := ⟨_, _, _, _, _, _⟩) rfl (fun K hK => ?_) (AllReadyH.nil)
      go_simp
      refine (lbit7 m _).mono ?_
      rintro e w7 ⟨rfl, b7⟩
      replace b7 : Below w6.heap.size w6 w7 := (Below.refl _ _).drew.trans b7
      clear cf0 cf1 zf0 zf1 ca0 ca1 za0 za1 cm0 cm1 zm0 zm1 cr0 cr1 zr0 zr1 cx0 cx1 zx0 zx1 nef nea nem ner nex
      replace Kf := kp b7 Kf
      replace Ka := kp b7 Ka
      replace Km := kp b7 Km
      replace Kr := kp b7 Kr
      replace Kx := kp b7 Kx
      replace bl := bl.trans (b7.mono bl.size)
      clear b7
      obtain ⟨cf0, zf0, cf1, zf1, nef⟩ := b2z Kf
      obtain ⟨ca0, za0, ca1, za1, nea⟩ := b2z Ka
      obtain ⟨cm0, zm0, cm1, zm1, nem⟩ := b2z Km
      obtain ⟨cr0, zr0, cr1, zr1, ner⟩ := b2z Kr
      obtain ⟨cx0, zx0, cx1, zx1, nex⟩ := b2z Kx
      refine hK.out _ _ ⟨blk_cell Kf 0, blk_cell Kf 1, blk_cell Km 0, blk_cell Km 1⟩ (fun hHeld => ?_)
      clear hK K
      refine wpAnyH_ready (rs := [3]) (by kernel_rfl) (by simp) ?_
      refine AllReadyH.cons (o := ⟨_, _, _, _, _, _⟩) rfl (fun K hK => ?_) (AllReadyH.nil)
      go_simp
      refine (set_any (setF f 2 ⟨trI ((bits BinOp.and IntKind.u8 a.v m.v) == 0), anyB [⟨bits BinOp.and IntKind.u8 a.v m.v, anyB [a, m]⟩]⟩) 128 (lbF m (m.v / 128)) _).mono ?_
      rintro e w8 ⟨rfl, b8⟩
      clear cf0 cf1 zf0 zf1 ca0 ca1 za0 za1 cm0 cm1 zm0 zm1 cr0 cr1 zr0 zr1 cx0 cx1 zx0 zx1 nef nea nem ner nex
      replace Kf := kp b8 Kf
      replace Ka := kp b8 Ka
      replace Km := kp b8 Km
      replace Kr := kp b8 Kr
      replace Kx := kp b8 Kx
      replace bl := bl.trans (b8.mono bl.size)
      clear b8
      obtain ⟨cf0, zf0, cf1, zf1, nef⟩ := b2z Kf
      obtain ⟨ca0, za0, ca1, za1, nea⟩ := b2z Ka
      obtain ⟨cm0, zm0, cm1, zm1, nem⟩ := b2z Km
      obtain ⟨cr0, zr0, cr1, zr1, ner⟩ := b2z Kr
      obtain ⟨cx0, zx0, cx1, zx1, nex⟩ := b2z Kx
      refine hK.out _ _ ⟨blk_cell Kf 0, blk_cell Kf 1, blk_cell Km 0, blk_cell Km 1⟩ (fun hHeld => ?_)
      clear hK K
      refine wpAnyH_ready (rs := [5]) (by kernel_rfl) (by simp) ?_
      refine AllReadyH.cons (o := ⟨_, _, _, _, _, _⟩) rfl (fun K hK => ?_) (AllReadyH.nil)
      go_simp
      refine (lbit6 m _).mono ?_
      rintro e w9 ⟨rfl, b9⟩
      clear cf0 cf1 zf0 zf1 ca0 ca1 za0 za1 cm0 cm1 zm0 zm1 cr0 cr1 zr0 zr1 cx0 cx1 zx0 zx1 nef nea nem ner nex
      replace Kf := kp b9 Kf
      replace Ka := kp b9 Ka
      replace Km := kp b9 Km
      replace Kr := kp b9 Kr
      replace Kx := kp b9 Kx
      replace bl := bl.trans (b9.mono bl.size)
      clear b9
      obtain ⟨cf0, zf0, cf1, zf1, nef⟩ := b2z Kf
      obtain ⟨ca0, za0, ca1, za1, nea⟩ := b2z Ka
      obtain ⟨cm0, zm0, cm1, zm1, nem⟩ := b2z Km
      obtain ⟨cr0, zr0, cr1, zr1, ner⟩ := b2z Kr
      obtain ⟨cx0, zx0, cx1, zx1, nex⟩ := b2z Kx
      refine hK.out _ _ ⟨blk_cell Kf 0, blk_cell Kf 1, blk_cell Km 0, blk_cell Km 1⟩ (fun hHeld => ?_)
      clear hK K
      refine wpAnyH_ready (rs := [6]) (by kernel_rfl) (by simp) ?_
      refine AllReadyH.cons (o := ⟨_, _, _, _, _, _⟩) rfl (fun K hK => ?_) (AllReadyH.nil)
      go_simp
      refine (set_any (setF (setF f 2 ⟨trI ((bits BinOp.and IntKind.u8 a.v m.v) == 0), anyB [⟨bits BinOp.and IntKind.u8 a.v m.v, anyB [a, m]⟩]⟩) 128 (lbF m (m.v / 128))) 64 (lbF m (m.v / 64)) _).mono ?_
      rintro e w10 ⟨rfl, b10⟩
      clear cf0 cf1 zf0 zf1 ca0 ca1 za0 za1 cm0 cm1 zm0 zm1 cr0 cr1 zr0 zr1 cx0 cx1 zx0 zx1 nef nea nem ner nex
      replace Kf := kp b10 Kf
      replace Ka := kp b10 Ka
      replace Km := kp b10 Km
      replace Kr := kp b10 Kr
      replace Kx := kp b10 Kx
      replace bl := bl.trans (b10.mono bl.size)
      clear b10
      obtain ⟨cf0, zf0, cf1, zf1, nef⟩ := b2z Kf
      obtain ⟨ca0, za0, ca1, za1, nea⟩ := b2z Ka
      obtain ⟨cm0, zm0, cm1, zm1, nem⟩ := b2z Km
      obtain ⟨cr0, zr0, cr1, zr1, ner⟩ := b2z Kr
      obtain ⟨cx0, zx0, cx1, zx1, nex⟩ := b2z Kx
      refine hK.out _ _ ⟨blk_cell Kf 0, blk_cell Kf 1, blk_cell Km 0, blk_cell Km 1⟩ (fun hHeld => ?_)
      clear hK K
      refine wpAnyH_ready (rs := [7]) (by kernel_rfl) (by simp) ?_
      refine AllReadyH.cons (o := ⟨_, _, _, _, _, _⟩) rfl (fun K hK => ?_) (AllReadyH.nil)
      go_simp
      clear cf0 cf1 zf0 zf1 ca0 ca1 za0 za1 cm0 cm1 zm0 zm1 cr0 cr1 zr0 zr1 cx0 cx1 zx0 zx1 nef nea nem ner nex
      obtain ⟨w11, hw11⟩ : ∃ ww, ww = ((w10.setCell ⟨(w.heap.size + 1 + 1 + 1), 0, none⟩ (.int .u8 (setF (setF (setF f 2 ⟨trI ((bits BinOp.and IntKind.u8 a.v m.v) == 0), anyB [⟨bits BinOp.and IntKind.u8 a.v m.v, anyB [a, m]⟩]⟩) 128 (lbF m (m.v / 128))) 64 (lbF m (m.v / 64))).p)).setCell ⟨(w.heap.size + 1 + 1 + 1), 1, none⟩ (.int .u8 (setF (setF (setF f 2 ⟨trI ((bits BinOp.and IntKind.u8 a.v m.v) == 0), anyB [⟨bits BinOp.and IntKind.u8 a.v m.v, anyB [a, m]⟩]⟩) 128 (lbF m (m.v / 128))) 64 (lbF m (m.v / 64))).s)) := ⟨_, rfl⟩
      rw [← hw11]
      have nnf : (w.heap.size + 1 + 1 + 1) ≠ (w.heap.size) := by first | omega | (have := blk_lt Kf; have := blk_lt Kr; have := bl.size; omega)
      replace Kf : B2 w11 (w.heap.size) (.int .u8 (setF f 2 ⟨trI ((bits BinOp.and IntKind.u8 a.v m.v) == 0), anyB [⟨bits BinOp.and IntKind.u8 a.v m.v, anyB [a, m]⟩]⟩).p) (.int .u8 (setF f 2 ⟨trI ((bits BinOp.and IntKind.u8 a.v m.v) == 0), anyB [⟨bits BinOp.and IntKind.u8 a.v m.v, anyB [a, m]⟩]⟩).s) 23 := by rw [hw11]; exact ((oth2 nnf _ _).trans Kf)
      clear nnf
      have nna : (w.heap.size + 1 + 1 + 1) ≠ (w.heap.size + 1) := by first | omega | (have := blk_lt Ka; have := blk_lt Kr; have := bl.size; omega)
      replace Ka : B2 w11 (w.heap.size + 1) (.int .u8 a.v) (.bool a.s) 25 := by rw [hw11]; exact ((oth2 nna _ _).trans Ka)
      clear nna
      have nnm : (w.heap.size + 1 + 1 + 1) ≠ (w.heap.size + 1 + 1) := by first | omega | (have := blk_lt Km; have := blk_lt Kr; have := bl.size; omega)
      replace Km : B2 w11 (w.heap.size + 1 + 1) (.int .u8 m.v) (.bool m.s) 25 := by rw [hw11]; exact ((oth2 nnm _ _).trans Km)
      clear nnm
      have nnx : (w.heap.size + 1 + 1 + 1) ≠ w1.heap.size := by first | omega | (have := blk_lt Kx; have := blk_lt Kr; have := bl.size; omega)
      replace Kx : B2 w11 w1.heap.size (.int .u8 (bits BinOp.and IntKind.u8 a.v m.v)) (.bool (anyB [a, m])) 25 := by rw [hw11]; exact ((oth2 nnx _ _).trans Kx)
      clear nnx
      replace Kr : B2 w11 (w.heap.size + 1 + 1 + 1) (.int .u8 (setF (setF (setF f 2 ⟨trI ((bits BinOp.and IntKind.u8 a.v m.v) == 0), anyB [⟨bits BinOp.and IntKind.u8 a.v m.v, anyB [a, m]⟩]⟩) 128 (lbF m (m.v / 128))) 64 (lbF m (m.v / 64))).p) (.int .u8 (setF (setF (setF f 2 ⟨trI ((bits BinOp.and IntKind.u8 a.v m.v) == 0), anyB [⟨bits BinOp.and IntKind.u8 a.v m.v, anyB [a, m]⟩]⟩) 128 (lbF m (m.v / 128))) 64 (lbF m (m.v / 64))).s) 23 := by rw [hw11]; exact (set2 Kr _ _)
      replace bl : Below w.heap.size w w11 := by rw [hw11]; exact bs2 bl (by first | exact Nat.le_refl _ | omega | (have := bl.size; omega)) _ _
      clear hw11
      obtain ⟨cf0, zf0, cf1, zf1, nef⟩ := b2z Kf
      obtain ⟨ca0, za0, ca1, za1, nea⟩ := b2z Ka
      obtain ⟨cm0, zm0, cm1, zm1, nem⟩ := b2z Km
      obtain ⟨cr0, zr0, cr1, zr1, ner⟩ := b2z Kr
      obtain ⟨cx0, zx0, cx1, zx1, nex⟩ := b2z Kx
      refine hK.out _ _ ⟨blk_cell Kf 0, blk_cell Kf 1, blk_cell Km 0, blk_cell Km 1⟩ (fun hHeld => ?_)
      clear hK K
      refine wpAnyH_done (by kernel_rfl) (NoPanic.normal ?_) _
      go_wp2_with fail
      exact bodyPost_ret (v := (setF (setF (setF f 2 ⟨trI ((bits BinOp.and IntKind.u8 a.v m.v) == 0), anyB [⟨bits BinOp.and IntKind.u8 a.v m.v, anyB [a, m]⟩]⟩) 128 (lbF m (m.v / 128))) 64 (lbF m (m.v / 64))).V) (by simp [results, Try.results29, go_sem, cr0, cr1]) rfl ⟨rfl, bl⟩
    · go_simp
      refine (truth_any _ [⟨bits BinOp.and IntKind.u8 a.v m.v, anyB [a, m]⟩] _ 1 _ rfl (by omega) Rl).mono ?_
      rintro e w4 ⟨rfl, b4⟩
      clear cf0 cf1 zf0 zf1 ca0 ca1 za0 za1 cm0 cm1 zm0 zm1 cr0 cr1 zr0 zr1 cx0 cx1 zx0 zx1 nef nea nem ner nex
      replace Kf := kp b4 Kf
      replace Ka := kp b4 Ka
      replace Km := kp b4 Km
      replace Kr := kp b4 Kr
      replace Kx := kp b4 Kx
      replace Rl := Rl.below b4
      replace bl := bl.trans (b4.mono bl.size)
      clear b4
      obtain ⟨cf0, zf0, cf1, zf1, nef⟩ := b2z Kf
      obtain ⟨ca0, za0, ca1, za1, nea⟩ := b2z Ka
      obtain ⟨cm0, zm0, cm1, zm1, nem⟩ := b2z Km
      obtain ⟨cr0, zr0, cr1, zr1, ner⟩ := b2z Kr
      obtain ⟨cx0, zx0, cx1, zx1, nex⟩ := b2z Kx
      refine hK.out _ _ ⟨blk_cell Kx 0, blk_cell Kx 1⟩ (fun hHeld => ?_)
      clear hK K
      refine wpAnyH_ready (rs := [0]) (by kernel_rfl) (by simp) ?_
      refine AllReadyH.cons (o := ⟨_, _, _, _, _, _⟩) rfl (fun K hK => ?_) (AllReadyH.nil)
      go_simp
      refine hK.out _ _ ⟨blk_cell Kx 0, blk_cell Kx 1⟩ (fun hHeld => ?_)
      clear hK K
      refine wpAnyH_ready (rs := [7]) (by kernel_rfl) (by simp) ?_
      refine AllReadyH.cons (o := ⟨_, _, _, _, _, _⟩) rfl (fun K hK => ?_) (AllReadyH.nil)
      go_simp
      refine (set_any f 2 ⟨trI ((bits BinOp.and IntKind.u8 a.v m.v) == 0), anyB [⟨bits BinOp.and IntKind.u8 a.v m.v, anyB [a, m]⟩]⟩ _).mono ?_
      rintro e w5 ⟨rfl, b5⟩
      clear cf0 cf1 zf0 zf1 ca0 ca1 za0 za1 cm0 cm1 zm0 zm1 cr0 cr1 zr0 zr1 cx0 cx1 zx0 zx1 nef nea nem ner nex
      replace Kf := kp b5 Kf
      replace Ka := kp b5 Ka
      replace Km := kp b5 Km
      replace Kr := kp b5 Kr
      replace Kx := kp b5 Kx
      replace Rl := Rl.below b5
      replace bl := bl.trans (b5.mono bl.size)
      clear b5
      obtain ⟨cf0, zf0, cf1, zf1, nef⟩ := b2z Kf
      obtain ⟨ca0, za0, ca1, za1, nea⟩ := b2z Ka
      obtain ⟨cm0, zm0, cm1, zm1, nem⟩ := b2z Km
      obtain ⟨cr0, zr0, cr1, zr1, ner⟩ := b2z Kr
      obtain ⟨cx0, zx0, cx1, zx1, nex⟩ := b2z Kx
      refine hK.out _ _ ⟨blk_cell Kx 0, blk_cell Kx 1⟩ (fun hHeld => ?_)
      clear hK K
      refine wpAnyH_ready (rs := [8]) (by kernel_rfl) (by simp) ?_
      refine AllReadyH.cons (o := ⟨_, _, _, _, _, _⟩) rfl (fun K hK => ?_) (AllReadyH.nil)
      go_simp
      clear cf0 cf1 zf0 zf1 ca0 ca1 za0 za1 cm0 cm1 zm0 zm1 cr0 cr1 zr0 zr1 cx0 cx1 zx0 zx1 nef nea nem ner nex
      clear Rl
      obtain ⟨w6, hw6⟩ : ∃ ww, ww = ((w5.setCell ⟨(w.heap.size), 0, none⟩ (.int .u8 (setF f 2 ⟨trI ((bits BinOp.and IntKind.u8 a.v m.v) == 0), anyB [⟨bits BinOp.and IntKind.u8 a.v m.v, anyB [a, m]⟩]⟩).p)).setCell ⟨(w.heap.size), 1, none⟩ (.int .u8 (setF f 2 ⟨trI ((bits BinOp.and IntKind.u8 a.v m.v) == 0), anyB [⟨bits BinOp.and IntKind.u8 a.v m.v, anyB [a, m]⟩]⟩).s)) := ⟨_, rfl⟩
      rw [← hw6]
      have nna : (w.heap.size) ≠ (w.heap.size + 1) := by first | omega | (have := blk_lt Ka; have := blk_lt Kf; have := bl.size; omega)
      replace Ka : B2 w6 (w.heap.size + 1) (.int .u8 a.v) (.bool a.s) 25 := by rw [hw6]; exact ((oth2 nna _ _).trans Ka)
      clear nna
      have nnm : (w.heap.size) ≠ (w.heap.size + 1 + 1) := by first | omega | (have := blk_lt Km; have := blk_lt Kf; have := bl.size; omega)
      replace Km : B2 w6 (w.heap.size + 1 + 1) (.int .u8 m.v) (.bool m.s) 25 := by rw [hw6]; exact ((oth2 nnm _ _).trans Km)
      clear nnm
      have nnr : (w.heap.size) ≠ (w.heap.size + 1 + 1 + 1) := by first | omega | (have := blk_lt Kr; have := blk_lt Kf; have := bl.size; omega)
      replace Kr : B2 w6 (w.heap.size + 1 + 1 + 1) (.int .u8 0) (.int .u8 0) 23 := by rw [hw6]; exact ((oth2 nnr _ _).trans Kr)
      clear nnr
      have nnx : (w.heap.size) ≠ w1.heap.size := by first | omega | (have := blk_lt Kx; have := blk_lt Kf; have := bl.size; omega)
      replace Kx : B2 w6 w1.heap.size (.int .u8 (bits BinOp.and IntKind.u8 a.v m.v)) (.bool (anyB [a, m])) 25 := by rw [hw6]; exact ((oth2 nnx _ _).trans Kx)
      clear nnx
      replace Kf : B2 w6 (w.heap.size) (.int .u8 (setF f 2 ⟨trI ((bits BinOp.and IntKind.u8 a.v m.v) == 0), anyB [⟨bits BinOp.and IntKind.u8 a.v m.v, anyB [a, m]⟩]⟩).p) (.int .u8 (setF f 2 ⟨trI ((bits BinOp.and IntKind.u8 a.v m.v) == 0), anyB [⟨bits BinOp.and IntKind.u8 a.v m.v, anyB [a, m]⟩]⟩).s) 23 := by rw [hw6]; exact (set2 Kf _ _)
      replace bl : Below w.heap.size w w6 := by rw [hw6]; exact bs2 bl (by first | exact Nat.le_refl _ | omega | (have := bl.size; omega)) _ _
      clear hw6
      obtain ⟨cf0, zf0, cf1, zf1, nef⟩ := b2z Kf
      obtain ⟨ca0, za0, ca1, za1, nea⟩ := b2z Ka
      obtain ⟨cm0, zm0, cm1, zm1, nem⟩ := b2z Km
      obtain ⟨cr0, zr0, cr1, zr1, ner⟩ := b2z Kr
      obtain ⟨cx0, zx0, cx1, zx1, nex⟩ := b2z Kx
      refine hK.out _ _ ⟨blk_cell Kx 0, blk_cell Kx 1⟩ (fun hHeld => ?_)
      clear hK K
      refine wpAnyH_done (by kernel_rfl) (NoPanic.normal ?_) _
      go_upto_region 3 with fail
      refine wp_region_noPanic ?_
      refine wp_region_held_drew (S := (fun w' => w'.cell? ⟨(w.heap.size), 0, none⟩ = some (.int .u8 (setF f 2 ⟨trI ((bits BinOp.and IntKind.u8 a.v m.v) == 0), anyB [⟨bits BinOp.and IntKind.u8 a.v m.v, anyB [a, m]⟩]⟩).p) ∧ w'.cell? ⟨(w.heap.size), 1, none⟩ = some (.int .u8 (setF f 2 ⟨trI ((bits BinOp.and IntKind.u8 a.v m.v) == 0), anyB [⟨bits BinOp.and IntKind.u8 a.v m.v, anyB [a, m]⟩]⟩).s) ∧ w'.cell? ⟨(w.heap.size + 1 + 1), 0, none⟩ = some (.int .u8 m.v) ∧ w'.cell? ⟨(w.heap.size + 1 + 1), 1, none⟩ = some (.bool m.s))) (by kernel_rfl) ⟨blk_cell Kf 0, blk_cell Kf 1, blk_cell Km 0, blk_cell Km 1⟩ (fun hHeld => ?_)
      refine tk 0 (v := ?_) rfl ?_ ?_; rotate_left; (focus (intro w hSw; (try dsimp only at hSw); go_simp; with_reducible rfl)); simp only [Act.put, tA, tB, tC]
      refine tk 1 (v := ?_) rfl ?_ ?_; rotate_left; (focus (intro w hSw; (try dsimp only at hSw); go_simp; with_reducible rfl)); simp only [Act.put, tA, tB, tC]
      refine tk 4 (v := ?_) rfl ?_ ?_; rotate_left; (focus (intro w hSw; (try dsimp only at hSw); go_simp; with_reducible rfl)); simp only [Act.put, tA, tB, tC]
      refine wpAnyH_ready (rs := [2]) (by kernel_rfl) (by simp) ?_
      refine AllReadyH.cons (o := ⟨_, _, _, _, _, _⟩) rfl (fun K hK => ?_) (AllReadyH.nil)
      go_simp
      refine (lbit7 m _).mono ?_
      rintro e w7 ⟨rfl, b7⟩
      replace b7 : Below w6.heap.size w6 w7 := (Below.refl _ _).drew.trans b7
      clear cf0 cf1 zf0 zf1 ca0 ca1 za0 za1 cm0 cm1 zm0 zm1 cr0 cr1 zr0 zr1 cx0 cx1 zx0 zx1 nef nea nem ner nex
      replace Kf := kp b7 Kf
      replace Ka := kp b7 Ka
      replace Km := kp b7 Km
      replace Kr := kp b7 Kr
      replace Kx := kp b7 Kx
      replace bl := bl.trans (b7.mono bl.size)
      clear b7
      obtain ⟨cf0, zf0, cf1, zf1, nef⟩ := b2z Kf
      obtain ⟨ca0, za0, ca1, za1, nea⟩ := b2z Ka
      obtain ⟨cm0, zm0, cm1, zm1, nem⟩ := b2z Km
      obtain ⟨cr0, zr0, cr1, zr1, ner⟩ := b2z Kr
      obtain ⟨cx0, zx0, cx1, zx1, nex⟩ := b2z Kx
      refine hK.out _ _ ⟨blk_cell Kf 0, blk_cell Kf 1, blk_cell Km 0, blk_cell Km 1⟩ (fun hHeld => ?_)
      clear hK K
      refine wpAnyH_ready (rs := [3]) (by kernel_rfl) (by simp) ?_
      refine AllReadyH.cons (o := ⟨_, _, _, _, _, _⟩) rfl (fun K hK => ?_) (AllReadyH.nil)
      go_simp
      refine (set_any (setF f 2 ⟨trI ((bits BinOp.and IntKind.u8 a.v m.v) == 0), anyB [⟨bits BinOp.and IntKind.u8 a.v m.v, anyB [a, m]⟩]⟩) 128 (lbF m (m.v / 128)) _).mono ?_
      rintro e w8 ⟨rfl, b8⟩
      clear cf0 cf1 zf0 zf1 ca0 ca1 za0 za1 cm0 cm1 zm0 zm1 cr0 cr1 zr0 zr1 cx0 cx1 zx0 zx1 nef nea nem ner nex
      replace Kf := kp b8 Kf
      replace Ka := kp b8 Ka
      replace Km := kp b8 Km
      replace Kr := kp b8 Kr
      replace Kx := kp b8 Kx
      replace bl := bl.trans (b8.mono bl.size)
      clear b8
      obtain ⟨cf0, zf0, cf1, zf1, nef⟩ := b2z Kf
      obtain ⟨ca0, za0, ca1, za1, nea⟩ := b2z Ka
      obtain ⟨cm0, zm0, cm1, zm1, nem⟩ := b2z Km
      obtain ⟨cr0, zr0, cr1, zr1, ner⟩ := b2z Kr
      obtain ⟨cx0, zx0, cx1, zx1, nex⟩ := b2z Kx
      refine hK.out _ _ ⟨blk_cell Kf 0, blk_cell Kf 1, blk_cell Km 0, blk_cell Km 1⟩ (fun hHeld => ?_)
      clear hK K
      refine wpAnyH_ready (rs := [5]) (by kernel_rfl) (by simp) ?_
      refine AllReadyH.cons (o := ⟨_, _, _, _, _, _⟩) rfl (fun K hK => ?_) (AllReadyH.nil)
      go_simp
      refine (lbit6 m _).mono ?_
      rintro e w9 ⟨rfl, b9⟩
      clear cf0 cf1 zf0 zf1 ca0 ca1 za0 za1 cm0 cm1 zm0 zm1 cr0 cr1 zr0 zr1 cx0 cx1 zx0 zx1 nef nea nem ner nex
      replace Kf := kp b9 Kf
      replace Ka := kp b9 Ka
      replace Km := kp b9 Km
      replace Kr := kp b9 Kr
      replace Kx := kp b9 Kx
      replace bl := bl.trans (b9.mono bl.size)
      clear b9
      obtain ⟨cf0, zf0, cf1, zf1, nef⟩ := b2z Kf
      obtain ⟨ca0, za0, ca1, za1, nea⟩ := b2z Ka
      obtain ⟨cm0, zm0, cm1, zm1, nem⟩ := b2z Km
      obtain ⟨cr0, zr0, cr1, zr1, ner⟩ := b2z Kr
      obtain ⟨cx0, zx0, cx1, zx1, nex⟩ := b2z Kx
      refine hK.out _ _ ⟨blk_cell Kf 0, blk_cell Kf 1, blk_cell Km 0, blk_cell Km 1⟩ (fun hHeld => ?_)
      clear hK K
      refine wpAnyH_ready (rs := [6]) (by kernel_rfl) (by simp) ?_
      refine AllReadyH.cons (o := ⟨_, _, _, _, _, _⟩) rfl (fun K hK => ?_) (AllReadyH.nil)
      go_simp
      refine (set_any (setF (setF f 2 ⟨trI ((bits BinOp.and IntKind.u8 a.v m.v) == 0), anyB [⟨bits BinOp.and IntKind.u8 a.v m.v, anyB [a, m]⟩]⟩) 128 (lbF m (m.v / 128))) 64 (lbF m (m.v / 64)) _).mono ?_
      rintro e w10 ⟨rfl, b10⟩
      clear cf0 cf1 zf0 zf1 ca0 ca1 za0 za1 cm0 cm1 zm0 zm1 cr0 cr1 zr0 zr1 cx0 cx1 zx0 zx1 nef nea nem ner nex
      replace Kf := kp b10 Kf
      replace Ka := kp b10 Ka
      replace Km := kp b10 Km
      replace Kr := kp b10 Kr
      replace Kx := kp b10 Kx
      replace bl := bl.trans (b10.mono bl.size)
      clear b10
      obtain ⟨cf0, zf0, cf1, zf1, nef⟩ := b2z Kf
      obtain ⟨ca0, za0, ca1, za1, nea⟩ := b2z Ka
      obtain ⟨cm0, zm0, cm1, zm1, nem⟩ := b2z Km
      obtain ⟨cr0, zr0, cr1, zr1, ner⟩ := b2z Kr
      obtain ⟨cx0, zx0, cx1, zx1, nex⟩ := b2z Kx
      refine hK.out _ _ ⟨blk_cell Kf 0, blk_cell Kf 1, blk_cell Km 0, blk_cell Km 1⟩ (fun hHeld => ?_)
      clear hK K
      refine wpAnyH_ready (rs := [7]) (by kernel_rfl) (by simp) ?_
      refine AllReadyH.cons (o := ⟨_, _, _, _, _, _⟩) rfl (fun K hK => ?_) (AllReadyH.nil)
      go_simp
      clear cf0 cf1 zf0 zf1 ca0 ca1 za0 za1 cm0 cm1 zm0 zm1 cr0 cr1 zr0 zr1 cx0 cx1 zx0 zx1 nef nea nem ner nex
      obtain ⟨w11, hw11⟩ : ∃ ww, ww = ((w10.setCell ⟨(w.heap.size + 1 + 1 + 1), 0, none⟩ (.int .u8 (setF (setF (setF f 2 ⟨trI ((bits BinOp.and IntKind.u8 a.v m.v) == 0), anyB [⟨bits BinOp.and IntKind.u8 a.v m.v, anyB [a, m]⟩]⟩) 128 (lbF m (m.v / 128))) 64 (lbF m (m.v / 64))).p)).setCell ⟨(w.heap.size + 1 + 1 + 1), 1, none⟩ (.int .u8 (setF (setF (setF f 2 ⟨trI ((bits BinOp.and IntKind.u8 a.v m.v) == 0), anyB [⟨bits BinOp.and IntKind.u8 a.v m.v, anyB [a, m]⟩]⟩) 128 (lbF m (m.v / 128))) 64 (lbF m (m.v / 64))).s)) := ⟨_, rfl⟩
      rw [← hw11]
      have nnf : (w.heap.size + 1 + 1 + 1) ≠ (w.heap.size) := by first | omega | (have := blk_lt Kf; have := blk_lt Kr; have := bl.size; omega)
      replace Kf : B2 w11 (w.heap.size) (.int .u8 (setF f 2 ⟨trI ((bits BinOp.and IntKind.u8 a.v m.v) == 0), anyB [⟨bits BinOp.and IntKind.u8 a.v m.v, anyB [a, m]⟩]⟩).p) (.int .u8 (setF f 2 ⟨trI ((bits BinOp.and IntKind.u8 a.v m.v) == 0), anyB [⟨bits BinOp.and IntKind.u8 a.v m.v, anyB [a, m]⟩]⟩).s) 23 := by rw [hw11]; exact ((oth2 nnf _ _).trans Kf)
      clear nnf
      have nna : (w.heap.size + 1 + 1 + 1) ≠ (w.heap.size + 1) := by first | omega | (have := blk_lt Ka; have := blk_lt Kr; have := bl.size; omega)
      replace Ka : B2 w11 (w.heap.size + 1) (.int .u8 a.v) (.bool a.s) 25 := by rw [hw11]; exact ((oth2 nna _ _).trans Ka)
      clear nna
      have nnm : (w.heap.size + 1 + 1 + 1) ≠ (w.heap.size + 1 + 1) := by first | omega | (have := blk_lt Km; have := blk_lt Kr; have := bl.size; omega)
      replace Km : B2 w11 (w.heap.size + 1 + 1) (.int .u8 m.v) (.bool m.s) 25 := by rw [hw11]; exact ((oth2 nnm _ _).trans Km)
      clear nnm
      have nnx : (w.heap.size + 1 + 1 + 1) ≠ w1.heap.size := by first | omega | (have := blk_lt Kx; have := blk_lt Kr; have := bl.size; omega)
      replace Kx : B2 w11 w1.heap.size (.int .u8 (bits BinOp.and IntKind.u8 a.v m.v)) (.bool (anyB [a, m])) 25 := by rw [hw11]; exact ((oth2 nnx _ _).trans Kx)
      clear nnx
      replace Kr : B2 w11 (w.heap.size + 1 + 1 + 1) (.int .u8 (setF (setF (setF f 2 ⟨trI ((bits BinOp.and IntKind.u8 a.v m.v) == 0), anyB [⟨bits BinOp.and IntKind.u8 a.v m.v, anyB [a, m]⟩]⟩) 128 (lbF m (m.v / 128))) 64 (lbF m (m.v / 64))).p) (.int .u8 (setF (setF (setF f 2 ⟨trI ((bits BinOp.and IntKind.u8 a.v m.v) == 0), anyB [⟨bits BinOp.and IntKind.u8 a.v m.v, anyB [a, m]⟩]⟩) 128 (lbF m (m.v / 128))) 64 (lbF m (m.v / 64))).s) 23 := by rw [hw11]; exact (set2 Kr _ _)
      replace bl : Below w.heap.size w w11 := by rw [hw11]; exact bs2 bl (by first | exact Nat.le_refl _ | omega | (have := bl.size; omega)) _ _
      clear hw11
      obtain ⟨cf0, zf0, cf1, zf1, nef⟩ := b2z Kf
      obtain ⟨ca0, za0, ca1, za1, nea⟩ := b2z Ka
      obtain ⟨cm0, zm0, cm1, zm1, nem⟩ := b2z Km
      obtain ⟨cr0, zr0, cr1, zr1, ner⟩ := b2z Kr
      obtain ⟨cx0, zx0, cx1, zx1, nex⟩ := b2z Kx
      refine hK.out _ _ ⟨blk_cell Kf 0, blk_cell Kf 1, blk_cell Km 0, blk_cell Km 1⟩ (fun hHeld => ?_)
      clear hK K
      refine wpAnyH_done (by kernel_rfl) (NoPanic.normal ?_) _
      go_wp2_with fail
      exact bodyPost_ret (v := (setF (setF (setF f 2 ⟨trI ((bits BinOp.and IntKind.u8 a.v m.v) == 0), anyB [⟨bits BinOp.and IntKind.u8 a.v m.v, anyB [a, m]⟩]⟩) 128 (lbF m (m.v / 128))) 64 (lbF m (m.v / 64))).V) (by simp [results, Try.results29, go_sem, cr0, cr1]) rfl ⟨rfl, bl⟩
end Go.Proofs.Ytdgjenlejalgeaa
