import Derived.Test.YtdgjenlejalgeaaBl5
namespace Go.Proofs.Ytdgjenlejalgeaa
open Go.RowKit Go.Sx
def adcB (f : Fl) (a m : By) : By := ⟨(IntKind.u64.wrap (IntKind.u64.wrap (IntKind.u64.wrap a.v + IntKind.u64.wrap m.v) + IntKind.u64.wrap (getF f 1).v)) % 256, anyB [a, m, getF f 1]⟩
def adcF (f : Fl) (a m : By) : Fl := nzF (setF (setF f 1 ⟨trI (decide (255 < (IntKind.u64.wrap (IntKind.u64.wrap (IntKind.u64.wrap a.v + IntKind.u64.wrap m.v) + IntKind.u64.wrap (getF f 1).v)))), anyB [adcB f a m]⟩) 64 ⟨trI (decide (0 < bits BinOp.and IntKind.u8 (bits BinOp.and IntKind.u8 (bits BinOp.xor IntKind.u8 (if IntKind.u8.signed = true then -1 else IntKind.u8.max) (bits BinOp.xor IntKind.u8 a.v m.v)) (bits BinOp.xor IntKind.u8 a.v ((IntKind.u64.wrap (IntKind.u64.wrap (IntKind.u64.wrap a.v + IntKind.u64.wrap m.v) + IntKind.u64.wrap (getF f 1).v)) % 256))) 128)), anyB [adcB f a m]⟩) (adcB f a m)
theorem adc_is (f : Fl) (a m : By) (w : World) : Calls Try.prog 22 #[f.V, a.V, m.V] w fun e w' => e = .returned (.tuple #[(adcB f a m).V, (adcF f a m).V]) ∧ Below w.heap.size w w' := adc_any f a m w
def sbxB (a m : By) : By := ⟨(a.v - m.v) % 256, anyB [a, m]⟩
def sbxF (f : Fl) (a m : By) : Fl := nzF (setF f 1 ⟨trI (decide (m.v ≤ a.v)), anyB [a, m]⟩) (sbxB a m)
theorem sbx_is (f : Fl) (a m : By) (w : World) : Calls Try.prog 26 #[f.V, a.V, m.V] w fun e w' => e = .returned (.tuple #[(sbxB a m).V, (sbxF f a m).V]) ∧ Below w.heap.size w w' := sbx_any f a m w
theorem cmp_is (f : Fl) (a m : By) (w : World) : Calls Try.prog 28 #[f.V, a.V, m.V] w fun e w' => e = .returned (sbxF f a m).V ∧ Below w.heap.size w w' := cmp_any f a m w
def andB (a m : By) : By := ⟨bits BinOp.and IntKind.u8 a.v m.v, anyB [a, m]⟩
def xorB (a m : By) : By := ⟨bits BinOp.xor IntKind.u8 a.v m.v, anyB [a, m]⟩
def bitF (f : Fl) (a m : By) : Fl := setF (setF (setF f 2 ⟨trI ((andB a m).v == 0), anyB [andB a m]⟩) 128 (lbF m (m.v / 128))) 64 (lbF m (m.v / 64))
theorem bit_is (f : Fl) (a m : By) (w : World) : Calls Try.prog 29 #[f.V, a.V, m.V] w fun e w' => e = .returned (bitF f a m).V ∧ Below w.heap.size w w' := bitop_any f a m w
def shB (v : Int) (l : List By) : By := ⟨v, anyB l⟩
def shF (f : Fl) (g x : By) : Fl := nzF (setF f 1 g) x
def aslB (x : By) : By := shB (IntKind.u8.wrap (x.v * 2)) [x]
def aslF (f : Fl) (x : By) : Fl := shF f (lbF x (x.v / 128)) (aslB x)
theorem asl_is (f : Fl) (x : By) (w : World) : Calls Try.prog 33 #[f.V, x.V] w fun e w' => e = .returned (.tuple #[(aslB x).V, (aslF f x).V]) ∧ Below w.heap.size w w' := asl_any f x w
def lsrB (x : By) : By := shB (x.v / 2) [x]
def lsrF (f : Fl) (x : By) : Fl := shF f (lbF x x.v) (lsrB x)
theorem lsr_is (f : Fl) (x : By) (w : World) : Calls Try.prog 35 #[f.V, x.V] w fun e w' => e = .returned (.tuple #[(lsrB x).V, (lsrF f x).V]) ∧ Below w.heap.size w w' := lsr_any f x w
def rolB (f : Fl) (x : By) : By := shB (bits BinOp.or IntKind.u8 (IntKind.u8.wrap (x.v * 2)) (getF f 1).v) [x, getF f 1]
def rolF (f : Fl) (x : By) : Fl := shF f (lbF x (x.v / 128)) (rolB f x)
theorem rol_is (f : Fl) (x : By) (w : World) : Calls Try.prog 31 #[f.V, x.V] w fun e w' => e = .returned (.tuple #[(rolB f x).V, (rolF f x).V]) ∧ Below w.heap.size w w' := rol_any f x w
def rorB (f : Fl) (x : By) : By := shB (bits BinOp.or IntKind.u8 (x.v / 2) (IntKind.u8.wrap ((getF f 1).v * 128))) [x, getF f 1]
def rorF (f : Fl) (x : By) : Fl := shF f (lbF x x.v) (rorB f x)
theorem ror_is (f : Fl) (x : By) (w : World) : Calls Try.prog 32 #[f.V, x.V] w fun e w' => e = .returned (.tuple #[(rorB f x).V, (rorF f x).V]) ∧ Below w.heap.size w w' := ror_any f x w
def pushB (f : Fl) (brk : Bool) : By := ⟨if brk = true then O8 (O8 (A8 f.p 207) 32) 16 else O8 (A8 f.p 207) 32, decide (0 < A8 f.s 207)⟩
def pullF (b : By) : Fl := ⟨A8 b.v 207, if b.s = true then 207 else 0⟩
def sbcM (m : By) : By := xorB m ⟨255, false⟩
def arrB (f : Fl) (a m : By) : By := rorB f (andB a m)
def arrF (f : Fl) (a m : By) : Fl := setF (setF (rorF f (andB a m)) 1 (lbF (arrB f a m) ((arrB f a m).v / 64))) 64 (xorB (lbF (arrB f a m) ((arrB f a m).v / 64)) (lbF (arrB f a m) ((arrB f a m).v / 32)))
set_option maxHeartbeats 1600000 in
theorem sbc_is (f : Fl) (a m : By) (w : World) : Calls Try.prog 24 #[f.V, a.V, m.V] w fun e w' => e = .returned (.tuple #[(adcB f a (sbcM m)).V, (adcF f a (sbcM m)).V]) ∧ Below w.heap.size w w' := by
  go_enter Try.func24, Try.ntmps24
  go_upto_region 1 with fail
  obtain ⟨w0, hw0⟩ : ∃ ww, ww = (((((w.alloc (.cells #[.int .u8 f.p, .int .u8 f.s] 23)).alloc (.cells #[.int .u8 a.v, .bool a.s] 25)).alloc (.cells #[.int .u8 m.v, .bool m.s] 25)).alloc (.cells #[.int .u8 0, .bool false] 25)).alloc (.cells #[.int .u8 0, .int .u8 0] 23)) := ⟨_, rfl⟩
  rw [← hw0]
  have Kf : B2 w0 (w.heap.size) (.int .u8 f.p) (.int .u8 f.s) 23 := by rw [hw0]; exact blk_alloc (blk_alloc (blk_alloc (blk_alloc (blk_new' _ (by simp)) _) _) _) _
  have Ka : B2 w0 (w.heap.size + 1) (.int .u8 a.v) (.bool a.s) 25 := by rw [hw0]; exact blk_alloc (blk_alloc (blk_alloc (blk_new' _ (by simp)) _) _) _
  have Km : B2 w0 (w.heap.size + 1 + 1) (.int .u8 m.v) (.bool m.s) 25 := by rw [hw0]; exact blk_alloc (blk_alloc (blk_new' _ (by simp)) _) _
  have Ko : B2 w0 (w.heap.size + 1 + 1 + 1) (.int .u8 0) (.bool false) 25 := by rw [hw0]; exact blk_alloc (blk_new' _ (by simp)) _
  have Kr : B2 w0 (w.heap.size + 1 + 1 + 1 + 1) (.int .u8 0) (.int .u8 0) 23 := by rw [hw0]; exact blk_new' _ (by simp)
  have qfa : w.heap.size ≠ w.heap.size + 1 := by omega
  have qfm : w.heap.size ≠ w.heap.size + 1 + 1 := by omega
  have qfo : w.heap.size ≠ w.heap.size + 1 + 1 + 1 := by omega
  have qfr : w.heap.size ≠ w.heap.size + 1 + 1 + 1 + 1 := by omega
  have qaf : w.heap.size + 1 ≠ w.heap.size := by omega
  have qam : w.heap.size + 1 ≠ w.heap.size + 1 + 1 := by omega
  have qao : w.heap.size + 1 ≠ w.heap.size + 1 + 1 + 1 := by omega
  have qar : w.heap.size + 1 ≠ w.heap.size + 1 + 1 + 1 + 1 := by omega
  have qmf : w.heap.size + 1 + 1 ≠ w.heap.size := by omega
  have qma : w.heap.size + 1 + 1 ≠ w.heap.size + 1 := by omega
  have qmo : w.heap.size + 1 + 1 ≠ w.heap.size + 1 + 1 + 1 := by omega
  have qmr : w.heap.size + 1 + 1 ≠ w.heap.size + 1 + 1 + 1 + 1 := by omega
  have qof : w.heap.size + 1 + 1 + 1 ≠ w.heap.size := by omega
  have qoa : w.heap.size + 1 + 1 + 1 ≠ w.heap.size + 1 := by omega
  have qom : w.heap.size + 1 + 1 + 1 ≠ w.heap.size + 1 + 1 := by omega
  have qor : w.heap.size + 1 + 1 + 1 ≠ w.heap.size + 1 + 1 + 1 + 1 := by omega
  have qrf : w.heap.size + 1 + 1 + 1 + 1 ≠ w.heap.size := by omega
  have qra : w.heap.size + 1 + 1 + 1 + 1 ≠ w.heap.size + 1 := by omega
  have qrm : w.heap.size + 1 + 1 + 1 + 1 ≠ w.heap.size + 1 + 1 := by omega
  have qro : w.heap.size + 1 + 1 + 1 + 1 ≠ w.heap.size + 1 + 1 + 1 := by omega
  have bl : Below w.heap.size w w0 := by rw [hw0]; (repeat first | exact .refl _ _ | exact (Below.refl _ _).drew | refine .drew ?_ | refine .alloc ?_ (by simp <;> omega) _)
  clear hw0
  obtain ⟨cf0, zf0, cf1, zf1, nef⟩ := b2z Kf
  obtain ⟨ca0, za0, ca1, za1, nea⟩ := b2z Ka
  obtain ⟨cm0, zm0, cm1, zm1, nem⟩ := b2z Km
  obtain ⟨co0, zo0, co1, zo1, neo⟩ := b2z Ko
  obtain ⟨cr0, zr0, cr1, zr1, ner⟩ := b2z Kr
  refine wp_region_noPanic ?_
  refine wp_region_held_drew (S := (fun w' => w'.cell? ⟨(w.heap.size), 0, none⟩ = some (.int .u8 f.p) ∧ w'.cell? ⟨(w.heap.size), 1, none⟩ = some (.int .u8 f.s) ∧ w'.cell? ⟨(w.heap.size + 1), 0, none⟩ = some (.int .u8 a.v) ∧ w'.cell? ⟨(w.heap.size + 1), 1, none⟩ = some (.bool a.s) ∧ w'.cell? ⟨(w.heap.size + 1 + 1), 0, none⟩ = some (.int .u8 m.v) ∧ w'.cell? ⟨(w.heap.size + 1 + 1), 1, none⟩ = some (.bool m.s))) (by kernel_rfl) ⟨blk_cell Kf 0, blk_cell Kf 1, blk_cell Ka 0, blk_cell Ka 1, blk_cell Km 0, blk_cell Km 1⟩ (fun hHeld => ?_)
  refine tk 0 (v := ?_) rfl ?_ ?_; rotate_left; (focus (intro w hSw; (try dsimp only at hSw); go_simp; with_reducible rfl)); simp only [Act.put, tA, tB, tC]
  refine tk 1 (v := ?_) rfl ?_ ?_; rotate_left; (focus (intro w hSw; (try dsimp only at hSw); go_simp; with_reducible rfl)); simp only [Act.put, tA, tB, tC]
  refine tk 2 (v := ?_) rfl ?_ ?_; rotate_left; (focus (intro w hSw; (try dsimp only at hSw); go_simp; with_reducible rfl)); simp only [Act.put, tA, tB, tC]
  refine wpAnyH_ready (rs := [3]) (by kernel_rfl) (by simp) ?_
  refine AllReadyH.cons (o := ⟨_, _, _, _, _, _⟩) rfl (fun K hK => ?_) (AllReadyH.nil)
  go_simp
  refine (low_any 255 _).mono ?_
  rintro e w1 ⟨rfl, b1⟩
  replace b1 : Below w0.heap.size w0 w1 := (Below.refl _ _).drew.trans b1
  clear cf0 cf1 zf0 zf1 ca0 ca1 za0 za1 cm0 cm1 zm0 zm1 co0 co1 zo0 zo1 cr0 cr1 zr0 zr1 nef nea nem neo ner
  replace Kf := kp b1 Kf
  replace Ka := kp b1 Ka
  replace Km := kp b1 Km
  replace Ko := kp b1 Ko
  replace Kr := kp b1 Kr
  replace bl := bl.trans (b1.mono bl.size)
  clear b1
  obtain ⟨cf0, zf0, cf1, zf1, nef⟩ := b2z Kf
  obtain ⟨ca0, za0, ca1, za1, nea⟩ := b2z Ka
  obtain ⟨cm0, zm0, cm1, zm1, nem⟩ := b2z Km
  obtain ⟨co0, zo0, co1, zo1, neo⟩ := b2z Ko
  obtain ⟨cr0, zr0, cr1, zr1, ner⟩ := b2z Kr
  refine hK.out _ _ ⟨blk_cell Kf 0, blk_cell Kf 1, blk_cell Ka 0, blk_cell Ka 1, blk_cell Km 0, blk_cell Km 1⟩ (fun hHeld => ?_)
  clear hK K
  refine wpAnyH_ready (rs := [4]) (by kernel_rfl) (by simp) ?_
  refine AllReadyH.cons (o := ⟨_, _, _, _, _, _⟩) rfl (fun K hK => ?_) (AllReadyH.nil)
  go_simp
  refine (xor_any m ⟨255, false⟩ _).mono ?_
  rintro e w2 ⟨rfl, b2⟩
  clear cf0 cf1 zf0 zf1 ca0 ca1 za0 za1 cm0 cm1 zm0 zm1 co0 co1 zo0 zo1 cr0 cr1 zr0 zr1 nef nea nem neo ner
  replace Kf := kp b2 Kf
  replace Ka := kp b2 Ka
  replace Km := kp b2 Km
  replace Ko := kp b2 Ko
  replace Kr := kp b2 Kr
  replace bl := bl.trans (b2.mono bl.size)
  clear b2
  obtain ⟨cf0, zf0, cf1, zf1, nef⟩ := b2z Kf
  obtain ⟨ca0, za0, ca1, za1, nea⟩ := b2z Ka
  obtain ⟨cm0, zm0, cm1, zm1, nem⟩ := b2z Km
  obtain ⟨co0, zo0, co1, zo1, neo⟩ := b2z Ko
  obtain ⟨cr0, zr0, cr1, zr1, ner⟩ := b2z Kr
  refine hK.out _ _ ⟨blk_cell Kf 0, blk_cell Kf 1, blk_cell Ka 0, blk_cell Ka 1, blk_cell Km 0, blk_cell Km 1⟩ (fun hHeld => ?_)
  clear hK K
  refine wpAnyH_ready (rs := [5]) (by kernel_rfl) (by simp) ?_
  refine AllReadyH.cons (o := ⟨_, _, _, _, _, _⟩) rfl (fun K hK => ?_) (AllReadyH.nil)
  go_simp
  refine (adc_is f a (sbcM m) _).mono ?_
  rintro e w3 ⟨rfl, b3⟩
  clear cf0 cf1 zf0 zf1 ca0 ca1 za0 za1 cm0 cm1 zm0 zm1 co0 co1 zo0 zo1 cr0 cr1 zr0 zr1 nef nea nem neo ner
  replace Kf := kp b3 Kf
  replace Ka := kp b3 Ka
  replace Km := kp b3 Km
  replace Ko := kp b3 Ko
  replace Kr := kp b3 Kr
  replace bl := bl.trans (b3.mono bl.size)
  clear b3
  obtain ⟨cf0, zf0, cf1, zf1, nef⟩ := b2z Kf
  obtain ⟨ca0, za0, ca1, za1, nea⟩ := b2z Ka
  obtain ⟨cm0, zm0, cm1, zm1, nem⟩ := b2z Km
  obtain ⟨co0, zo0, co1, zo1, neo⟩ := b2z Ko
  obtain ⟨cr0, zr0, cr1, zr1, ner⟩ := b2z Kr
  refine hK.out _ _ ⟨blk_cell Kf 0, blk_cell Kf 1, blk_cell Ka 0, blk_cell Ka 1, blk_cell Km 0, blk_cell Km 1⟩ (fun hHeld => ?_)
  clear hK K
  refine tk 6 (v := ?_) rfl ?_ ?_; rotate_left; (focus (intro w hSw; (try dsimp only at hSw); go_simp; with_reducible rfl)); simp only [Act.put, tA, tB, tC]
  refine tk 7 (v := ?_) rfl ?_ ?_; rotate_left; (focus (intro w hSw; (try dsimp only at hSw); go_simp; with_reducible rfl)); simp only [Act.put, tA, tB, tC]
  refine wpAnyH_ready (rs := [8]) (by kernel_rfl) (by simp) ?_
  refine AllReadyH.cons (o := ⟨_, _, _, _, _, _⟩) rfl (fun K hK => ?_) (AllReadyH.nil)
  go_simp
  clear cf0 cf1 zf0 zf1 ca0 ca1 za0 za1 cm0 cm1 zm0 zm1 co0 co1 zo0 zo1 cr0 cr1 zr0 zr1 nef nea nem neo ner
  obtain ⟨w4, hw4⟩ : ∃ ww, ww = ((w3.setCell ⟨(w.heap.size + 1 + 1 + 1), 0, none⟩ (.int .u8 (adcB f a (sbcM m)).v)).setCell ⟨(w.heap.size + 1 + 1 + 1), 1, none⟩ (.bool (adcB f a (sbcM m)).s)) := ⟨_, rfl⟩
  rw [← hw4]
  have nnf : (w.heap.size + 1 + 1 + 1) ≠ (w.heap.size) := by first | omega | (have := blk_lt Kf; have := blk_lt Ko; have := bl.size; omega)
  replace Kf : B2 w4 (w.heap.size) (.int .u8 f.p) (.int .u8 f.s) 23 := by rw [hw4]; exact ((oth2 nnf _ _).trans Kf)
  clear nnf
  have nna : (w.heap.size + 1 + 1 + 1) ≠ (w.heap.size + 1) := by first | omega | (have := blk_lt Ka; have := blk_lt Ko; have := bl.size; omega)
  replace Ka : B2 w4 (w.heap.size + 1) (.int .u8 a.v) (.bool a.s) 25 := by rw [hw4]; exact ((oth2 nna _ _).trans Ka)
  clear nna
  have nnm : (w.heap.size + 1 + 1 + 1) ≠ (w.heap.size + 1 + 1) := by first | omega | (have := blk_lt Km; have := blk_lt Ko; have := bl.size; omega)
  replace Km : B2 w4 (w.heap.size + 1 + 1) (.int .u8 m.v) (.bool m.s) 25 := by rw [hw4]; exact ((oth2 nnm _ _).trans Km)
  clear nnm
  have nnr : (w.heap.size + 1 + 1 + 1) ≠ (w.heap.size + 1 + 1 + 1 + 1) := by first | omega | (have := blk_lt Kr; have := blk_lt Ko; have := bl.size; omega)
  replace Kr : B2 w4 (w.heap.size + 1 + 1 + 1 + 1) (.int .u8 0) (.int .u8 0) 23 := by rw [hw4]; exact ((oth2 nnr _ _).trans Kr)
  clear nnr
  replace Ko : B2 w4 (w.heap.size + 1 + 1 + 1) (.int .u8 (adcB f a (sbcM m)).v) (.bool (adcB f a (sbcM m)).s) 25 := by rw [hw4]; exact (set2 Ko _ _)
  replace bl : Below w.heap.size w w4 := by rw [hw4]; exact bs2 bl (by first | exact Nat.le_refl _ | omega | (have := bl.size; omega)) _ _
  clear hw4
  obtain ⟨cf0, zf0, cf1, zf1, nef⟩ := b2z Kf
  obtain ⟨ca0, za0, ca1, za1, nea⟩ := b2z Ka
  obtain ⟨cm0, zm0, cm1, zm1, nem⟩ := b2z Km
  obtain ⟨co0, zo0, co1, zo1, neo⟩ := b2z Ko
  obtain ⟨cr0, zr0, cr1, zr1, ner⟩ := b2z Kr
  refine hK.out _ _ ⟨blk_cell Kf 0, blk_cell Kf 1, blk_cell Ka 0, blk_cell Ka 1, blk_cell Km 0, blk_cell Km 1⟩ (fun hHeld => ?_)
  clear hK K
  refine wpAnyH_ready (rs := [9]) (by kernel_rfl) (by simp) ?_
  refine AllReadyH.cons (o := ⟨_, _, _, _, _, _⟩) rfl (fun K hK => ?_) (AllReadyH.nil)
  go_simp
  clear cf0 cf1 zf0 zf1 ca0 ca1 za0 za1 cm0 cm1 zm0 zm1 co0 co1 zo0 zo1 cr0 cr1 zr0 zr1 nef nea nem neo ner
  obtain ⟨w5, hw5⟩ : ∃ ww, ww = ((w4.setCell ⟨(w.heap.size + 1 + 1 + 1 + 1), 0, none⟩ (.int .u8 (adcF f a (sbcM m)).p)).setCell ⟨(w.heap.size + 1 + 1 + 1 + 1), 1, none⟩ (.int .u8 (adcF f a (sbcM m)).s)) := ⟨_, rfl⟩
  rw [← hw5]
  have nnf : (w.heap.size + 1 + 1 + 1 + 1) ≠ (w.heap.size) := by first | omega | (have := blk_lt Kf; have := blk_lt Kr; have := bl.size; omega)
  replace Kf : B2 w5 (w.heap.size) (.int .u8 f.p) (.int .u8 f.s) 23 := by rw [hw5]; exact ((oth2 nnf _ _).trans Kf)
  clear nnf
  have nna : (w.heap.size + 1 + 1 + 1 + 1) ≠ (w.heap.size + 1) := by first | omega | (have := blk_lt Ka; have := blk_lt Kr; have := bl.size; omega)
  replace Ka : B2 w5 (w.heap.size + 1) (.int .u8 a.v) (.bool a.s) 25 := by rw [hw5]; exact ((oth2 nna _ _).trans Ka)
  clear nna
  have nnm : (w.heap.size + 1 + 1 + 1 + 1) ≠ (w.heap.size + 1 + 1) := by first | omega | (have := blk_lt Km; have := blk_lt Kr; have := bl.size; omega)
  replace Km : B2 w5 (w.heap.size + 1 + 1) (.int .u8 m.v) (.bool m.s) 25 := by rw [hw5]; exact ((oth2 nnm _ _).trans Km)
  clear nnm
  have nno : (w.heap.size + 1 + 1 + 1 + 1) ≠ (w.heap.size + 1 + 1 + 1) := by first | omega | (have := blk_lt Ko; have := blk_lt Kr; have := bl.size; omega)
  replace Ko : B2 w5 (w.heap.size + 1 + 1 + 1) (.int .u8 (adcB f a (sbcM m)).v) (.bool (adcB f a (sbcM m)).s) 25 := by rw [hw5]; exact ((oth2 nno _ _).trans Ko)
  clear nno
  replace Kr : B2 w5 (w.heap.size + 1 + 1 + 1 + 1) (.int .u8 (adcF f a (sbcM m)).p) (.int .u8 (adcF f a (sbcM m)).s) 23 := by rw [hw5]; exact (set2 Kr _ _)
  replace bl : Below w.heap.size w w5 := by rw [hw5]; exact bs2 bl (by first | exact Nat.le_refl _ | omega | (have := bl.size; omega)) _ _
  clear hw5
  obtain ⟨cf0, zf0, cf1, zf1, nef⟩ := b2z Kf
  obtain ⟨ca0, za0, ca1, za1, nea⟩ := b2z Ka
  obtain ⟨cm0, zm0, cm1, zm1, nem⟩ := b2z Km
  obtain ⟨co0, zo0, co1, zo1, neo⟩ := b2z Ko
  obtain ⟨cr0, zr0, cr1, zr1, ner⟩ := b2z Kr
  refine hK.out _ _ ⟨blk_cell Kf 0, blk_cell Kf 1, blk_cell Ka 0, blk_cell Ka 1, blk_cell Km 0, blk_cell Km 1⟩ (fun hHeld => ?_)
  clear hK K
  refine wpAnyH_done (by kernel_rfl) (NoPanic.normal ?_) _
  go_wp2_with fail
  exact bodyPost_ret (v := .tuple #[(adcB f a (sbcM m)).V, (adcF f a (sbcM m)).V]) (by simp [results, Try.results24, go_sem, co0, co1, cr0, cr1]) rfl ⟨rfl, bl⟩
set_option maxHeartbeats 6400000 in
theorem arr_is (f : Fl) (a m : By) (w : World) : Calls Try.prog 37 #[f.V, a.V, m.V] w fun e w' => e = .returned (.tuple #[(arrB f a m).V, (arrF f a m).V]) ∧ Below w.heap.size w w' := by
  go_enter Try.func37, Try.ntmps37
  go_upto_region 1 with fail
  obtain ⟨w0, hw0⟩ : ∃ ww, ww = (((((w.alloc (.cells #[.int .u8 f.p, .int .u8 f.s] 23)).alloc (.cells #[.int .u8 a.v, .bool a.s] 25)).alloc (.cells #[.int .u8 m.v, .bool m.s] 25)).alloc (.cells #[.int .u8 0, .bool false] 25)).alloc (.cells #[.int .u8 0, .int .u8 0] 23)) := ⟨_, rfl⟩
  rw [← hw0]
  have Kf : B2 w0 (w.heap.size) (.int .u8 f.p) (.int .u8 f.s) 23 := by rw [hw0]; exact blk_alloc (blk_alloc (blk_alloc (blk_alloc (blk_new' _ (by simp)) _) _) _) _
  have Ka : B2 w0 (w.heap.size + 1) (.int .u8 a.v) (.bool a.s) 25 := by rw [hw0]; exact blk_alloc (blk_alloc (blk_alloc (blk_new' _ (by simp)) _) _) _
  have Km : B2 w0 (w.heap.size + 1 + 1) (.int .u8 m.v) (.bool m.s) 25 := by rw [hw0]; exact blk_alloc (blk_alloc (blk_new' _ (by simp)) _) _
  have Ko : B2 w0 (w.heap.size + 1 + 1 + 1) (.int .u8 0) (.bool false) 25 := by rw [hw0]; exact blk_alloc (blk_new' _ (by simp)) _
  have Kr : B2 w0 (w.heap.size + 1 + 1 + 1 + 1) (.int .u8 0) (.int .u8 0) 23 := by rw [hw0]; exact blk_new' _ (by simp)
  have qfa : w.heap.size ≠ w.heap.size + 1 := by omega
  have qfm : w.heap.size ≠ w.heap.size + 1 + 1 := by omega
  have qfo : w.heap.size ≠ w.heap.size + 1 + 1 + 1 := by omega
  have qfr : w.heap.size ≠ w.heap.size + 1 + 1 + 1 + 1 := by omega
  have qaf : w.heap.size + 1 ≠ w.heap.size := by omega
  have qam : w.heap.size + 1 ≠ w.heap.size + 1 + 1 := by omega
  have qao : w.heap.size + 1 ≠ w.heap.size + 1 + 1 + 1 := by omega
  have qar : w.heap.size + 1 ≠ w.heap.size + 1 + 1 + 1 + 1 := by omega
  have qmf : w.heap.size + 1 + 1 ≠ w.heap.size := by omega
  have qma : w.heap.size + 1 + 1 ≠ w.heap.size + 1 := by omega
  have qmo : w.heap.size + 1 + 1 ≠ w.heap.size + 1 + 1 + 1 := by omega
  have qmr : w.heap.size + 1 + 1 ≠ w.heap.size + 1 + 1 + 1 + 1 := by omega
  have qof : w.heap.size + 1 + 1 + 1 ≠ w.heap.size := by omega
  have qoa : w.heap.size + 1 + 1 + 1 ≠ w.heap.size + 1 := by omega
  have qom : w.heap.size + 1 + 1 + 1 ≠ w.heap.size + 1 + 1 := by omega
  have qor : w.heap.size + 1 + 1 + 1 ≠ w.heap.size + 1 + 1 + 1 + 1 := by omega
  have qrf : w.heap.size + 1 + 1 + 1 + 1 ≠ w.heap.size := by omega
  have qra : w.heap.size + 1 + 1 + 1 + 1 ≠ w.heap.size + 1 := by omega
  have qrm : w.heap.size + 1 + 1 + 1 + 1 ≠ w.heap.size + 1 + 1 := by omega
  have qro : w.heap.size + 1 + 1 + 1 + 1 ≠ w.heap.size + 1 + 1 + 1 := by omega
  have bl : Below w.heap.size w w0 := by rw [hw0]; (repeat first | exact .refl _ _ | exact (Below.refl _ _).drew | refine .drew ?_ | refine .alloc ?_ (by simp <;> omega) _)
  clear hw0
  obtain ⟨cf0, zf0, cf1, zf1, nef⟩ := b2z Kf
  obtain ⟨ca0, za0, ca1, za1, nea⟩ := b2z Ka
  obtain ⟨cm0, zm0, cm1, zm1, nem⟩ := b2z Km
  obtain ⟨co0, zo0, co1, zo1, neo⟩ := b2z Ko
  obtain ⟨cr0, zr0, cr1, zr1, ner⟩ := b2z Kr
  go_cut [8] (fun t8 wx => ∃ gx : Nat, t8 = .pointer (some ⟨gx, 0, none⟩) ∧ gx ≠ w.heap.size ∧ gx ≠ w.heap.size + 1 ∧ gx ≠ w.heap.size + 1 + 1 ∧ gx ≠ w.heap.size + 1 + 1 + 1 ∧ gx ≠ w.heap.size + 1 + 1 + 1 + 1 ∧ B2 wx gx (.int .u8 (rorB f (andB a m)).v) (.bool (rorB f (andB a m)).s) 25 ∧ B2 wx (w.heap.size) (.int .u8 (rorF f (andB a m)).p) (.int .u8 (rorF f (andB a m)).s) 23 ∧ B2 wx (w.heap.size + 1) (.int .u8 a.v) (.bool a.s) 25 ∧ B2 wx (w.heap.size + 1 + 1) (.int .u8 m.v) (.bool m.s) 25 ∧ B2 wx (w.heap.size + 1 + 1 + 1) (.int .u8 0) (.bool false) 25 ∧ B2 wx (w.heap.size + 1 + 1 + 1 + 1) (.int .u8 0) (.int .u8 0) 23 ∧ Below w.heap.size w wx)
  case first =>
    refine wp_region_noPanic ?_
    refine wp_region_held_drew (S := (fun w' => w'.cell? ⟨(w.heap.size + 1), 0, none⟩ = some (.int .u8 a.v) ∧ w'.cell? ⟨(w.heap.size + 1), 1, none⟩ = some (.bool a.s) ∧ w'.cell? ⟨(w.heap.size + 1 + 1), 0, none⟩ = some (.int .u8 m.v) ∧ w'.cell? ⟨(w.heap.size + 1 + 1), 1, none⟩ = some (.bool m.s))) (by kernel_rfl) ⟨blk_cell Ka 0, blk_cell Ka 1, blk_cell Km 0, blk_cell Km 1⟩ (fun hHeld => ?_)
    refine tk 1 (v := ?_) rfl ?_ ?_; rotate_left; (focus (intro w hSw; (try dsimp only at hSw); go_simp; with_reducible rfl)); simp only [Act.put, tA, tB, tC]
    refine tk 2 (v := ?_) rfl ?_ ?_; rotate_left; (focus (intro w hSw; (try dsimp only at hSw); go_simp; with_reducible rfl)); simp only [Act.put, tA, tB, tC]
    refine wpAnyH_ready (rs := [0, 3, 8]) (by kernel_rfl) (by simp) ?_
    refine AllReadyH.cons (o := ⟨_, _, _, _, _, _⟩) rfl (fun K hK => ?_) (AllReadyH.cons (o := ⟨_, _, _, _, _, _⟩) rfl (fun K hK => ?_) (AllReadyH.cons (o := ⟨_, _, _, _, _, _⟩) rfl (fun K hK => ?_) (AllReadyH.nil)))
    · go_simp
      refine hK.out _ _ ⟨blk_cell Ka 0, blk_cell Ka 1, blk_cell Km 0, blk_cell Km 1⟩ (fun hHeld => ?_)
      clear hK K
      refine wpAnyH_ready (rs := [3, 8]) (by kernel_rfl) (by simp) ?_
      refine AllReadyH.cons (o := ⟨_, _, _, _, _, _⟩) rfl (fun K hK => ?_) (AllReadyH.cons (o := ⟨_, _, _, _, _, _⟩) rfl (fun K hK => ?_) (AllReadyH.nil))
      · go_simp
        refine (and_any a m _).mono ?_
        rintro e w1 ⟨rfl, b1⟩
        replace b1 : Below w0.heap.size w0 w1 := (Below.refl _ _).drew.trans b1
        clear cf0 cf1 zf0 zf1 ca0 ca1 za0 za1 cm0 cm1 zm0 zm1 co0 co1 zo0 zo1 cr0 cr1 zr0 zr1 nef nea nem neo ner
        replace Kf := kp b1 Kf
        replace Ka := kp b1 Ka
        replace Km := kp b1 Km
        replace Ko := kp b1 Ko
        replace Kr := kp b1 Kr
        replace bl := bl.trans (b1.mono bl.size)
        clear b1
        obtain ⟨cf0, zf0, cf1, zf1, nef⟩ := b2z Kf
        obtain ⟨ca0, za0, ca1, za1, nea⟩ := b2z Ka
        obtain ⟨cm0, zm0, cm1, zm1, nem⟩ := b2z Km
        obtain ⟨co0, zo0, co1, zo1, neo⟩ := b2z Ko
        obtain ⟨cr0, zr0, cr1, zr1, ner⟩ := b2z Kr
        refine hK.out _ _ ⟨blk_cell Ka 0, blk_cell Ka 1, blk_cell Km 0, blk_cell Km 1⟩ (fun hHeld => ?_)
        clear hK K
        refine wpAnyH_ready (rs := [4, 8]) (by kernel_rfl) (by simp) ?_
        refine AllReadyH.cons (o := ⟨_, _, _, _, _, _⟩) rfl (fun K hK => ?_) (AllReadyH.cons (o := ⟨_, _, _, _, _, _⟩) rfl (fun K hK => ?_) (AllReadyH.nil))
        · go_simp
          refine (ror_is f (andB a m) _).mono ?_
          rintro e w2 ⟨rfl, b2⟩
          clear cf0 cf1 zf0 zf1 ca0 ca1 za0 za1 cm0 cm1 zm0 zm1 co0 co1 zo0 zo1 cr0 cr1 zr0 zr1 nef nea nem neo ner
          replace Kf := kp b2 Kf
          replace Ka := kp b2 Ka
          replace Km := kp b2 Km
          replace Ko := kp b2 Ko
          replace Kr := kp b2 Kr
          replace bl := bl.trans (b2.mono bl.size)
          clear b2
          obtain ⟨cf0, zf0, cf1, zf1, nef⟩ := b2z Kf
          obtain ⟨ca0, za0, ca1, za1, nea⟩ := b2z Ka
          obtain ⟨cm0, zm0, cm1, zm1, nem⟩ := b2z Km
          obtain ⟨co0, zo0, co1, zo1, neo⟩ := b2z Ko
          obtain ⟨cr0, zr0, cr1, zr1, ner⟩ := b2z Kr
          refine hK.out _ _ ⟨blk_cell Ka 0, blk_cell Ka 1, blk_cell Km 0, blk_cell Km 1⟩ (fun hHeld => ?_)
          clear hK K
          refine tk 5 (v := ?_) rfl ?_ ?_; rotate_left; (focus (intro w hSw; (try dsimp only at hSw); go_simp; with_reducible rfl)); simp only [Act.put, tA, tB, tC]
          refine tk 6 (v := ?_) rfl ?_ ?_; rotate_left; (focus (intro w hSw; (try dsimp only at hSw); go_simp; with_reducible rfl)); simp only [Act.put, tA, tB, tC]
          refine tk 7 (v := ?_) rfl ?_ ?_; rotate_left; (focus (intro w hSw; (try dsimp only at hSw); go_simp; with_reducible rfl)); simp only [Act.put, tA, tB, tC]
          refine wpAnyH_ready (rs := [8]) (by kernel_rfl) (by simp) ?_
          refine AllReadyH.cons (o := ⟨_, _, _, _, _, _⟩) rfl (fun K hK => ?_) (AllReadyH.nil)
          go_simp
          have lx : w.heap.size ≤ w2.heap.size := bl.size
          have qfx : (w.heap.size) ≠ w2.heap.size := by have := blk_lt Kf; omega
          have qxf := qfx.symm
          have qax : (w.heap.size + 1) ≠ w2.heap.size := by have := blk_lt Ka; omega
          have qxa := qax.symm
          have qmx : (w.heap.size + 1 + 1) ≠ w2.heap.size := by have := blk_lt Km; omega
          have qxm := qmx.symm
          have qox : (w.heap.size + 1 + 1 + 1) ≠ w2.heap.size := by have := blk_lt Ko; omega
          have qxo := qox.symm
          have qrx : (w.heap.size + 1 + 1 + 1 + 1) ≠ w2.heap.size := by have := blk_lt Kr; omega
          have qxr := qrx.symm
          obtain ⟨w3, hw3⟩ : ∃ ww, ww = (w2.alloc (.cells #[.int .u8 0, .bool false] 25)) := ⟨_, rfl⟩
          rw [← hw3]
          have b3 : Below w2.heap.size w2 w3 := by rw [hw3]; (repeat first | exact .refl _ _ | exact (Below.refl _ _).drew | refine .drew ?_ | refine .alloc ?_ (by simp <;> omega) _)
          have Kx : B2 w3 w2.heap.size (.int .u8 0) (.bool false) 25 := by rw [hw3]; exact blk_new _ _
          clear hw3
          clear cf0 cf1 zf0 zf1 ca0 ca1 za0 za1 cm0 cm1 zm0 zm1 co0 co1 zo0 zo1 cr0 cr1 zr0 zr1 nef nea nem neo ner
          replace Kf := kp b3 Kf
          replace Ka := kp b3 Ka
          replace Km := kp b3 Km
          replace Ko := kp b3 Ko
          replace Kr := kp b3 Kr
          replace bl := bl.trans (b3.mono bl.size)
          clear b3
          obtain ⟨cf0, zf0, cf1, zf1, nef⟩ := b2z Kf
          obtain ⟨ca0, za0, ca1, za1, nea⟩ := b2z Ka
          obtain ⟨cm0, zm0, cm1, zm1, nem⟩ := b2z Km
          obtain ⟨co0, zo0, co1, zo1, neo⟩ := b2z Ko
          obtain ⟨cr0, zr0, cr1, zr1, ner⟩ := b2z Kr
          obtain ⟨cx0, zx0, cx1, zx1, nex⟩ := b2z Kx
          refine hK.out _ _ ⟨blk_cell Ka 0, blk_cell Ka 1, blk_cell Km 0, blk_cell Km 1⟩ (fun hHeld => ?_)
          clear hK K
          refine wpAnyH_ready (rs := [9]) (by kernel_rfl) (by simp) ?_
          refine AllReadyH.cons (o := ⟨_, _, _, _, _, _⟩) rfl (fun K hK => ?_) (AllReadyH.nil)
          go_simp
          clear cf0 cf1 zf0 zf1 ca0 ca1 za0 za1 cm0 cm1 zm0 zm1 co0 co1 zo0 zo1 cr0 cr1 zr0 zr1 cx0 cx1 zx0 zx1 nef nea nem neo ner nex
          obtain ⟨w4, hw4⟩ : ∃ ww, ww = ((w3.setCell ⟨w2.heap.size, 0, none⟩ (.int .u8 (rorB f (andB a m)).v)).setCell ⟨w2.heap.size, 1, none⟩ (.bool (rorB f (andB a m)).s)) := ⟨_, rfl⟩
          rw [← hw4]
          have nnf : w2.heap.size ≠ (w.heap.size) := by first | omega | (have := blk_lt Kf; have := blk_lt Kx; have := bl.size; omega)
          replace Kf : B2 w4 (w.heap.size) (.int .u8 f.p) (.int .u8 f.s) 23 := by rw [hw4]; exact ((oth2 nnf _ _).trans Kf)
          clear nnf
          have nna : w2.heap.size ≠ (w.heap.size + 1) := by first | omega | (have := blk_lt Ka; have := blk_lt Kx; have := bl.size; omega)
          replace Ka : B2 w4 (w.heap.size + 1) (.int .u8 a.v) (.bool a.s) 25 := by rw [hw4]; exact ((oth2 nna _ _).trans Ka)
          clear nna
          have nnm : w2.heap.size ≠ (w.heap.size + 1 + 1) := by first | omega | (have := blk_lt Km; have := blk_lt Kx; have := bl.size; omega)
          replace Km : B2 w4 (w.heap.size + 1 + 1) (.int .u8 m.v) (.bool m.s) 25 := by rw [hw4]; exact ((oth2 nnm _ _).trans Km)
          clear nnm
          have nno : w2.heap.size ≠ (w.heap.size + 1 + 1 + 1) := by first | omega | (have := blk_lt Ko; have := blk_lt Kx; have := bl.size; omega)
          replace Ko : B2 w4 (w.heap.size + 1 + 1 + 1) (.int .u8 0) (.bool false) 25 := by rw [hw4]; exact ((oth2 nno _ _).trans Ko)
          clear nno
          have nnr : w2.heap.size ≠ (w.heap.size + 1 + 1 + 1 + 1) := by first | omega | (have := blk_lt Kr; have := blk_lt Kx; have := bl.size; omega)
          replace Kr : B2 w4 (w.heap.size + 1 + 1 + 1 + 1) (.int .u8 0) (.int .u8 0) 23 := by rw [hw4]; exact ((oth2 nnr _ _).trans Kr)
          clear nnr
          replace Kx : B2 w4 w2.heap.size (.int .u8 (rorB f (andB a m)).v) (.bool (rorB f (andB a m)).s) 25 := by rw [hw4]; exact (set2 Kx _ _)
          replace bl : Below w.heap.size w w4 := by rw [hw4]; exact bs2 bl (by first | exact Nat.le_refl _ | omega | (have := bl.size; omega)) _ _
          clear hw4
          obtain ⟨cf0, zf0, cf1, zf1, nef⟩ := b2z Kf
          obtain ⟨ca0, za0, ca1, za1, nea⟩ := b2z Ka
          obtain ⟨cm0, zm0, cm1, zm1, nem⟩ := b2z Km
          obtain ⟨co0, zo0, co1, zo1, neo⟩ := b2z Ko
          obtain ⟨cr0, zr0, cr1, zr1, ner⟩ := b2z Kr
          obtain ⟨cx0, zx0, cx1, zx1, nex⟩ := b2z Kx
          refine hK.out _ _ ⟨blk_cell Ka 0, blk_cell Ka 1, blk_cell Km 0, blk_cell Km 1⟩ (fun hHeld => ?_)
          clear hK K
          refine wpAnyH_ready (rs := [10]) (by kernel_rfl) (by simp) ?_
          refine AllReadyH.cons (o := ⟨_, _, _, _, _, _⟩) rfl (fun K hK => ?_) (AllReadyH.nil)
          go_simp
          clear cf0 cf1 zf0 zf1 ca0 ca1 za0 za1 cm0 cm1 zm0 zm1 co0 co1 zo0 zo1 cr0 cr1 zr0 zr1 cx0 cx1 zx0 zx1 nef nea nem neo ner nex
          obtain ⟨w5, hw5⟩ : ∃ ww, ww = ((w4.setCell ⟨(w.heap.size), 0, none⟩ (.int .u8 (rorF f (andB a m)).p)).setCell ⟨(w.heap.size), 1, none⟩ (.int .u8 (rorF f (andB a m)).s)) := ⟨_, rfl⟩
          rw [← hw5]
          have nna : (w.heap.size) ≠ (w.heap.size + 1) := by first | omega | (have := blk_lt Ka; have := blk_lt Kf; have := bl.size; omega)
          replace Ka : B2 w5 (w.heap.size + 1) (.int .u8 a.v) (.bool a.s) 25 := by rw [hw5]; exact ((oth2 nna _ _).trans Ka)
          clear nna
          have nnm : (w.heap.size) ≠ (w.heap.size + 1 + 1) := by first | omega | (have := blk_lt Km; have := blk_lt Kf; have := bl.size; omega)
          replace Km : B2 w5 (w.heap.size + 1 + 1) (.int .u8 m.v) (.bool m.s) 25 := by rw [hw5]; exact ((oth2 nnm _ _).trans Km)
          clear nnm
          have nno : (w.heap.size) ≠ (w.heap.size + 1 + 1 + 1) := by first | omega | (have := blk_lt Ko; have := blk_lt Kf; have := bl.size; omega)
          replace Ko : B2 w5 (w.heap.size + 1 + 1 + 1) (.int .u8 0) (.bool false) 25 := by rw [hw5]; exact ((oth2 nno _ _).trans Ko)
          clear nno
          have nnr : (w.heap.size) ≠ (w.heap.size + 1 + 1 + 1 + 1) := by first | omega | (have := blk_lt Kr; have := blk_lt Kf; have := bl.size; omega)
          replace Kr : B2 w5 (w.heap.size + 1 + 1 + 1 + 1) (.int .u8 0) (.int .u8 0) 23 := by rw [hw5]; exact ((oth2 nnr _ _).trans Kr)
          clear nnr
          have nnx : (w.heap.size) ≠ w2.heap.size := by first | omega | (have := blk_lt Kx; have := blk_lt Kf; have := bl.size; omega)
          replace Kx : B2 w5 w2.heap.size (.int .u8 (rorB f (andB a m)).v) (.bool (rorB f (andB a m)).s) 25 := by rw [hw5]; exact ((oth2 nnx _ _).trans Kx)
          clear nnx
          replace Kf : B2 w5 (w.heap.size) (.int .u8 (rorF f (andB a m)).p) (.int .u8 (rorF f (andB a m)).s) 23 := by rw [hw5]; exact (set2 Kf _ _)
          replace bl : Below w.heap.size w w5 := by rw [hw5]; exact bs2 bl (by first | exact Nat.le_refl _ | omega | (have := bl.size; omega)) _ _
          clear hw5
          obtain ⟨cf0, zf0, cf1, zf1, nef⟩ := b2z Kf
          obtain ⟨ca0, za0, ca1, za1, nea⟩ := b2z Ka
          obtain ⟨cm0, zm0, cm1, zm1, nem⟩ := b2z Km
          obtain ⟨co0, zo0, co1, zo1, neo⟩ := b2z Ko
          obtain ⟨cr0, zr0, cr1, zr1, ner⟩ := b2z Kr
          obtain ⟨cx0, zx0, cx1, zx1, nex⟩ := b2z Kx
          refine hK.out _ _ ⟨blk_cell Ka 0, blk_cell Ka 1, blk_cell Km 0, blk_cell Km 1⟩ (fun hHeld => ?_)
          clear hK K
          refine wpAnyH_done (by kernel_rfl) (NoPanic.normal ?_) _
          go_wp2_with fail
          go_meet
          exact ⟨_, rfl, qxf, qxa, qxm, qxo, qxr, Kx, Kf, Ka, Km, Ko, Kr, bl⟩
        · go_simp
          have lx : w.heap.size ≤ w1.heap.size := bl.size
          have qfx : (w.heap.size) ≠ w1.heap.size := by have := blk_lt Kf; omega
          have qxf := qfx.symm
          have qax : (w.heap.size + 1) ≠ w1.heap.size := by have := blk_lt Ka; omega
          have qxa := qax.symm
          have qmx : (w.heap.size + 1 + 1) ≠ w1.heap.size := by have := blk_lt Km; omega
          have qxm := qmx.symm
          have qox : (w.heap.size + 1 + 1 + 1) ≠ w1.heap.size := by have := blk_lt Ko; omega
          have qxo := qox.symm
          have qrx : (w.heap.size + 1 + 1 + 1 + 1) ≠ w1.heap.size := by have := blk_lt Kr; omega
          have qxr := qrx.symm
          obtain ⟨w2, hw2⟩ : ∃ ww, ww = (w1.alloc (.cells #[.int .u8 0, .bool false] 25)) := ⟨_, rfl⟩
          rw [← hw2]
          have b2 : Below w1.heap.size w1 w2 := by rw [hw2]; (repeat first | exact .refl _ _ | exact (Below.refl _ _).drew | refine .drew ?_ | refine .alloc ?_ (by simp <;> omega) _)
          have Kx : B2 w2 w1.heap.size (.int .u8 0) (.bool false) 25 := by rw [hw2]; exact blk_new _ _
          clear hw2
          clear cf0 cf1 zf0 zf1 ca0 ca1 za0 za1 cm0 cm1 zm0 zm1 co0 co1 zo0 zo1 cr0 cr1 zr0 zr1 nef nea nem neo ner
          replace Kf := kp b2 Kf
          replace Ka := kp b2 Ka
          replace Km := kp b2 Km
          replace Ko := kp b2 Ko
          replace Kr := kp b2 Kr
          replace bl := bl.trans (b2.mono bl.size)
          clear b2
          obtain ⟨cf0, zf0, cf1, zf1, nef⟩ := b2z Kf
          obtain ⟨ca0, za0, ca1, za1, nea⟩ := b2z Ka
          obtain ⟨cm0, zm0, cm1, zm1, nem⟩ := b2z Km
          obtain ⟨co0, zo0, co1, zo1, neo⟩ := b2z Ko
          obtain ⟨cr0, zr0, cr1, zr1, ner⟩ := b2z Kr
          obtain ⟨cx0, zx0, cx1, zx1, nex⟩ := b2z Kx
          refine hK.out _ _ ⟨blk_cell Ka 0, blk_cell Ka 1, blk_cell Km 0, blk_cell Km 1⟩ (fun hHeld => ?_)
          clear hK K
          refine wpAnyH_ready (rs := [4]) (by kernel_rfl) (by simp) ?_
          refine AllReadyH.cons (o := ⟨_, _, _, _, _, _⟩) rfl (fun K hK => ?_) (AllReadyH.nil)
          go_simp
          refine (ror_is f (andB a m) _).mono ?_
          rintro e w3 ⟨rfl, b3⟩
          clear cf0 cf1 zf0 zf1 ca0 ca1 za0 za1 cm0 cm1 zm0 zm1 co0 co1 zo0 zo1 cr0 cr1 zr0 zr1 cx0 cx1 zx0 zx1 nef nea nem neo ner nex
          replace Kf := kp b3 Kf
          replace Ka := kp b3 Ka
          replace Km := kp b3 Km
          replace Ko := kp b3 Ko
          replace Kr := kp b3 Kr
          replace Kx := kp b3 Kx
          replace bl := bl.trans (b3.mono bl.size)
          clear b3
          obtain ⟨cf0, zf0, cf1, zf1, nef⟩ := b2z Kf
          obtain ⟨ca0, za0, ca1, za1, nea⟩ := b2z Ka
          obtain ⟨cm0, zm0, cm1, zm1, nem⟩ := b2z Km
          obtain ⟨co0, zo0, co1, zo1, neo⟩ := b2z Ko
          obtain ⟨cr0, zr0, cr1, zr1, ner⟩ := b2z Kr
          obtain ⟨cx0, zx0, cx1, zx1, nex⟩ := b2z Kx
          refine hK.out _ _ ⟨blk_cell Ka 0, blk_cell Ka 1, blk_cell Km 0, blk_cell Km 1⟩ (fun hHeld => ?_)
          clear hK K
          refine tk 5 (v := ?_) rfl ?_ ?_; rotate_left; (focus (intro w hSw; (try dsimp only at hSw); go_simp; with_reducible rfl)); simp only [Act.put, tA, tB, tC]
          refine tk 6 (v := ?_) rfl ?_ ?_; rotate_left; (focus (intro w hSw; (try dsimp only at hSw); go_simp; with_reducible rfl)); simp only [Act.put, tA, tB, tC]
          refine tk 7 (v := ?_) rfl ?_ ?_; rotate_left; (focus (intro w hSw; (try dsimp only at hSw); go_simp; with_reducible rfl)); simp only [Act.put, tA, tB, tC]
          refine wpAnyH_ready (rs := [9]) (by kernel_rfl) (by simp) ?_
          refine AllReadyH.cons (o := ⟨_, _, _, _, _, _⟩) rfl (fun K hK => ?_) (AllReadyH.nil)
          go_simp
          clear cf0 cf1 zf0 zf1 ca0 ca1 za0 za1 cm0 cm1 zm0 zm1 co0 co1 zo0 zo1 cr0 cr1 zr0 zr1 cx0 cx1 zx0 zx1 nef nea nem neo ner nex
          obtain ⟨w4, hw4⟩ : ∃ ww, ww = ((w3.setCell ⟨w1.heap.size, 0, none⟩ (.int .u8 (rorB f (andB a m)).v)).setCell ⟨w1.heap.size, 1, none⟩ (.bool (rorB f (andB a m)).s)) := ⟨_, rfl⟩
          rw [← hw4]
          have nnf : w1.heap.size ≠ (w.heap.size) := by first | omega | (have := blk_lt Kf; have := blk_lt Kx; have := bl.size; omega)
          replace Kf : B2 w4 (w.heap.size) (.int .u8 f.p) (.int .u8 f.s) 23 := by rw [hw4]; exact ((oth2 nnf _ _).trans Kf)
          clear nnf
          have nna : w1.heap.size ≠ (w.heap.size + 1) := by first | omega | (have := blk_lt Ka; have := blk_lt Kx; have := bl.size; omega)
          replace Ka : B2 w4 (w.heap.size + 1) (.int .u8 a.v) (.bool a.s) 25 := by rw [hw4]; exact ((oth2 nna _ _).trans Ka)
          clear nna
          have nnm : w1.heap.size ≠ (w.heap.size + 1 + 1) := by first | omega | (have := blk_lt Km; have := blk_lt Kx; have := bl.size; omega)
          replace Km : B2 w4 (w.heap.size + 1 + 1) (.int .u8 m.v) (.bool m.s) 25 := by rw [hw4]; exact ((oth2 nnm _ _).trans Km)
          clear nnm
          have nno : w1.heap.size ≠ (w.heap.size + 1 + 1 + 1) := by first | omega | (have := blk_lt Ko; have := blk_lt Kx; have := bl.size; omega)
          replace Ko : B2 w4 (w.heap.size + 1 + 1 + 1) (.int .u8 0) (.bool false) 25 := by rw [hw4]; exact ((oth2 nno _ _).trans Ko)
          clear nno
          have nnr : w1.heap.size ≠ (w.heap.size + 1 + 1 + 1 + 1) := by first | omega | (have := blk_lt Kr; have := blk_lt Kx; have := bl.size; omega)
          replace Kr : B2 w4 (w.heap.size + 1 + 1 + 1 + 1) (.int .u8 0) (.int .u8 0) 23 := by rw [hw4]; exact ((oth2 nnr _ _).trans Kr)
          clear nnr
          replace Kx : B2 w4 w1.heap.size (.int .u8 (rorB f (andB a m)).v) (.bool (rorB f (andB a m)).s) 25 := by rw [hw4]; exact (set2 Kx _ _)
          replace bl : Below w.heap.size w w4 := by rw [hw4]; exact bs2 bl (by first | exact Nat.le_refl _ | omega | (have := bl.size; omega)) _ _
          clear hw4
          obtain ⟨cf0, zf0, cf1, zf1, nef⟩ := b2z Kf
          obtain ⟨ca0, za0, ca1, za1, nea⟩ := b2z Ka
          obtain ⟨cm0, zm0, cm1, zm1, nem⟩ := b2z Km
          obtain ⟨co0, zo0, co1, zo1, neo⟩ := b2z Ko
          obtain ⟨cr0, zr0, cr1, zr1, ner⟩ := b2z Kr
          obtain ⟨cx0, zx0, cx1, zx1, nex⟩ := b2z Kx
          refine hK.out _ _ ⟨blk_cell Ka 0, blk_cell Ka 1, blk_cell Km 0, blk_cell Km 1⟩ (fun hHeld => ?_)
          clear hK K
          refine wpAnyH_ready (rs := [10]) (by kernel_rfl) (by simp) ?_
          refine AllReadyH.cons (o := ⟨_, _, _, _, _, _⟩) rfl (fun K hK => ?_) (AllReadyH.nil)
          go_simp
          clear cf0 cf1 zf0 zf1 ca0 ca1 za0 za1 cm0 cm1 zm0 zm1 co0 co1 zo0 zo1 cr0 cr1 zr0 zr1 cx0 cx1 zx0 zx1 nef nea nem neo ner nex
          obtain ⟨w5, hw5⟩ : ∃ ww, ww = ((w4.setCell ⟨(w.heap.size), 0, none⟩ (.int .u8 (rorF f (andB a m)).p)).setCell ⟨(w.heap.size), 1, none⟩ (.int .u8 (rorF f (andB a m)).s)) := ⟨_, rfl⟩
          rw [← hw5]
          have nna : (w.heap.size) ≠ (w.heap.size + 1) := by first | omega | (have := blk_lt Ka; have := blk_lt Kf; have := bl.size; omega)
          replace Ka : B2 w5 (w.heap.size + 1) (.int .u8 a.v) (.bool a.s) 25 := by rw [hw5]; exact ((oth2 nna _ _).trans Ka)
          clear nna
          have nnm : (w.heap.size) ≠ (w.heap.size + 1 + 1) := by first | omega | (have := blk_lt Km; have := blk_lt Kf; have := bl.size; omega)
          replace Km : B2 w5 (w.heap.size + 1 + 1) (.int .u8 m.v) (.bool m.s) 25 := by rw [hw5]; exact ((oth2 nnm _ _).trans Km)
          clear nnm
          have nno : (w.heap.size) ≠ (w.heap.size + 1 + 1 + 1) := by first | omega | (have := blk_lt Ko; have := blk_lt Kf; have := bl.size; omega)
          replace Ko : B2 w5 (w.heap.size + 1 + 1 + 1) (.int .u8 0) (.bool false) 25 := by rw [hw5]; exact ((oth2 nno _ _).trans Ko)
          clear nno
          have nnr : (w.heap.size) ≠ (w.heap.size + 1 + 1 + 1 + 1) := by first | omega | (have := blk_lt Kr; have := blk_lt Kf; have := bl.size; omega)
          replace Kr : B2 w5 (w.heap.size + 1 + 1 + 1 + 1) (.int .u8 0) (.int .u8 0) 23 := by rw [hw5]; exact ((oth2 nnr _ _).trans Kr)
          clear nnr
          have nnx : (w.heap.size) ≠ w1.heap.size := by first | omega | (have := blk_lt Kx; have := blk_lt Kf; have := bl.size; omega)
          replace Kx : B2 w5 w1.heap.size (.int .u8 (rorB f (andB a m)).v) (.bool (rorB f (andB a m)).s) 25 := by rw [hw5]; exact ((oth2 nnx _ _).trans Kx)
          clear nnx
          replace Kf : B2 w5 (w.heap.size) (.int .u8 (rorF f (andB a m)).p) (.int .u8 (rorF f (andB a m)).s) 23 := by rw [hw5]; exact (set2 Kf _ _)
          replace bl : Below w.heap.size w w5 := by rw [hw5]; exact bs2 bl (by first | exact Nat.le_refl _ | omega | (have := bl.size; omega)) _ _
          clear hw5
          obtain ⟨cf0, zf0, cf1, zf1, nef⟩ := b2z Kf
          obtain ⟨ca0, za0, ca1, za1, nea⟩ := b2z Ka
          obtain ⟨cm0, zm0, cm1, zm1, nem⟩ := b2z Km
          obtain ⟨co0, zo0, co1, zo1, neo⟩ := b2z Ko
          obtain ⟨cr0, zr0, cr1, zr1, ner⟩ := b2z Kr
          obtain ⟨cx0, zx0, cx1, zx1, nex⟩ := b2z Kx
          refine hK.out _ _ ⟨blk_cell Ka 0, blk_cell Ka 1, blk_cell Km 0, blk_cell Km 1⟩ (fun hHeld => ?_)
          clear hK K
          refine wpAnyH_done (by kernel_rfl) (NoPanic.normal ?_) _
          go_wp2_with fail
          go_meet
          exact ⟨_, rfl, qxf, qxa, qxm, qxo, qxr, Kx, Kf, Ka, Km, Ko, Kr, bl⟩
      · go_simp
        have lx : w.heap.size ≤ w0.heap.size := bl.size
        have qfx : (w.heap.size) ≠ w0.heap.size := by have := blk_lt Kf; omega
        have qxf := qfx.symm
        have qax : (w.heap.size + 1) ≠ w0.heap.size := by have := blk_lt Ka; omega
        have qxa := qax.symm
        have qmx : (w.heap.size + 1 + 1) ≠ w0.heap.size := by have := blk_lt Km; omega
        have qxm := qmx.symm
        have qox : (w.heap.size + 1 + 1 + 1) ≠ w0.heap.size := by have := blk_lt Ko; omega
        have qxo := qox.symm
        have qrx : (w.heap.size + 1 + 1 + 1 + 1) ≠ w0.heap.size := by have := blk_lt Kr; omega
        have qxr := qrx.symm
        obtain ⟨w1, hw1⟩ : ∃ ww, ww = (w0.alloc (.cells #[.int .u8 0, .bool false] 25)).drew := ⟨_, rfl⟩
        rw [← hw1]
        have b1 : Below w0.heap.size w0 w1 := by rw [hw1]; (repeat first | exact .refl _ _ | exact (Below.refl _ _).drew | refine .drew ?_ | refine .alloc ?_ (by simp <;> omega) _)
        have Kx : B2 w1 w0.heap.size (.int .u8 0) (.bool false) 25 := by rw [hw1]; exact (drew_heap _ _).trans (blk_new _ _)
        clear hw1
        clear cf0 cf1 zf0 zf1 ca0 ca1 za0 za1 cm0 cm1 zm0 zm1 co0 co1 zo0 zo1 cr0 cr1 zr0 zr1 nef nea nem neo ner
        replace Kf := kp b1 Kf
        replace Ka := kp b1 Ka
        replace Km := kp b1 Km
        replace Ko := kp b1 Ko
        replace Kr := kp b1 Kr
        replace bl := bl.trans (b1.mono bl.size)
        clear b1
        obtain ⟨cf0, zf0, cf1, zf1, nef⟩ := b2z Kf
        obtain ⟨ca0, za0, ca1, za1, nea⟩ := b2z Ka
        obtain ⟨cm0, zm0, cm1, zm1, nem⟩ := b2z Km
        obtain ⟨co0, zo0, co1, zo1, neo⟩ := b2z Ko
        obtain ⟨cr0, zr0, cr1, zr1, ner⟩ := b2z Kr
        obtain ⟨cx0, zx0, cx1, zx1, nex⟩ := b2z Kx
        refine hK.out _ _ ⟨blk_cell Ka 0, blk_cell Ka 1, blk_cell Km 0, blk_cell Km 1⟩ (fun hHeld => ?_)
        clear hK K
        refine wpAnyH_ready (rs := [3]) (by kernel_rfl) (by simp) ?_
        refine AllReadyH.cons (o := ⟨_, _, _, _, _, _⟩) rfl (fun K hK => ?_) (AllReadyH.nil)
        go_simp
        refine (and_any a m _).mono ?_
        rintro e w2 ⟨rfl, b2⟩
        clear cf0 cf1 zf0 zf1 ca0 ca1 za0 za1 cm0 cm1 zm0 zm1 co0 co1 zo0 zo1 cr0 cr1 zr0 zr1 cx0 cx1 zx0 zx1 nef nea nem neo ner nex
        replace Kf := kp b2 Kf
        replace Ka := kp b2 Ka
        replace Km := kp b2 Km
        replace Ko := kp b2 Ko
        replace Kr := kp b2 Kr
        replace Kx := kp b2 Kx
        replace bl := bl.trans (b2.mono bl.size)
        clear b2
        obtain ⟨cf0, zf0, cf1, zf1, nef⟩ := b2z Kf
        obtain ⟨ca0, za0, ca1, za1, nea⟩ := b2z Ka
        obtain ⟨cm0, zm0, cm1, zm1, nem⟩ := b2z Km
        obtain ⟨co0, zo0, co1, zo1, neo⟩ := b2z Ko
        obtain ⟨cr0, zr0, cr1, zr1, ner⟩ := b2z Kr
        obtain ⟨cx0, zx0, cx1, zx1, nex⟩ := b2z Kx
        refine hK.out _ _ ⟨blk_cell Ka 0, blk_cell Ka 1, blk_cell Km 0, blk_cell Km 1⟩ (fun hHeld => ?_)
        clear hK K
        refine wpAnyH_ready (rs := [4]) (by kernel_rfl) (by simp) ?_
        refine AllReadyH.cons (o := ⟨_, _, _, _, _, _⟩) rfl (fun K hK => ?_) (AllReadyH.nil)
        go_simp
        refine (ror_is f (andB a m) _).mono ?_
        rintro e w3 ⟨rfl, b3⟩
        clear cf0 cf1 zf0 zf1 ca0 ca1 za0 za1 cm0 cm1 zm0 zm1 co0 co1 zo0 zo1 cr0 cr1 zr0 zr1 cx0 cx1 zx0 zx1 nef nea nem neo ner nex
        replace Kf := kp b3 Kf
        replace Ka := kp b3 Ka
        replace Km := kp b3 Km
        replace Ko := kp b3 Ko
        replace Kr := kp b3 Kr
        replace Kx := kp b3 Kx
        replace bl := bl.trans (b3.mono bl.size)
        clear b3
        obtain ⟨cf0, zf0, cf1, zf1, nef⟩ := b2z Kf
        obtain ⟨ca0, za0, ca1, za1, nea⟩ := b2z Ka
        obtain ⟨cm0, zm0, cm1, zm1, nem⟩ := b2z Km
        obtain ⟨co0, zo0, co1, zo1, neo⟩ := b2z Ko
        obtain ⟨cr0, zr0, cr1, zr1, ner⟩ := b2z Kr
        obtain ⟨cx0, zx0, cx1, zx1, nex⟩ := b2z Kx
        refine hK.out _ _ ⟨blk_cell Ka 0, blk_cell Ka 1, blk_cell Km 0, blk_cell Km 1⟩ (fun hHeld => ?_)
        clear hK K
        refine tk 5 (v := ?_) rfl ?_ ?_; rotate_left; (focus (intro w hSw; (try dsimp only at hSw); go_simp; with_reducible rfl)); simp only [Act.put, tA, tB, tC]
        refine tk 6 (v := ?_) rfl ?_ ?_; rotate_left; (focus (intro w hSw; (try dsimp only at hSw); go_simp; with_reducible rfl)); simp only [Act.put, tA, tB, tC]
        refine tk 7 (v := ?_) rfl ?_ ?_; rotate_left; (focus (intro w hSw; (try dsimp only at hSw); go_simp; with_reducible rfl)); simp only [Act.put, tA, tB, tC]
        refine wpAnyH_ready (rs := [9]) (by kernel_rfl) (by simp) ?_
        refine AllReadyH.cons (o := ⟨_, _, _, _, _, _⟩) rfl (fun K hK => ?_) (AllReadyH.nil)
        go_simp
        clear cf0 cf1 zf0 zf1 ca0 ca1 za0 za1 cm0 cm1 zm0 zm1 co0 co1 zo0 zo1 cr0 cr1 zr0 zr1 cx0 cx1 zx0 zx1 nef nea nem neo ner nex
        obtain ⟨w4, hw4⟩ : ∃ ww, ww = ((w3.setCell ⟨w0.heap.size, 0, none⟩ (.int .u8 (rorB f (andB a m)).v)).setCell ⟨w0.heap.size, 1, none⟩ (.bool (rorB f (andB a m)).s)) := ⟨_, rfl⟩
        rw [← hw4]
        have nnf : w0.heap.size ≠ (w.heap.size) := by first | omega | (have := blk_lt Kf; have := blk_lt Kx; have := bl.size; omega)
        replace Kf : B2 w4 (w.heap.size) (.int .u8 f.p) (.int .u8 f.s) 23 := by rw [hw4]; exact ((oth2 nnf _ _).trans Kf)
        clear nnf
        have nna : w0.heap.size ≠ (w.heap.size + 1) := by first | omega | (have := blk_lt Ka; have := blk_lt Kx; have := bl.size; omega)
        replace Ka : B2 w4 (w.heap.size + 1) (.int .u8 a.v) (.bool a.s) 25 := by rw [hw4]; exact ((oth2 nna _ _).trans Ka)
        clear nna
        have nnm : w0.heap.size ≠ (w.heap.size + 1 + 1) := by first | omega | (have := blk_lt Km; have := blk_lt Kx; have := bl.size; omega)
        replace Km : B2 w4 (w.heap.size + 1 + 1) (.int .u8 m.v) (.bool m.s) 25 := by rw [hw4]; exact ((oth2 nnm _ _).trans Km)
        clear nnm
        have nno : w0.heap.size ≠ (w.heap.size + 1 + 1 + 1) := by first | omega | (have := blk_lt Ko; have := blk_lt Kx; have := bl.size; omega)
        replace Ko : B2 w4 (w.heap.size + 1 + 1 + 1) (.int .u8 0) (.bool false) 25 := by rw [hw4]; exact ((oth2 nno _ _).trans Ko)
        clear nno
        have nnr : w0.heap.size ≠ (w.heap.size + 1 + 1 + 1 + 1) := by first | omega | (have := blk_lt Kr; have := blk_lt Kx; have := bl.size; omega)
        replace Kr : B2 w4 (w.heap.size + 1 + 1 + 1 + 1) (.int .u8 0) (.int .u8 0) 23 := by rw [hw4]; exact ((oth2 nnr _ _).trans Kr)
        clear nnr
        replace Kx : B2 w4 w0.heap.size (.int .u8 (rorB f (andB a m)).v) (.bool (rorB f (andB a m)).s) 25 := by rw [hw4]; exact (set2 Kx _ _)
        replace bl : Below w.heap.size w w4 := by rw [hw4]; exact bs2 bl (by first | exact Nat.le_refl _ | omega | (have := bl.size; omega)) _ _
        clear hw4
        obtain ⟨cf0, zf0, cf1, zf1, nef⟩ := b2z Kf
        obtain ⟨ca0, za0, ca1, za1, nea⟩ := b2z Ka
        obtain ⟨cm0, zm0, cm1, zm1, nem⟩ := b2z Km
        obtain ⟨co0, zo0, co1, zo1, neo⟩ := b2z Ko
        obtain ⟨cr0, zr0, cr1, zr1, ner⟩ := b2z Kr
        obtain ⟨cx0, zx0, cx1, zx1, nex⟩ := b2z Kx
        refine hK.out _ _ ⟨blk_cell Ka 0, blk_cell Ka 1, blk_cell Km 0, blk_cell Km 1⟩ (fun hHeld => ?_)
        clear hK K
        refine wpAnyH_ready (rs := [10]) (by kernel_rfl) (by simp) ?_
        refine AllReadyH.cons (o := ⟨_, _, _, _, _, _⟩) rfl (fun K hK => ?_) (AllReadyH.nil)
        go_simp
        clear cf0 cf1 zf0 zf1 ca0 ca1 za0 za1 cm0 cm1 zm0 zm1 co0 co1 zo0 zo1 cr0 cr1 zr0 zr1 cx0 cx1 zx0 zx1 nef nea nem neo ner nex
        obtain ⟨w5, hw5⟩ : ∃ ww, ww = ((w4.setCell ⟨(w.heap.size), 0, none⟩ (.int .u8 (rorF f (andB a m)).p)).setCell ⟨(w.heap.size), 1, none⟩ (.int .u8 (rorF f (andB a m)).s)) := ⟨_, rfl⟩
        rw [← hw5]
        have nna : (w.heap.size) ≠ (w.heap.size + 1) := by first | omega | (have := blk_lt Ka; have := blk_lt Kf; have := bl.size; omega)
        replace Ka : B2 w5 (w.heap.size + 1) (.int .u8 a.v) (.bool a.s) 25 := by rw [hw5]; exact ((oth2 nna _ _).trans Ka)
        clear nna
        have nnm : (w.heap.size) ≠ (w.heap.size + 1 + 1) := by first | omega | (have := blk_lt Km; have := blk_lt Kf; have := bl.size; omega)
        replace Km : B2 w5 (w.heap.size + 1 + 1) (.int .u8 m.v) (.bool m.s) 25 := by rw [hw5]; exact ((oth2 nnm _ _).trans Km)
        clear nnm
        have nno : (w.heap.size) ≠ (w.heap.size + 1 + 1 + 1) := by first | omega | (have := blk_lt Ko; have := blk_lt Kf; have := bl.size; omega)
        replace Ko : B2 w5 (w.heap.size + 1 + 1 + 1) (.int .u8 0) (.bool false) 25 := by rw [hw5]; exact ((oth2 nno _ _).trans Ko)
        clear nno
        have nnr : (w.heap.size) ≠ (w.heap.size + 1 + 1 + 1 + 1) := by first | omega | (have := blk_lt Kr; have := blk_lt Kf; have := bl.size; omega)
        replace Kr : B2 w5 (w.heap.size + 1 + 1 + 1 + 1) (.int .u8 0) (.int .u8 0) 23 := by rw [hw5]; exact ((oth2 nnr _ _).trans Kr)
        clear nnr
        have nnx : (w.heap.size) ≠ w0.heap.size := by first | omega | (have := blk_lt Kx; have := blk_lt Kf; have := bl.size; omega)
        replace Kx : B2 w5 w0.heap.size (.int .u8 (rorB f (andB a m)).v) (.bool (rorB f (andB a m)).s) 25 := by rw [hw5]; exact ((oth2 nnx _ _).trans Kx)
        clear nnx
        replace Kf : B2 w5 (w.heap.size) (.int .u8 (rorF f (andB a m)).p) (.int .u8 (rorF f (andB a m)).s) 23 := by rw [hw5]; exact (set2 Kf _ _)
        replace bl : Below w.heap.size w w5 := by rw [hw5]; exact bs2 bl (by first | exact Nat.le_refl _ | omega | (have := bl.size; omega)) _ _
        clear hw5
        obtain ⟨cf0, zf0, cf1, zf1, nef⟩ := b2z Kf
        obtain ⟨ca0, za0, ca1, za1, nea⟩ := b2z Ka
        obtain ⟨cm0, zm0, cm1, zm1, nem⟩ := b2z Km
        obtain ⟨co0, zo0, co1, zo1, neo⟩ := b2z Ko
        obtain ⟨cr0, zr0, cr1, zr1, ner⟩ := b2z Kr
        obtain ⟨cx0, zx0, cx1, zx1, nex⟩ := b2z Kx
        refine hK.out _ _ ⟨blk_cell Ka 0, blk_cell Ka 1, blk_cell Km 0, blk_cell Km 1⟩ (fun hHeld => ?_)
        clear hK K
        refine wpAnyH_done (by kernel_rfl) (NoPanic.normal ?_) _
        go_wp2_with fail
        go_meet
        exact ⟨_, rfl, qxf, qxa, qxm, qxo, qxr, Kx, Kf, Ka, Km, Ko, Kr, bl⟩
    · go_simp
      refine (and_any a m _).mono ?_
      rintro e w1 ⟨rfl, b1⟩
      replace b1 : Below w0.heap.size w0 w1 := (Below.refl _ _).drew.trans b1
      clear cf0 cf1 zf0 zf1 ca0 ca1 za0 za1 cm0 cm1 zm0 zm1 co0 co1 zo0 zo1 cr0 cr1 zr0 zr1 nef nea nem neo ner
      replace Kf := kp b1 Kf
      replace Ka := kp b1 Ka
      replace Km := kp b1 Km
      replace Ko := kp b1 Ko
      replace Kr := kp b1 Kr
      replace bl := bl.trans (b1.mono bl.size)
      clear b1
      obtain ⟨cf0, zf0, cf1, zf1, nef⟩ := b2z Kf
      obtain ⟨ca0, za0, ca1, za1, nea⟩ := b2z Ka
      obtain ⟨cm0, zm0, cm1, zm1, nem⟩ := b2z Km
      obtain ⟨co0, zo0, co1, zo1, neo⟩ := b2z Ko
      obtain ⟨cr0, zr0, cr1, zr1, ner⟩ := b2z Kr
      refine hK.out _ _ ⟨blk_cell Ka 0, blk_cell Ka 1, blk_cell Km 0, blk_cell Km 1⟩ (fun hHeld => ?_)
      clear hK K
      refine wpAnyH_ready (rs := [0, 8]) (by kernel_rfl) (by simp) ?_
      refine AllReadyH.cons (o := ⟨_, _, _, _, _, _⟩) rfl (fun K hK => ?_) (AllReadyH.cons (o := ⟨_, _, _, _, _, _⟩) rfl (fun K hK => ?_) (AllReadyH.nil))
      · go_simp
        refine hK.out _ _ ⟨blk_cell Ka 0, blk_cell Ka 1, blk_cell Km 0, blk_cell Km 1⟩ (fun hHeld => ?_)
        clear hK K
        refine wpAnyH_ready (rs := [4, 8]) (by kernel_rfl) (by simp) ?_
        refine AllReadyH.cons (o := ⟨_, _, _, _, _, _⟩) rfl (fun K hK => ?_) (AllReadyH.cons (o := ⟨_, _, _, _, _, _⟩) rfl (fun K hK => ?_) (AllReadyH.nil))
        · go_simp
          refine (ror_is f (andB a m) _).mono ?_
          rintro e w2 ⟨rfl, b2⟩
          clear cf0 cf1 zf0 zf1 ca0 ca1 za0 za1 cm0 cm1 zm0 zm1 co0 co1 zo0 zo1 cr0 cr1 zr0 zr1 nef nea nem neo ner
          replace Kf := kp b2 Kf
          replace Ka := kp b2 Ka
          replace Km := kp b2 Km
          replace Ko := kp b2 Ko
          replace Kr := kp b2 Kr
          replace bl := bl.trans (b2.mono bl.size)
          clear b2
          obtain ⟨cf0, zf0, cf1, zf1, nef⟩ := b2z Kf
          obtain ⟨ca0, za0, ca1, za1, nea⟩ := b2z Ka
          obtain ⟨cm0, zm0, cm1, zm1, nem⟩ := b2z Km
          obtain ⟨co0, zo0, co1, zo1, neo⟩ := b2z Ko
          obtain ⟨cr0, zr0, cr1, zr1, ner⟩ := b2z Kr
          refine hK.out _ _ ⟨blk_cell Ka 0, blk_cell Ka 1, blk_cell Km 0, blk_cell Km 1⟩ (fun hHeld => ?_)
          clear hK K
          refine tk 5 (v := ?_) rfl ?_ ?_; rotate_left; (focus (intro w hSw; (try dsimp only at hSw); go_simp; with_reducible rfl)); simp only [Act.put, tA, tB, tC]
          refine tk 6 (v := ?_) rfl ?_ ?_; rotate_left; (focus (intro w hSw; (try dsimp only at hSw); go_simp; with_reducible rfl)); simp only [Act.put, tA, tB, tC]
          refine tk 7 (v := ?_) rfl ?_ ?_; rotate_left; (focus (intro w hSw; (try dsimp only at hSw); go_simp; with_reducible rfl)); simp only [Act.put, tA, tB, tC]
          refine wpAnyH_ready (rs := [8]) (by kernel_rfl) (by simp) ?_
          refine AllReadyH.cons (o := ⟨_, _, _, _, _, _⟩) rfl (fun K hK => ?_) (AllReadyH.nil)
          go_simp
          have lx : w.heap.size ≤ w2.heap.size := bl.size
          have qfx : (w.heap.size) ≠ w2.heap.size := by have := blk_lt Kf; omega
          have qxf := qfx.symm
          have qax : (w.heap.size + 1) ≠ w2.heap.size := by have := blk_lt Ka; omega
          have qxa := qax.symm
          have qmx : (w.heap.size + 1 + 1) ≠ w2.heap.size := by have := blk_lt Km; omega
          have qxm := qmx.symm
          have qox : (w.heap.size + 1 + 1 + 1) ≠ w2.heap.size := by have := blk_lt Ko; omega
          have qxo := qox.symm
          have qrx : (w.heap.size + 1 + 1 + 1 + 1) ≠ w2.heap.size := by have := blk_lt Kr; omega
          have qxr := qrx.symm
          obtain ⟨w3, hw3⟩ : ∃ ww, ww = (w2.alloc (.cells #[.int .u8 0, .bool false] 25)) := ⟨_, rfl⟩
          rw [← hw3]
          have b3 : Below w2.heap.size w2 w3 := by rw [hw3]; (repeat first | exact .refl _ _ | exact (Below.refl _ _).drew | refine .drew ?_ | refine .alloc ?_ (by simp <;> omega) _)
          have Kx : B2 w3 w2.heap.size (.int .u8 0) (.bool false) 25 := by rw [hw3]; exact blk_new _ _
          clear hw3
          clear cf0 cf1 zf0 zf1 ca0 ca1 za0 za1 cm0 cm1 zm0 zm1 co0 co1 zo0 zo1 cr0 cr1 zr0 zr1 nef nea nem neo ner
          replace Kf := kp b3 Kf
          replace Ka := kp b3 Ka
          replace Km := kp b3 Km
          replace Ko := kp b3 Ko
          replace Kr := kp b3 Kr
          replace bl := bl.trans (b3.mono bl.size)
          clear b3
          obtain ⟨cf0, zf0, cf1, zf1, nef⟩ := b2z Kf
          obtain ⟨ca0, za0, ca1, za1, nea⟩ := b2z Ka
          obtain ⟨cm0, zm0, cm1, zm1, nem⟩ := b2z Km
          obtain ⟨co0, zo0, co1, zo1, neo⟩ := b2z Ko
          obtain ⟨cr0, zr0, cr1, zr1, ner⟩ := b2z Kr
          obtain ⟨cx0, zx0, cx1, zx1, nex⟩ := b2z Kx
          refine hK.out _ _ ⟨blk_cell Ka 0, blk_cell Ka 1, blk_cell Km 0, blk_cell Km 1⟩ (fun hHeld => ?_)
          clear hK K
          refine wpAnyH_ready (rs := [9]) (by kernel_rfl) (by simp) ?_
          refine AllReadyH.cons (o := ⟨_, _, _, _, _, _⟩) rfl (fun K hK => ?_) (AllReadyH.nil)
          go_simp
          clear cf0 cf1 zf0 zf1 ca0 ca1 za0 za1 cm0 cm1 zm0 zm1 co0 co1 zo0 zo1 cr0 cr1 zr0 zr1 cx0 cx1 zx0 zx1 nef nea nem neo ner nex
          obtain ⟨w4, hw4⟩ : ∃ ww, ww = ((w3.setCell ⟨w2.heap.size, 0, none⟩ (.int .u8 (rorB f (andB a m)).v)).setCell ⟨w2.heap.size, 1, none⟩ (.bool (rorB f (andB a m)).s)) := ⟨_, rfl⟩
          rw [← hw4]
          have nnf : w2.heap.size ≠ (w.heap.size) := by first | omega | (have := blk_lt Kf; have := blk_lt Kx; have := bl.size; omega)
          replace Kf : B2 w4 (w.heap.size) (.int .u8 f.p) (.int .u8 f.s) 23 := by rw [hw4]; exact ((oth2 nnf _ _).trans Kf)
          clear nnf
          have nna : w2.heap.size ≠ (w.heap.size + 1) := by first | omega | (have := blk_lt Ka; have := blk_lt Kx; have := bl.size; omega)
          replace Ka : B2 w4 (w.heap.size + 1) (.int .u8 a.v) (.bool a.s) 25 := by rw [hw4]; exact ((oth2 nna _ _).trans Ka)
          clear nna
          have nnm : w2.heap.size ≠ (w.heap.size + 1 + 1) := by first | omega | (have := blk_lt Km; have := blk_lt Kx; have := bl.size; omega)
          replace Km : B2 w4 (w.heap.size + 1 + 1) (.int .u8 m.v) (.bool m.s) 25 := by rw [hw4]; exact ((oth2 nnm _ _).trans Km)
          clear nnm
          have nno : w2.heap.size ≠ (w.heap.size + 1 + 1 + 1) := by first | omega | (have := blk_lt Ko; have := blk_lt Kx; have := bl.size; omega)
          replace Ko : B2 w4 (w.heap.size + 1 + 1 + 1) (.int .u8 0) (.bool false) 25 := by rw [hw4]; exact ((oth2 nno _ _).trans Ko)
          clear nno
          have nnr : w2.heap.size ≠ (w.heap.size + 1 + 1 + 1 + 1) := by first | omega | (have := blk_lt Kr; have := blk_lt Kx; have := bl.size; omega)
          replace Kr : B2 w4 (w.heap.size + 1 + 1 + 1 + 1) (.int .u8 0) (.int .u8 0) 23 := by rw [hw4]; exact ((oth2 nnr _ _).trans Kr)
          clear nnr
          replace Kx : B2 w4 w2.heap.size (.int .u8 (rorB f (andB a m)).v) (.bool (rorB f (andB a m)).s) 25 := by rw [hw4]; exact (set2 Kx _ _)
          replace bl : Below w.heap.size w w4 := by rw [hw4]; exact bs2 bl (by first | exact Nat.le_refl _ | omega | (have := bl.size; omega)) _ _
          clear hw4
          obtain ⟨cf0, zf0, cf1, zf1, nef⟩ := b2z Kf
          obtain ⟨ca0, za0, ca1, za1, nea⟩ := b2z Ka
          obtain ⟨cm0, zm0, cm1, zm1, nem⟩ := b2z Km
          obtain ⟨co0, zo0, co1, zo1, neo⟩ := b2z Ko
          obtain ⟨cr0, zr0, cr1, zr1, ner⟩ := b2z Kr
          obtain ⟨cx0, zx0, cx1, zx1, nex⟩ := b2z Kx
          refine hK.out _ _ ⟨blk_cell Ka 0, blk_cell Ka 1, blk_cell Km 0, blk_cell Km 1⟩ (fun hHeld => ?_)
          clear hK K
          refine wpAnyH_ready (rs := [10]) (by kernel_rfl) (by simp) ?_
          refine AllReadyH.cons (o := ⟨_, _, _, _, _, _⟩) rfl (fun K hK => ?_) (AllReadyH.nil)
          go_simp
          clear cf0 cf1 zf0 zf1 ca0 ca1 za0 za1 cm0 cm1 zm0 zm1 co0 co1 zo0 zo1 cr0 cr1 zr0 zr1 cx0 cx1 zx0 zx1 nef nea nem neo ner nex
          obtain ⟨w5, hw5⟩ : ∃ ww, ww = ((w4.setCell ⟨(w.heap.size), 0, none⟩ (.int .u8 (rorF f (andB a m)).p)).setCell ⟨(w.heap.size), 1, none⟩ (.int .u8 (rorF f (andB a m)).s)) := ⟨_, rfl⟩
          rw [← hw5]
          have nna : (w.heap.size) ≠ (w.heap.size + 1) := by first | omega | (have := blk_lt Ka; have := blk_lt Kf; have := bl.size; omega)
          replace Ka : B2 w5 (w.heap.size + 1) (.int .u8 a.v) (.bool a.s) 25 := by rw [hw5]; exact ((oth2 nna _ _).trans Ka)
          clear nna
          have nnm : (w.heap.size) ≠ (w.heap.size + 1 + 1) := by first | omega | (have := blk_lt Km; have := blk_lt Kf; have := bl.size; omega)
          replace Km : B2 w5 (w.heap.size + 1 + 1) (.int .u8 m.v) (.bool m.s) 25 := by rw [hw5]; exact ((oth2 nnm _ _).trans Km)
          clear nnm
          have nno : (w.heap.size) ≠ (w.heap.size + 1 + 1 + 1) := by first | omega | (have := blk_lt Ko; have := blk_lt Kf; have := bl.size; omega)
          replace Ko : B2 w5 (w.heap.size + 1 + 1 + 1) (.int .u8 0) (.bool false) 25 := by rw [hw5]; exact ((oth2 nno _ _).trans Ko)
          clear nno
          have nnr : (w.heap.size) ≠ (w.heap.size + 1 + 1 + 1 + 1) := by first | omega | (have := blk_lt Kr; have := blk_lt Kf; have := bl.size; omega)
          replace Kr : B2 w5 (w.heap.size + 1 + 1 + 1 + 1) (.int .u8 0) (.int .u8 0) 23 := by rw [hw5]; exact ((oth2 nnr _ _).trans Kr)
          clear nnr
          have nnx : (w.heap.size) ≠ w2.heap.size := by first | omega | (have := blk_lt Kx; have := blk_lt Kf; have := bl.size; omega)
          replace Kx : B2 w5 w2.heap.size (.int .u8 (rorB f (andB a m)).v) (.bool (rorB f (andB a m)).s) 25 := by rw [hw5]; exact ((oth2 nnx _ _).trans Kx)
          clear nnx
          replace Kf : B2 w5 (w.heap.size) (.int .u8 (rorF f (andB a m)).p) (.int .u8 (rorF f (andB a m)).s) 23 := by rw [hw5]; exact (set2 Kf _ _)
          replace bl : Below w.heap.size w w5 := by rw [hw5]; exact bs2 bl (by first | exact Nat.le_refl _ | omega | (have := bl.size; omega)) _ _
          clear hw5
          obtain ⟨cf0, zf0, cf1, zf1, nef⟩ := b2z Kf
          obtain ⟨ca0, za0, ca1, za1, nea⟩ := b2z Ka
          obtain ⟨cm0, zm0, cm1, zm1, nem⟩ := b2z Km
          obtain ⟨co0, zo0, co1, zo1, neo⟩ := b2z Ko
          obtain ⟨cr0, zr0, cr1, zr1, ner⟩ := b2z Kr
          obtain ⟨cx0, zx0, cx1, zx1, nex⟩ := b2z Kx
          refine hK.out _ _ ⟨blk_cell Ka 0, blk_cell Ka 1, blk_cell Km 0, blk_cell Km 1⟩ (fun hHeld => ?_)
          clear hK K
          refine wpAnyH_done (by kernel_rfl) (NoPanic.normal ?_) _
          go_wp2_with fail
          go_meet
          exact ⟨_, rfl, qxf, qxa, qxm, qxo, qxr, Kx, Kf, Ka, Km, Ko, Kr, bl⟩
        · go_simp
          have lx : w.heap.size ≤ w1.heap.size := bl.size
          have qfx : (w.heap.size) ≠ w1.heap.size := by have := blk_lt Kf; omega
          have qxf := qfx.symm
          have qax : (w.heap.size + 1) ≠ w1.heap.size := by have := blk_lt Ka; omega
          have qxa := qax.symm
          have qmx : (w.heap.size + 1 + 1) ≠ w1.heap.size := by have := blk_lt Km; omega
          have qxm := qmx.symm
          have qox : (w.heap.size + 1 + 1 + 1) ≠ w1.heap.size := by have := blk_lt Ko; omega
          have qxo := qox.symm
          have qrx : (w.heap.size + 1 + 1 + 1 + 1) ≠ w1.heap.size := by have := blk_lt Kr; omega
          have qxr := qrx.symm
          obtain ⟨w2, hw2⟩ : ∃ ww, ww = (w1.alloc (.cells #[.int .u8 0, .bool false] 25)) := ⟨_, rfl⟩
          rw [← hw2]
          have b2 : Below w1.heap.size w1 w2 := by rw [hw2]; (repeat first | exact .refl _ _ | exact (Below.refl _ _).drew | refine .drew ?_ | refine .alloc ?_ (by simp <;> omega) _)
          have Kx : B2 w2 w1.heap.size (.int .u8 0) (.bool false) 25 := by rw [hw2]; exact blk_new _ _
          clear hw2
          clear cf0 cf1 zf0 zf1 ca0 ca1 za0 za1 cm0 cm1 zm0 zm1 co0 co1 zo0 zo1 cr0 cr1 zr0 zr1 nef nea nem neo ner
          replace Kf := kp b2 Kf
          replace Ka := kp b2 Ka
          replace Km := kp b2 Km
          replace Ko := kp b2 Ko
          replace Kr := kp b2 Kr
          replace bl := bl.trans (b2.mono bl.size)
          clear b2
          obtain ⟨cf0, zf0, cf1, zf1, nef⟩ := b2z Kf
          obtain ⟨ca0, za0, ca1, za1, nea⟩ := b2z Ka
          obtain ⟨cm0, zm0, cm1, zm1, nem⟩ := b2z Km
          obtain ⟨co0, zo0, co1, zo1, neo⟩ := b2z Ko
          obtain ⟨cr0, zr0, cr1, zr1, ner⟩ := b2z Kr
          obtain ⟨cx0, zx0, cx1, zx1, nex⟩ := b2z Kx
          refine hK.out _ _ ⟨blk_cell Ka 0, blk_cell Ka 1, blk_cell Km 0, blk_cell Km 1⟩ (fun hHeld => ?_)
          clear hK K
          refine wpAnyH_ready (rs := [4]) (by kernel_rfl) (by simp) ?_
          refine AllReadyH.cons (o := ⟨_, _, _, _, _, _⟩) rfl (fun K hK => ?_) (AllReadyH.nil)
          go_simp
          refine (ror_is f (andB a m) _).mono ?_
          rintro e w3 ⟨rfl, b3⟩
          clear cf0 cf1 zf0 zf1 ca0 ca1 za0 za1 cm0 cm1 zm0 zm1 co0 co1 zo0 zo1 cr0 cr1 zr0 zr1 cx0 cx1 zx0 zx1 nef nea nem neo ner nex
          replace Kf := kp b3 Kf
          replace Ka := kp b3 Ka
          replace Km := kp b3 Km
          replace Ko := kp b3 Ko
          replace Kr := kp b3 Kr
          replace Kx := kp b3 Kx
          replace bl := bl.trans (b3.mono bl.size)
          clear b3
          obtain ⟨cf0, zf0, cf1, zf1, nef⟩ := b2z Kf
          obtain ⟨ca0, za0, ca1, za1, nea⟩ := b2z Ka
          obtain ⟨cm0, zm0, cm1, zm1, nem⟩ := b2z Km
          obtain ⟨co0, zo0, co1, zo1, neo⟩ := b2z Ko
          obtain ⟨cr0, zr0, cr1, zr1, ner⟩ := b2z Kr
          obtain ⟨cx0, zx0, cx1, zx1, nex⟩ := b2z Kx
          refine hK.out _ _ ⟨blk_cell Ka 0, blk_cell Ka 1, blk_cell Km 0, blk_cell Km 1⟩ (fun hHeld => ?_)
          clear hK K
          refine tk 5 (v := ?_) rfl ?_ ?_; rotate_left; (focus (intro w hSw; (try dsimp only at hSw); go_simp; with_reducible rfl)); simp only [Act.put, tA, tB, tC]
          refine tk 6 (v := ?_) rfl ?_ ?_; rotate_left; (focus (intro w hSw; (try dsimp only at hSw); go_simp; with_reducible rfl)); simp only [Act.put, tA, tB, tC]
          refine tk 7 (v := ?_) rfl ?_ ?_; rotate_left; (focus (intro w hSw; (try dsimp only at hSw); go_simp; with_reducible rfl)); simp only [Act.put, tA, tB, tC]
          refine wpAnyH_ready (rs := [9]) (by kernel_rfl) (by simp) ?_
          refine AllReadyH.cons (o := ⟨_, _, _, _, _, _⟩) rfl (fun K hK => ?_) (AllReadyH.nil)
          go_simp
          clear cf0 cf1 zf0 zf1 ca0 ca1 za0 za1 cm0 cm1 zm0 zm1 co0 co1 zo0 zo1 cr0 cr1 zr0 zr1 cx0 cx1 zx0 zx1 nef nea nem neo ner nex
          obtain ⟨w4, hw4⟩ : ∃ ww, ww = ((w3.setCell ⟨w1.heap.size, 0, none⟩ (.int .u8 (rorB f (andB a m)).v)).setCell ⟨w1.heap.size, 1, none⟩ (.bool (rorB f (andB a m)).s)) := ⟨_, rfl⟩
          rw [← hw4]
          have nnf : w1.heap.size ≠ (w.heap.size) := by first | omega | (have := blk_lt Kf; have := blk_lt Kx; have := bl.size; omega)
          replace Kf : B2 w4 (w.heap.size) (.int .u8 f.p) (.int .u8 f.s) 23 := by rw [hw4]; exact ((oth2 nnf _ _).trans Kf)
          clear nnf
          have nna : w1.heap.size ≠ (w.heap.size + 1) := by first | omega | (have := blk_lt Ka; have := blk_lt Kx; have := bl.size; omega)
          replace Ka : B2 w4 (w.heap.size + 1) (.int .u8 a.v) (.bool a.s) 25 := by rw [hw4]; exact ((oth2 nna _ _).trans Ka)
          clear nna
          have nnm : w1.heap.size ≠ (w.heap.size + 1 + 1) := by first | omega | (have := blk_lt Km; have := blk_lt Kx; have := bl.size; omega)
          replace Km : B2 w4 (w.heap.size + 1 + 1) (.int .u8 m.v) (.bool m.s) 25 := by rw [hw4]; exact ((oth2 nnm _ _).trans Km)
          clear nnm
          have nno : w1.heap.size ≠ (w.heap.size + 1 + 1 + 1) := by first | omega | (have := blk_lt Ko; have := blk_lt Kx; have := bl.size; omega)
          replace Ko : B2 w4 (w.heap.size + 1 + 1 + 1) (.int .u8 0) (.bool false) 25 := by rw [hw4]; exact ((oth2 nno _ _).trans Ko)
          clear nno
          have nnr : w1.heap.size ≠ (w.heap.size + 1 + 1 + 1 + 1) := by first | omega | (have := blk_lt Kr; have := blk_lt Kx; have := bl.size; omega)
          replace Kr : B2 w4 (w.heap.size + 1 + 1 + 1 + 1) (.int .u8 0) (.int .u8 0) 23 := by rw [hw4]; exact ((oth2 nnr _ _).trans Kr)
          clear nnr
          replace Kx : B2 w4 w1.heap.size (.int .u8 (rorB f (andB a m)).v) (.bool (rorB f (andB a m)).s) 25 := by rw [hw4]; exact (set2 Kx _ _)
          replace bl : Below w.heap.size w w4 := by rw [hw4]; exact bs2 bl (by first | exact Nat.le_refl _ | omega | (have := bl.size; omega)) _ _
          clear hw4
          obtain ⟨cf0, zf0, cf1, zf1, nef⟩ := b2z Kf
          obtain ⟨ca0, za0, ca1, za1, nea⟩ := b2z Ka
          obtain ⟨cm0, zm0, cm1, zm1, nem⟩ := b2z Km
          obtain ⟨co0, zo0, co1, zo1, neo⟩ := b2z Ko
          obtain ⟨cr0, zr0, cr1, zr1, ner⟩ := b2z Kr
          obtain ⟨cx0, zx0, cx1, zx1, nex⟩ := b2z Kx
          refine hK.out _ _ ⟨blk_cell Ka 0, blk_cell Ka 1, blk_cell Km 0, blk_cell Km 1⟩ (fun hHeld => ?_)
          clear hK K
          refine wpAnyH_ready (rs := [10]) (by kernel_rfl) (by simp) ?_
          refine AllReadyH.cons (o := ⟨_, _, _, _, _, _⟩) rfl (fun K hK => ?_) (AllReadyH.nil)
          go_simp
          clear cf0 cf1 zf0 zf1 ca0 ca1 za0 za1 cm0 cm1 zm0 zm1 co0 co1 zo0 zo1 cr0 cr1 zr0 zr1 cx0 cx1 zx0 zx1 nef nea nem neo ner nex
          obtain ⟨w5, hw5⟩ : ∃ ww, ww = ((w4.setCell ⟨(w.heap.size), 0, none⟩ (.int .u8 (rorF f (andB a m)).p)).setCell ⟨(w.heap.size), 1, none⟩ (.int .u8 (rorF f (andB a m)).s)) := ⟨_, rfl⟩
          rw [← hw5]
          have nna : (w.heap.size) ≠ (w.heap.size + 1) := by first | omega | (have := blk_lt Ka; have := blk_lt Kf; have := bl.size; omega)
          replace Ka : B2 w5 (w.heap.size + 1) (.int .u8 a.v) (.bool a.s) 25 := by rw [hw5]; exact ((oth2 nna _ _).trans Ka)
          clear nna
          have nnm : (w.heap.size) ≠ (w.heap.size + 1 + 1) := by first | omega | (have := blk_lt Km; have := blk_lt Kf; have := bl.size; omega)
          replace Km : B2 w5 (w.heap.size + 1 + 1) (.int .u8 m.v) (.bool m.s) 25 := by rw [hw5]; exact ((oth2 nnm _ _).trans Km)
          clear nnm
          have nno : (w.heap.size) ≠ (w.heap.size + 1 + 1 + 1) := by first | omega | (have := blk_lt Ko; have := blk_lt Kf; have := bl.size; omega)
          replace Ko : B2 w5 (w.heap.size + 1 + 1 + 1) (.int .u8 0) (.bool false) 25 := by rw [hw5]; exact ((oth2 nno _ _).trans Ko)
          clear nno
          have nnr : (w.heap.size) ≠ (w.heap.size + 1 + 1 + 1 + 1) := by first | omega | (have := blk_lt Kr; have := blk_lt Kf; have := bl.size; omega)
          replace Kr : B2 w5 (w.heap.size + 1 + 1 + 1 + 1) (.int .u8 0) (.int .u8 0) 23 := by rw [hw5]; exact ((oth2 nnr _ _).trans Kr)
          clear nnr
          have nnx : (w.heap.size) ≠ w1.heap.size := by first | omega | (have := blk_lt Kx; have := blk_lt Kf; have := bl.size; omega)
          replace Kx : B2 w5 w1.heap.size (.int .u8 (rorB f (andB a m)).v) (.bool (rorB f (andB a m)).s) 25 := by rw [hw5]; exact ((oth2 nnx _ _).trans Kx)
          clear nnx
          replace Kf : B2 w5 (w.heap.size) (.int .u8 (rorF f (andB a m)).p) (.int .u8 (rorF f (andB a m)).s) 23 := by rw [hw5]; exact (set2 Kf _ _)
          replace bl : Below w.heap.size w w5 := by rw [hw5]; exact bs2 bl (by first | exact Nat.le_refl _ | omega | (have := bl.size; omega)) _ _
          clear hw5
          obtain ⟨cf0, zf0, cf1, zf1, nef⟩ := b2z Kf
          obtain ⟨ca0, za0, ca1, za1, nea⟩ := b2z Ka
          obtain ⟨cm0, zm0, cm1, zm1, nem⟩ := b2z Km
          obtain ⟨co0, zo0, co1, zo1, neo⟩ := b2z Ko
          obtain ⟨cr0, zr0, cr1, zr1, ner⟩ := b2z Kr
          obtain ⟨cx0, zx0, cx1, zx1, nex⟩ := b2z Kx
          refine hK.out _ _ ⟨blk_cell Ka 0, blk_cell Ka 1, blk_cell Km 0, blk_cell Km 1⟩ (fun hHeld => ?_)
          clear hK K
          refine wpAnyH_done (by kernel_rfl) (NoPanic.normal ?_) _
          go_wp2_with fail
          go_meet
          exact ⟨_, rfl, qxf, qxa, qxm, qxo, qxr, Kx, Kf, Ka, Km, Ko, Kr, bl⟩
      · go_simp
        have lx : w.heap.size ≤ w1.heap.size := bl.size
        have qfx : (w.heap.size) ≠ w1.heap.size := by have := blk_lt Kf; omega
        have qxf := qfx.symm
        have qax : (w.heap.size + 1) ≠ w1.heap.size := by have := blk_lt Ka; omega
        have qxa := qax.symm
        have qmx : (w.heap.size + 1 + 1) ≠ w1.heap.size := by have := blk_lt Km; omega
        have qxm := qmx.symm
        have qox : (w.heap.size + 1 + 1 + 1) ≠ w1.heap.size := by have := blk_lt Ko; omega
        have qxo := qox.symm
        have qrx : (w.heap.size + 1 + 1 + 1 + 1) ≠ w1.heap.size := by have := blk_lt Kr; omega
        have qxr := qrx.symm
        obtain ⟨w2, hw2⟩ : ∃ ww, ww = (w1.alloc (.cells #[.int .u8 0, .bool false] 25)) := ⟨_, rfl⟩
        rw [← hw2]
        have b2 : Below w1.heap.size w1 w2 := by rw [hw2]; (repeat first | exact .refl _ _ | exact (Below.refl _ _).drew | refine .drew ?_ | refine .alloc ?_ (by simp <;> omega) _)
        have Kx : B2 w2 w1.heap.size (.int .u8 0) (.bool false) 25 := by rw [hw2]; exact blk_new _ _
        clear hw2
        clear cf0 cf1 zf0 zf1 ca0 ca1 za0 za1 cm0 cm1 zm0 zm1 co0 co1 zo0 zo1 cr0 cr1 zr0 zr1 nef nea nem neo ner
        replace Kf := kp b2 Kf
        replace Ka := kp b2 Ka
        replace Km := kp b2 Km
        replace Ko := kp b2 Ko
        replace Kr := kp b2 Kr
        replace bl := bl.trans (b2.mono bl.size)
        clear b2
        obtain ⟨cf0, zf0, cf1, zf1, nef⟩ := b2z Kf
        obtain ⟨ca0, za0, ca1, za1, nea⟩ := b2z Ka
        obtain ⟨cm0, zm0, cm1, zm1, nem⟩ := b2z Km
        obtain ⟨co0, zo0, co1, zo1, neo⟩ := b2z Ko
        obtain ⟨cr0, zr0, cr1, zr1, ner⟩ := b2z Kr
        obtain ⟨cx0, zx0, cx1, zx1, nex⟩ := b2z Kx
        refine hK.out _ _ ⟨blk_cell Ka 0, blk_cell Ka 1, blk_cell Km 0, blk_cell Km 1⟩ (fun hHeld => ?_)
        clear hK K
        refine wpAnyH_ready (rs := [0]) (by kernel_rfl) (by simp) ?_
        refine AllReadyH.cons (o := ⟨_, _, _, _, _, _⟩) rfl (fun K hK => ?_) (AllReadyH.nil)
        go_simp
        refine hK.out _ _ ⟨blk_cell Ka 0, blk_cell Ka 1, blk_cell Km 0, blk_cell Km 1⟩ (fun hHeld => ?_)
        clear hK K
        refine wpAnyH_ready (rs := [4]) (by kernel_rfl) (by simp) ?_
        refine AllReadyH.cons (o := ⟨_, _, _, _, _, _⟩) rfl (fun K hK => ?_) (AllReadyH.nil)
        go_simp
        refine (ror_is f (andB a m) _).mono ?_
        rintro e w3 ⟨rfl, b3⟩
        clear cf0 cf1 zf0 zf1 ca0 ca1 za0 za1 cm0 cm1 zm0 zm1 co0 co1 zo0 zo1 cr0 cr1 zr0 zr1 cx0 cx1 zx0 zx1 nef nea nem neo ner nex
        replace Kf := kp b3 Kf
        replace Ka := kp b3 Ka
        replace Km := kp b3 Km
        replace Ko := kp b3 Ko
        replace Kr := kp b3 Kr
        replace Kx := kp b3 Kx
        replace bl := bl.trans (b3.mono bl.size)
        clear b3
        obtain ⟨cf0, zf0, cf1, zf1, nef⟩ := b2z Kf
        obtain ⟨ca0, za0, ca1, za1, nea⟩ := b2z Ka
        obtain ⟨cm0, zm0, cm1, zm1, nem⟩ := b2z Km
        obtain ⟨co0, zo0, co1, zo1, neo⟩ := b2z Ko
        obtain ⟨cr0, zr0, cr1, zr1, ner⟩ := b2z Kr
        obtain ⟨cx0, zx0, cx1, zx1, nex⟩ := b2z Kx
        refine hK.out _ _ ⟨blk_cell Ka 0, blk_cell Ka 1, blk_cell Km 0, blk_cell Km 1⟩ (fun hHeld => ?_)
        clear hK K
        refine tk 5 (v := ?_) rfl ?_ ?_; rotate_left; (focus (intro w hSw; (try dsimp only at hSw); go_simp; with_reducible rfl)); simp only [Act.put, tA, tB, tC]
        refine tk 6 (v := ?_) rfl ?_ ?_; rotate_left; (focus (intro w hSw; (try dsimp only at hSw); go_simp; with_reducible rfl)); simp only [Act.put, tA, tB, tC]
        refine tk 7 (v := ?_) rfl ?_ ?_; rotate_left; (focus (intro w hSw; (try dsimp only at hSw); go_simp; with_reducible rfl)); simp only [Act.put, tA, tB, tC]
        refine wpAnyH_ready (rs := [9]) (by kernel_rfl) (by simp) ?_
        refine AllReadyH.cons (o := ⟨_, _, _, _, _, _⟩) rfl (fun K hK => ?_) (AllReadyH.nil)
        go_simp
        clear cf0 cf1 zf0 zf1 ca0 ca1 za0 za1 cm0 cm1 zm0 zm1 co0 co1 zo0 zo1 cr0 cr1 zr0 zr1 cx0 cx1 zx0 zx1 nef nea nem neo ner nex
        obtain ⟨w4, hw4⟩ : ∃ ww, ww = ((w3.setCell ⟨w1.heap.size, 0, none⟩ (.int .u8 (rorB f (andB a m)).v)).setCell ⟨w1.heap.size, 1, none⟩ (.bool (rorB f (andB a m)).s)) := ⟨_, rfl⟩
        rw [← hw4]
        have nnf : w1.heap.size ≠ (w.heap.size) := by first | omega | (have := blk_lt Kf; have := blk_lt Kx; have := bl.size; omega)
        replace Kf : B2 w4 (w.heap.size) (.int .u8 f.p) (.int .u8 f.s) 23 := by rw [hw4]; exact ((oth2 nnf _ _).trans Kf)
        clear nnf
        have nna : w1.heap.size ≠ (w.heap.size + 1) := by first | omega | (have := blk_lt Ka; have := blk_lt Kx; have := bl.size; omega)
        replace Ka : B2 w4 (w.heap.size + 1) (.int .u8 a.v) (.bool a.s) 25 := by rw [hw4]; exact ((oth2 nna _ _).trans Ka)
        clear nna
        have nnm : w1.heap.size ≠ (w.heap.size + 1 + 1) := by first | omega | (have := blk_lt Km; have := blk_lt Kx; have := bl.size; omega)
        replace Km : B2 w4 (w.heap.size + 1 + 1) (.int .u8 m.v) (.bool m.s) 25 := by rw [hw4]; exact ((oth2 nnm _ _).trans Km)
        clear nnm
        have nno : w1.heap.size ≠ (w.heap.size + 1 + 1 + 1) := by first | omega | (have := blk_lt Ko; have := blk_lt Kx; have := bl.size; omega)
        replace Ko : B2 w4 (w.heap.size + 1 + 1 + 1) (.int .u8 0) (.bool false) 25 := by rw [hw4]; exact ((oth2 nno _ _).trans Ko)
        clear nno
        have nnr : w1.heap.size ≠ (w.heap.size + 1 + 1 + 1 + 1) := by first | omega | (have := blk_lt Kr; have := blk_lt Kx; have := bl.size; omega)
        replace Kr : B2 w4 (w.heap.size + 1 + 1 + 1 + 1) (.int .u8 0) (.int .u8 0) 23 := by rw [hw4]; exact ((oth2 nnr _ _).trans Kr)
        clear nnr
        replace Kx : B2 w4 w1.heap.size (.int .u8 (rorB f (andB a m)).v) (.bool (rorB f (andB a m)).s) 25 := by rw [hw4]; exact (set2 Kx _ _)
        replace bl : Below w.heap.size w w4 := by rw [hw4]; exact bs2 bl (by first | exact Nat.le_refl _ | omega | (have := bl.size; omega)) _ _
        clear hw4
        obtain ⟨cf0, zf0, cf1, zf1, nef⟩ := b2z Kf
        obtain ⟨ca0, za0, ca1, za1, nea⟩ := b2z Ka
        obtain ⟨cm0, zm0, cm1, zm1, nem⟩ := b2z Km
        obtain ⟨co0, zo0, co1, zo1, neo⟩ := b2z Ko
        obtain ⟨cr0, zr0, cr1, zr1, ner⟩ := b2z Kr
        obtain ⟨cx0, zx0, cx1, zx1, nex⟩ := b2z Kx
        refine hK.out _ _ ⟨blk_cell Ka 0, blk_cell Ka 1, blk_cell Km 0, blk_cell Km 1⟩ (fun hHeld => ?_)
        clear hK K
        refine wpAnyH_ready (rs := [10]) (by kernel_rfl) (by simp) ?_
        refine AllReadyH.cons (o := ⟨_, _, _, _, _, _⟩) rfl (fun K hK => ?_) (AllReadyH.nil)
        go_simp
        clear cf0 cf1 zf0 zf1 ca0 ca1 za0 za1 cm0 cm1 zm0 zm1 co0 co1 zo0 zo1 cr0 cr1 zr0 zr1 cx0 cx1 zx0 zx1 nef nea nem neo ner nex
        obtain ⟨w5, hw5⟩ : ∃ ww, ww = ((w4.setCell ⟨(w.heap.size), 0, none⟩ (.int .u8 (rorF f (andB a m)).p)).setCell ⟨(w.heap.size), 1, none⟩ (.int .u8 (rorF f (andB a m)).s)) := ⟨_, rfl⟩
        rw [← hw5]
        have nna : (w.heap.size) ≠ (w.heap.size + 1) := by first | omega | (have := blk_lt Ka; have := blk_lt Kf; have := bl.size; omega)
        replace Ka : B2 w5 (w.heap.size + 1) (.int .u8 a.v) (.bool a.s) 25 := by rw [hw5]; exact ((oth2 nna _ _).trans Ka)
        clear nna
        have nnm : (w.heap.size) ≠ (w.heap.size + 1 + 1) := by first | omega | (have := blk_lt Km; have := blk_lt Kf; have := bl.size; omega)
        replace Km : B2 w5 (w.heap.size + 1 + 1) (.int .u8 m.v) (.bool m.s) 25 := by rw [hw5]; exact ((oth2 nnm _ _).trans Km)
        clear nnm
        have nno : (w.heap.size) ≠ (w.heap.size + 1 + 1 + 1) := by first | omega | (have := blk_lt Ko; have := blk_lt Kf; have := bl.size; omega)
        replace Ko : B2 w5 (w.heap.size + 1 + 1 + 1) (.int .u8 0) (.bool false) 25 := by rw [hw5]; exact ((oth2 nno _ _).trans Ko)
        clear nno
        have nnr : (w.heap.size) ≠ (w.heap.size + 1 + 1 + 1 + 1) := by first | omega | (have := blk_lt Kr; have := blk_lt Kf; have := bl.size; omega)
        replace Kr : B2 w5 (w.heap.size + 1 + 1 + 1 + 1) (.int .u8 0) (.int .u8 0) 23 := by rw [hw5]; exact ((oth2 nnr _ _).trans Kr)
        clear nnr
        have nnx : (w.heap.size) ≠ w1.heap.size := by first | omega | (have := blk_lt Kx; have := blk_lt Kf; have := bl.size; omega)
        replace Kx : B2 w5 w1.heap.size (.int .u8 (rorB f (andB a m)).v) (.bool (rorB f (andB a m)).s) 25 := by rw [hw5]; exact ((oth2 nnx _ _).trans Kx)
        clear nnx
        replace Kf : B2 w5 (w.heap.size) (.int .u8 (rorF f (andB a m)).p) (.int .u8 (rorF f (andB a m)).s) 23 := by rw [hw5]; exact (set2 Kf _ _)
        replace bl : Below w.heap.size w w5 := by rw [hw5]; exact bs2 bl (by first | exact Nat.le_refl _ | omega | (have := bl.size; omega)) _ _
        clear hw5
        obtain ⟨cf0, zf0, cf1, zf1, nef⟩ := b2z Kf
        obtain ⟨ca0, za0, ca1, za1, nea⟩ := b2z Ka
        obtain ⟨cm0, zm0, cm1, zm1, nem⟩ := b2z Km
        obtain ⟨co0, zo0, co1, zo1, neo⟩ := b2z Ko
        obtain ⟨cr0, zr0, cr1, zr1, ner⟩ := b2z Kr
        obtain ⟨cx0, zx0, cx1, zx1, nex⟩ := b2z Kx
        refine hK.out _ _ ⟨blk_cell Ka 0, blk_cell Ka 1, blk_cell Km 0, blk_cell Km 1⟩ (fun hHeld => ?_)
        clear hK K
        refine wpAnyH_done (by kernel_rfl) (NoPanic.normal ?_) _
        go_wp2_with fail
        go_meet
        exact ⟨_, rfl, qxf, qxa, qxm, qxo, qxr, Kx, Kf, Ka, Km, Ko, Kr, bl⟩
    · go_simp
      have lx : w.heap.size ≤ w0.heap.size := bl.size
      have qfx : (w.heap.size) ≠ w0.heap.size := by have := blk_lt Kf; omega
      have qxf := qfx.symm
      have qax : (w.heap.size + 1) ≠ w0.heap.size := by have := blk_lt Ka; omega
      have qxa := qax.symm
      have qmx : (w.heap.size + 1 + 1) ≠ w0.heap.size := by have := blk_lt Km; omega
      have qxm := qmx.symm
      have qox : (w.heap.size + 1 + 1 + 1) ≠ w0.heap.size := by have := blk_lt Ko; omega
      have qxo := qox.symm
      have qrx : (w.heap.size + 1 + 1 + 1 + 1) ≠ w0.heap.size := by have := blk_lt Kr; omega
      have qxr := qrx.symm
      obtain ⟨w1, hw1⟩ : ∃ ww, ww = (w0.alloc (.cells #[.int .u8 0, .bool false] 25)).drew := ⟨_, rfl⟩
      rw [← hw1]
      have b1 : Below w0.heap.size w0 w1 := by rw [hw1]; (repeat first | exact .refl _ _ | exact (Below.refl _ _).drew | refine .drew ?_ | refine .alloc ?_ (by simp <;> omega) _)
      have Kx : B2 w1 w0.heap.size (.int .u8 0) (.bool false) 25 := by rw [hw1]; exact (drew_heap _ _).trans (blk_new _ _)
      clear hw1
      clear cf0 cf1 zf0 zf1 ca0 ca1 za0 za1 cm0 cm1 zm0 zm1 co0 co1 zo0 zo1 cr0 cr1 zr0 zr1 nef nea nem neo ner
      replace Kf := kp b1 Kf
      replace Ka := kp b1 Ka
      replace Km := kp b1 Km
      replace Ko := kp b1 Ko
      replace Kr := kp b1 Kr
      replace bl := bl.trans (b1.mono bl.size)
      clear b1
      obtain ⟨cf0, zf0, cf1, zf1, nef⟩ := b2z Kf
      obtain ⟨ca0, za0, ca1, za1, nea⟩ := b2z Ka
      obtain ⟨cm0, zm0, cm1, zm1, nem⟩ := b2z Km
      obtain ⟨co0, zo0, co1, zo1, neo⟩ := b2z Ko
      obtain ⟨cr0, zr0, cr1, zr1, ner⟩ := b2z Kr
      obtain ⟨cx0, zx0, cx1, zx1, nex⟩ := b2z Kx
      refine hK.out _ _ ⟨blk_cell Ka 0, blk_cell Ka 1, blk_cell Km 0, blk_cell Km 1⟩ (fun hHeld => ?_)
      clear hK K
      refine wpAnyH_ready (rs := [0, 3]) (by kernel_rfl) (by simp) ?_
      refine AllReadyH.cons (o := ⟨_, _, _, _, _, _⟩) rfl (fun K hK => ?_) (AllReadyH.cons (o := ⟨_, _, _, _, _, _⟩) rfl (fun K hK => ?_) (AllReadyH.nil))
      · go_simp
        refine hK.out _ _ ⟨blk_cell Ka 0, blk_cell Ka 1, blk_cell Km 0, blk_cell Km 1⟩ (fun hHeld => ?_)
        clear hK K
        refine wpAnyH_ready (rs := [3]) (by kernel_rfl) (by simp) ?_
        refine AllReadyH.cons (o := ⟨_, _, _, _, _, _⟩) rfl (fun K hK => ?_) (AllReadyH.nil)
        go_simp
        refine (and_any a m _).mono ?_
        rintro e w2 ⟨rfl, b2⟩
        clear cf0 cf1 zf0 zf1 ca0 ca1 za0 za1 cm0 cm1 zm0 zm1 co0 co1 zo0 zo1 cr0 cr1 zr0 zr1 cx0 cx1 zx0 zx1 nef nea nem neo ner nex
        replace Kf := kp b2 Kf
        replace Ka := kp b2 Ka
        replace Km := kp b2 Km
        replace Ko := kp b2 Ko
        replace Kr := kp b2 Kr
        replace Kx := kp b2 Kx
        replace bl := bl.trans (b2.mono bl.size)
        clear b2
        obtain ⟨cf0, zf0, cf1, zf1, nef⟩ := b2z Kf
        obtain ⟨ca0, za0, ca1, za1, nea⟩ := b2z Ka
        obtain ⟨cm0, zm0, cm1, zm1, nem⟩ := b2z Km
        obtain ⟨co0, zo0, co1, zo1, neo⟩ := b2z Ko
        obtain ⟨cr0, zr0, cr1, zr1, ner⟩ := b2z Kr
        obtain ⟨cx0, zx0, cx1, zx1, nex⟩ := b2z Kx
        refine hK.out _ _ ⟨blk_cell Ka 0, blk_cell Ka 1, blk_cell Km 0, blk_cell Km 1⟩ (fun hHeld => ?_)
        clear hK K
        refine wpAnyH_ready (rs := [4]) (by kernel_rfl) (by simp) ?_
        refine AllReadyH.cons (o := ⟨_, _, _, _, _, _⟩) rfl (fun K hK => ?_) (AllReadyH.nil)
        go_simp
        refine (ror_is f (andB a m) _).mono ?_
        rintro e w3 ⟨rfl, b3⟩
        clear cf0 cf1 zf0 zf1 ca0 ca1 za0 za1 cm0 cm1 zm0 zm1 co0 co1 zo0 zo1 cr0 cr1 zr0 zr1 cx0 cx1 zx0 zx1 nef nea nem neo ner nex
        replace Kf := kp b3 Kf
        replace Ka := kp b3 Ka
        replace Km := kp b3 Km
        replace Ko := kp b3 Ko
        replace Kr := kp b3 Kr
        replace Kx := kp b3 Kx
        replace bl := bl.trans (b3.mono bl.size)
        clear b3
        obtain ⟨cf0, zf0, cf1, zf1, nef⟩ := b2z Kf
        obtain ⟨ca0, za0, ca1, za1, nea⟩ := b2z Ka
        obtain ⟨cm0, zm0, cm1, zm1, nem⟩ := b2z Km
        obtain ⟨co0, zo0, co1, zo1, neo⟩ := b2z Ko
        obtain ⟨cr0, zr0, cr1, zr1, ner⟩ := b2z Kr
        obtain ⟨cx0, zx0, cx1, zx1, nex⟩ := b2z Kx
        refine hK.out _ _ ⟨blk_cell Ka 0, blk_cell Ka 1, blk_cell Km 0, blk_cell Km 1⟩ (fun hHeld => ?_)
        clear hK K
        refine tk 5 (v := ?_) rfl ?_ ?_; rotate_left; (focus (intro w hSw; (try dsimp only at hSw); go_simp; with_reducible rfl)); simp only [Act.put, tA, tB, tC]
        refine tk 6 (v := ?_) rfl ?_ ?_; rotate_left; (focus (intro w hSw; (try dsimp only at hSw); go_simp; with_reducible rfl)); simp only [Act.put, tA, tB, tC]
        refine tk 7 (v := ?_) rfl ?_ ?_; rotate_left; (focus (intro w hSw; (try dsimp only at hSw); go_simp; with_reducible rfl)); simp only [Act.put, tA, tB, tC]
        refine wpAnyH_ready (rs := [9]) (by kernel_rfl) (by simp) ?_
        refine AllReadyH.cons (o := ⟨_, _, _, _, _, _⟩) rfl (fun K hK => ?_) (AllReadyH.nil)
        go_simp
        clear cf0 cf1 zf0 zf1 ca0 ca1 za0 za1 cm0 cm1 zm0 zm1 co0 co1 zo0 zo1 cr0 cr1 zr0 zr1 cx0 cx1 zx0 zx1 nef nea nem neo ner nex
        obtain ⟨w4, hw4⟩ : ∃ ww, ww = ((w3.setCell ⟨w0.heap.size, 0, none⟩ (.int .u8 (rorB f (andB a m)).v)).setCell ⟨w0.heap.size, 1, none⟩ (.bool (rorB f (andB a m)).s)) := ⟨_, rfl⟩
        rw [← hw4]
        have nnf : w0.heap.size ≠ (w.heap.size) := by first | omega | (have := blk_lt Kf; have := blk_lt Kx; have := bl.size; omega)
        replace Kf : B2 w4 (w.heap.size) (.int .u8 f.p) (.int .u8 f.s) 23 := by rw [hw4]; exact ((oth2 nnf _ _).trans Kf)
        clear nnf
        have nna : w0.heap.size ≠ (w.heap.size + 1) := by first | omega | (have := blk_lt Ka; have := blk_lt Kx; have := bl.size; omega)
        replace Ka : B2 w4 (w.heap.size + 1) (.int .u8 a.v) (.bool a.s) 25 := by rw [hw4]; exact ((oth2 nna _ _).trans Ka)
        clear nna
        have nnm : w0.heap.size ≠ (w.heap.size + 1 + 1) := by first | omega | (have := blk_lt Km; have := blk_lt Kx; have := bl.size; omega)
        replace Km : B2 w4 (w.heap.size + 1 + 1) (.int .u8 m.v) (.bool m.s) 25 := by rw [hw4]; exact ((oth2 nnm _ _).trans Km)
        clear nnm
        have nno : w0.heap.size ≠ (w.heap.size + 1 + 1 + 1) := by first | omega | (have := blk_lt Ko; have := blk_lt Kx; have := bl.size; omega)
        replace Ko : B2 w4 (w.heap.size + 1 + 1 + 1) (.int .u8 0) (.bool false) 25 := by rw [hw4]; exact ((oth2 nno _ _).trans Ko)
        clear nno
        have nnr : w0.heap.size ≠ (w.heap.size + 1 + 1 + 1 + 1) := by first | omega | (have := blk_lt Kr; have := blk_lt Kx; have := bl.size; omega)
        replace Kr : B2 w4 (w.heap.size + 1 + 1 + 1 + 1) (.int .u8 0) (.int .u8 0) 23 := by rw [hw4]; exact ((oth2 nnr _ _).trans Kr)
        clear nnr
        replace Kx : B2 w4 w0.heap.size (.int .u8 (rorB f (andB a m)).v) (.bool (rorB f (andB a m)).s) 25 := by rw [hw4]; exact (set2 Kx _ _)
        replace bl : Below w.heap.size w w4 := by rw [hw4]; exact bs2 bl (by first | exact Nat.le_refl _ | omega | (have := bl.size; omega)) _ _
        clear hw4
        obtain ⟨cf0, zf0, cf1, zf1, nef⟩ := b2z Kf
        obtain ⟨ca0, za0, ca1, za1, nea⟩ := b2z Ka
        obtain ⟨cm0, zm0, cm1, zm1, nem⟩ := b2z Km
        obtain ⟨co0, zo0, co1, zo1, neo⟩ := b2z Ko
        obtain ⟨cr0, zr0, cr1, zr1, ner⟩ := b2z Kr
        obtain ⟨cx0, zx0, cx1, zx1, nex⟩ := b2z Kx
        refine hK.out _ _ ⟨blk_cell Ka 0, blk_cell Ka 1, blk_cell Km 0, blk_cell Km 1⟩ (fun hHeld => ?_)
        clear hK K
        refine wpAnyH_ready (rs := [10]) (by kernel_rfl) (by simp) ?_
        refine AllReadyH.cons (o := ⟨_, _, _, _, _, _⟩) rfl (fun K hK => ?_) (AllReadyH.nil)
        go_simp
        clear cf0 cf1 zf0 zf1 ca0 ca1 za0 za1 cm0 cm1 zm0 zm1 co0 co1 zo0 zo1 cr0 cr1 zr0 zr1 cx0 cx1 zx0 zx1 nef nea nem neo ner nex
        obtain ⟨w5, hw5⟩ : ∃ ww, ww = ((w4.setCell ⟨(w.heap.size), 0, none⟩ (.int .u8 (rorF f (andB a m)).p)).setCell ⟨(w.heap.size), 1, none⟩ (.int .u8 (rorF f (andB a m)).s)) := ⟨_, rfl⟩
        rw [← hw5]
        have nna : (w.heap.size) ≠ (w.heap.size + 1) := by first | omega | (have := blk_lt Ka; have := blk_lt Kf; have := bl.size; omega)
        replace Ka : B2 w5 (w.heap.size + 1) (.int .u8 a.v) (.bool a.s) 25 := by rw [hw5]; exact ((oth2 nna _ _).trans Ka)
        clear nna
        have nnm : (w.heap.size) ≠ (w.heap.size + 1 + 1) := by first | omega | (have := blk_lt Km; have := blk_lt Kf; have := bl.size; omega)
        replace Km : B2 w5 (w.heap.size + 1 + 1) (.int .u8 m.v) (.bool m.s) 25 := by rw [hw5]; exact ((oth2 nnm _ _).trans Km)
        clear nnm
        have nno : (w.heap.size) ≠ (w.heap.size + 1 + 1 + 1) := by first | omega | (have := blk_lt Ko; have := blk_lt Kf; have := bl.size; omega)
        replace Ko : B2 w5 (w.heap.size + 1 + 1 + 1) (.int .u8 0) (.bool false) 25 := by rw [hw5]; exact ((oth2 nno _ _).trans Ko)
        clear nno
        have nnr : (w.heap.size) ≠ (w.heap.size + 1 + 1 + 1 + 1) := by first | omega | (have := blk_lt Kr; have := blk_lt Kf; have := bl.size; omega)
        replace Kr : B2 w5 (w.heap.size + 1 + 1 + 1 + 1) (.int .u8 0) (.int .u8 0) 23 := by rw [hw5]; exact ((oth2 nnr _ _).trans Kr)
        clear nnr
        have nnx : (w.heap.size) ≠ w0.heap.size := by first | omega | (have := blk_lt Kx; have := blk_lt Kf; have := bl.size; omega)
        replace Kx : B2 w5 w0.heap.size (.int .u8 (rorB f (andB a m)).v) (.bool (rorB f (andB a m)).s) 25 := by rw [hw5]; exact ((oth2 nnx _ _).trans Kx)
        clear nnx
        replace Kf : B2 w5 (w.heap.size) (.int .u8 (rorF f (andB a m)).p) (.int .u8 (rorF f (andB a m)).s) 23 := by rw [hw5]; exact (set2 Kf _ _)
        replace bl : Below w.heap.size w w5 := by rw [hw5]; exact bs2 bl (by first | exact Nat.le_refl _ | omega | (have := bl.size; omega)) _ _
        clear hw5
        obtain ⟨cf0, zf0, cf1, zf1, nef⟩ := b2z Kf
        obtain ⟨ca0, za0, ca1, za1, nea⟩ := b2z Ka
        obtain ⟨cm0, zm0, cm1, zm1, nem⟩ := b2z Km
        obtain ⟨co0, zo0, co1, zo1, neo⟩ := b2z Ko
        obtain ⟨cr0, zr0, cr1, zr1, ner⟩ := b2z Kr
        obtain ⟨cx0, zx0, cx1, zx1, nex⟩ := b2z Kx
        refine hK.out _ _ ⟨blk_cell Ka 0, blk_cell Ka 1, blk_cell Km 0, blk_cell Km 1⟩ (fun hHeld => ?_)
        clear hK K
        refine wpAnyH_done (by kernel_rfl) (NoPanic.normal ?_) _
        go_wp2_with fail
        go_meet
        exact ⟨_, rfl, qxf, qxa, qxm, qxo, qxr, Kx, Kf, Ka, Km, Ko, Kr, bl⟩
      · go_simp
        refine (and_any a m _).mono ?_
        rintro e w2 ⟨rfl, b2⟩
        clear cf0 cf1 zf0 zf1 ca0 ca1 za0 za1 cm0 cm1 zm0 zm1 co0 co1 zo0 zo1 cr0 cr1 zr0 zr1 cx0 cx1 zx0 zx1 nef nea nem neo ner nex
        replace Kf := kp b2 Kf
        replace Ka := kp b2 Ka
        replace Km := kp b2 Km
        replace Ko := kp b2 Ko
        replace Kr := kp b2 Kr
        replace Kx := kp b2 Kx
        replace bl := bl.trans (b2.mono bl.size)
        clear b2
        obtain ⟨cf0, zf0, cf1, zf1, nef⟩ := b2z Kf
        obtain ⟨ca0, za0, ca1, za1, nea⟩ := b2z Ka
        obtain ⟨cm0, zm0, cm1, zm1, nem⟩ := b2z Km
        obtain ⟨co0, zo0, co1, zo1, neo⟩ := b2z Ko
        obtain ⟨cr0, zr0, cr1, zr1, ner⟩ := b2z Kr
        obtain ⟨cx0, zx0, cx1, zx1, nex⟩ := b2z Kx
        refine hK.out _ _ ⟨blk_cell Ka 0, blk_cell Ka 1, blk_cell Km 0, blk_cell Km 1⟩ (fun hHeld => ?_)
        clear hK K
        refine wpAnyH_ready (rs := [0]) (by kernel_rfl) (by simp) ?_
        refine AllReadyH.cons (o := ⟨_, _, _, _, _, _⟩) rfl (fun K hK => ?_) (AllReadyH.nil)
        go_simp
        refine hK.out _ _ ⟨blk_cell Ka 0, blk_cell Ka 1, blk_cell Km 0, blk_cell Km 1⟩ (fun hHeld => ?_)
        clear hK K
        refine wpAnyH_ready (rs := [4]) (by kernel_rfl) (by simp) ?_
        refine AllReadyH.cons (o := ⟨_, _, _, _, _, _⟩) rfl (fun K hK => ?_) (AllReadyH.nil)
        go_simp
        refine (ror_is f (andB a m) _).mono ?_
        rintro e w3 ⟨rfl, b3⟩
        clear cf0 cf1 zf0 zf1 ca0 ca1 za0 za1 cm0 cm1 zm0 zm1 co0 co1 zo0 zo1 cr0 cr1 zr0 zr1 cx0 cx1 zx0 zx1 nef nea nem neo ner nex
        replace Kf := kp b3 Kf
        replace Ka := kp b3 Ka
        replace Km := kp b3 Km
        replace Ko := kp b3 Ko
        replace Kr := kp b3 Kr
        replace Kx := kp b3 Kx
        replace bl := bl.trans (b3.mono bl.size)
        clear b3
        obtain ⟨cf0, zf0, cf1, zf1, nef⟩ := b2z Kf
        obtain ⟨ca0, za0, ca1, za1, nea⟩ := b2z Ka
        obtain ⟨cm0, zm0, cm1, zm1, nem⟩ := b2z Km
        obtain ⟨co0, zo0, co1, zo1, neo⟩ := b2z Ko
        obtain ⟨cr0, zr0, cr1, zr1, ner⟩ := b2z Kr
        obtain ⟨cx0, zx0, cx1, zx1, nex⟩ := b2z Kx
        refine hK.out _ _ ⟨blk_cell Ka 0, blk_cell Ka 1, blk_cell Km 0, blk_cell Km 1⟩ (fun hHeld => ?_)
        clear hK K
        refine tk 5 (v := ?_) rfl ?_ ?_; rotate_left; (focus (intro w hSw; (try dsimp only at hSw); go_simp; with_reducible rfl)); simp only [Act.put, tA, tB, tC]
        refine tk 6 (v := ?_) rfl ?_ ?_; rotate_left; (focus (intro w hSw; (try dsimp only at hSw); go_simp; with_reducible rfl)); simp only [Act.put, tA, tB, tC]
        refine tk 7 (v := ?_) rfl ?_ ?_; rotate_left; (focus (intro w hSw; (try dsimp only at hSw); go_simp; with_reducible rfl)); simp only [Act.put, tA, tB, tC]
        refine wpAnyH_ready (rs := [9]) (by kernel_rfl) (by simp) ?_
        refine AllReadyH.cons (o := ⟨_, _, _, _, _, _⟩) rfl (fun K hK => ?_) (AllReadyH.nil)
        go_simp
        clear cf0 cf1 zf0 zf1 ca0 ca1 za0 za1 cm0 cm1 zm0 zm1 co0 co1 zo0 zo1 cr0 cr1 zr0 zr1 cx0 cx1 zx0 zx1 nef nea nem neo ner nex
        obtain ⟨w4, hw4⟩ : ∃ ww, ww = ((w3.setCell ⟨w0.heap.size, 0, none⟩ (.int .u8 (rorB f (andB a m)).v)).setCell ⟨w0.heap.size, 1, none⟩ (.bool (rorB f (andB a m)).s)) := ⟨_, rfl⟩
        rw [← hw4]
        have nnf : w0.heap.size ≠ (w.heap.size) := by first | omega | (have := blk_lt Kf; have := blk_lt Kx; have := bl.size; omega)
        replace Kf : B2 w4 (w.heap.size) (.int .u8 f.p) (.int .u8 f.s) 23 := by rw [hw4]; exact ((oth2 nnf _ _).trans Kf)
        clear nnf
        have nna : w0.heap.size ≠ (w.heap.size + 1) := by first | omega | (have := blk_lt Ka; have := blk_lt Kx; have := bl.size; omega)
        replace Ka : B2 w4 (w.heap.size + 1) (.int .u8 a.v) (.bool a.s) 25 := by rw [hw4]; exact ((oth2 nna _ _).trans Ka)
        clear nna
        have nnm : w0.heap.size ≠ (w.heap.size + 1 + 1) := by first | omega | (have := blk_lt Km; have := blk_lt Kx; have := bl.size; omega)
        replace Km : B2 w4 (w.heap.size + 1 + 1) (.int .u8 m.v) (.bool m.s) 25 := by rw [hw4]; exact ((oth2 nnm _ _).trans Km)
        clear nnm
        have nno : w0.heap.size ≠ (w.heap.size + 1 + 1 + 1) := by first | omega | (have := blk_lt Ko; have := blk_lt Kx; have := bl.size; omega)
        replace Ko : B2 w4 (w.heap.size + 1 + 1 + 1) (.int .u8 0) (.bool false) 25 := by rw [hw4]; exact ((oth2 nno _ _).trans Ko)
        clear nno
        have nnr : w0.heap.size ≠ (w.heap.size + 1 + 1 + 1 + 1) := by first | omega | (have := blk_lt Kr; have := blk_lt Kx; have := bl.size; omega)
        replace Kr : B2 w4 (w.heap.size + 1 + 1 + 1 + 1) (.int .u8 0) (.int .u8 0) 23 := by rw [hw4]; exact ((oth2 nnr _ _).trans Kr)
        clear nnr
        replace Kx : B2 w4 w0.heap.size (.int .u8 (rorB f (andB a m)).v) (.bool (rorB f (andB a m)).s) 25 := by rw [hw4]; exact (set2 Kx _ _)
        replace bl : Below w.heap.size w w4 := by rw [hw4]; exact bs2 bl (by first | exact Nat.le_refl _ | omega | (have := bl.size; omega)) _ _
        clear hw4
        obtain ⟨cf0, zf0, cf1, zf1, nef⟩ := b2z Kf
        obtain ⟨ca0, za0, ca1, za1, nea⟩ := b2z Ka
        obtain ⟨cm0, zm0, cm1, zm1, nem⟩ := b2z Km
        obtain ⟨co0, zo0, co1, zo1, neo⟩ := b2z Ko
        obtain ⟨cr0, zr0, cr1, zr1, ner⟩ := b2z Kr
        obtain ⟨cx0, zx0, cx1, zx1, nex⟩ := b2z Kx
        refine hK.out _ _ ⟨blk_cell Ka 0, blk_cell Ka 1, blk_cell Km 0, blk_cell Km 1⟩ (fun hHeld => ?_)
        clear hK K
        refine wpAnyH_ready (rs := [10]) (by kernel_rfl) (by simp) ?_
        refine AllReadyH.cons (o := ⟨_, _, _, _, _, _⟩) rfl (fun K hK => ?_) (AllReadyH.nil)
        go_simp
        clear cf0 cf1 zf0 zf1 ca0 ca1 za0 za1 cm0 cm1 zm0 zm1 co0 co1 zo0 zo1 cr0 cr1 zr0 zr1 cx0 cx1 zx0 zx1 nef nea nem neo ner nex
        obtain ⟨w5, hw5⟩ : ∃ ww, ww = ((w4.setCell ⟨(w.heap.size), 0, none⟩ (.int .u8 (rorF f (andB a m)).p)).setCell ⟨(w.heap.size), 1, none⟩ (.int .u8 (rorF f (andB a m)).s)) := ⟨_, rfl⟩
        rw [← hw5]
        have nna : (w.heap.size) ≠ (w.heap.size + 1) := by first | omega | (have := blk_lt Ka; have := blk_lt Kf; have := bl.size; omega)
        replace Ka : B2 w5 (w.heap.size + 1) (.int .u8 a.v) (.bool a.s) 25 := by rw [hw5]; exact ((oth2 nna _ _).trans Ka)
        clear nna
        have nnm : (w.heap.size) ≠ (w.heap.size + 1 + 1) := by first | omega | (have := blk_lt Km; have := blk_lt Kf; have := bl.size; omega)
        replace Km : B2 w5 (w.heap.size + 1 + 1) (.int .u8 m.v) (.bool m.s) 25 := by rw [hw5]; exact ((oth2 nnm _ _).trans Km)
        clear nnm
        have nno : (w.heap.size) ≠ (w.heap.size + 1 + 1 + 1) := by first | omega | (have := blk_lt Ko; have := blk_lt Kf; have := bl.size; omega)
        replace Ko : B2 w5 (w.heap.size + 1 + 1 + 1) (.int .u8 0) (.bool false) 25 := by rw [hw5]; exact ((oth2 nno _ _).trans Ko)
        clear nno
        have nnr : (w.heap.size) ≠ (w.heap.size + 1 + 1 + 1 + 1) := by first | omega | (have := blk_lt Kr; have := blk_lt Kf; have := bl.size; omega)
        replace Kr : B2 w5 (w.heap.size + 1 + 1 + 1 + 1) (.int .u8 0) (.int .u8 0) 23 := by rw [hw5]; exact ((oth2 nnr _ _).trans Kr)
        clear nnr
        have nnx : (w.heap.size) ≠ w0.heap.size := by first | omega | (have := blk_lt Kx; have := blk_lt Kf; have := bl.size; omega)
        replace Kx : B2 w5 w0.heap.size (.int .u8 (rorB f (andB a m)).v) (.bool (rorB f (andB a m)).s) 25 := by rw [hw5]; exact ((oth2 nnx _ _).trans Kx)
        clear nnx
        replace Kf : B2 w5 (w.heap.size) (.int .u8 (rorF f (andB a m)).p) (.int .u8 (rorF f (andB a m)).s) 23 := by rw [hw5]; exact (set2 Kf _ _)
        replace bl : Below w.heap.size w w5 := by rw [hw5]; exact bs2 bl (by first | exact Nat.le_refl _ | omega | (have := bl.size; omega)) _ _
        clear hw5
        obtain ⟨cf0, zf0, cf1, zf1, nef⟩ := b2z Kf
        obtain ⟨ca0, za0, ca1, za1, nea⟩ := b2z Ka
        obtain ⟨cm0, zm0, cm1, zm1, nem⟩ := b2z Km
        obtain ⟨co0, zo0, co1, zo1, neo⟩ := b2z Ko
        obtain ⟨cr0, zr0, cr1, zr1, ner⟩ := b2z Kr
        obtain ⟨cx0, zx0, cx1, zx1, nex⟩ := b2z Kx
        refine hK.out _ _ ⟨blk_cell Ka 0, blk_cell Ka 1, blk_cell Km 0, blk_cell Km 1⟩ (fun hHeld => ?_)
        clear hK K
        refine wpAnyH_done (by kernel_rfl) (NoPanic.normal ?_) _
        go_wp2_with fail
        go_meet
        exact ⟨_, rfl, qxf, qxa, qxm, qxo, qxr, Kx, Kf, Ka, Km, Ko, Kr, bl⟩
  case rest =>
  clear Kf Ka Km Ko Kr bl cf0 cf1 zf0 zf1 ca0 ca1 za0 za1 cm0 cm1 zm0 zm1 co0 co1 zo0 zo1 cr0 cr1 zr0 zr1 nef nea nem neo ner
  obtain ⟨gx, rfl, qxf, qxa, qxm, qxo, qxr, Kx, Kf, Ka, Km, Ko, Kr, bl⟩ := hcut
  have qfx := qxf.symm
  have qax := qxa.symm
  have qmx := qxm.symm
  have qox := qxo.symm
  have qrx := qxr.symm
  obtain ⟨cf0, zf0, cf1, zf1, nef⟩ := b2z Kf
  obtain ⟨ca0, za0, ca1, za1, nea⟩ := b2z Ka
  obtain ⟨cm0, zm0, cm1, zm1, nem⟩ := b2z Km
  obtain ⟨co0, zo0, co1, zo1, neo⟩ := b2z Ko
  obtain ⟨cr0, zr0, cr1, zr1, ner⟩ := b2z Kr
  obtain ⟨cx0, zx0, cx1, zx1, nex⟩ := b2z Kx
  go_wp2_with fail
  refine (lbit6 (rorB f (andB a m)) _).mono ?_
  rintro e w1 ⟨rfl, b1⟩
  clear cf0 cf1 zf0 zf1 ca0 ca1 za0 za1 cm0 cm1 zm0 zm1 co0 co1 zo0 zo1 cr0 cr1 zr0 zr1 cx0 cx1 zx0 zx1 nef nea nem neo ner nex
  replace Kf := kp b1 Kf
  replace Ka := kp b1 Ka
  replace Km := kp b1 Km
  replace Ko := kp b1 Ko
  replace Kr := kp b1 Kr
  replace Kx := kp b1 Kx
  replace bl := bl.trans (b1.mono bl.size)
  clear b1
  obtain ⟨cf0, zf0, cf1, zf1, nef⟩ := b2z Kf
  obtain ⟨ca0, za0, ca1, za1, nea⟩ := b2z Ka
  obtain ⟨cm0, zm0, cm1, zm1, nem⟩ := b2z Km
  obtain ⟨co0, zo0, co1, zo1, neo⟩ := b2z Ko
  obtain ⟨cr0, zr0, cr1, zr1, ner⟩ := b2z Kr
  obtain ⟨cx0, zx0, cx1, zx1, nex⟩ := b2z Kx
  go_upto_region 3 with fail
  have ly : w.heap.size ≤ w1.heap.size := bl.size
  have qfy : (w.heap.size) ≠ w1.heap.size := by have := blk_lt Kf; omega
  have qyf := qfy.symm
  have qay : (w.heap.size + 1) ≠ w1.heap.size := by have := blk_lt Ka; omega
  have qya := qay.symm
  have qmy : (w.heap.size + 1 + 1) ≠ w1.heap.size := by have := blk_lt Km; omega
  have qym := qmy.symm
  have qoy : (w.heap.size + 1 + 1 + 1) ≠ w1.heap.size := by have := blk_lt Ko; omega
  have qyo := qoy.symm
  have qry : (w.heap.size + 1 + 1 + 1 + 1) ≠ w1.heap.size := by have := blk_lt Kr; omega
  have qyr := qry.symm
  have qxy : gx ≠ w1.heap.size := by have := blk_lt Kx; omega
  have qyx := qxy.symm
  obtain ⟨w2, hw2⟩ : ∃ ww, ww = (w1.alloc (.cells #[.int .u8 (bits BinOp.and IntKind.u8 ((rorB f (andB a m)).v / 64) 1), .bool (anyB [(rorB f (andB a m))])] 25)) := ⟨_, rfl⟩
  rw [← hw2]
  have b2 : Below w1.heap.size w1 w2 := by rw [hw2]; (repeat first | exact .refl _ _ | exact (Below.refl _ _).drew | refine .drew ?_ | refine .alloc ?_ (by simp <;> omega) _)
  have Ky : B2 w2 w1.heap.size (.int .u8 (bits BinOp.and IntKind.u8 ((rorB f (andB a m)).v / 64) 1)) (.bool (anyB [(rorB f (andB a m))])) 25 := by rw [hw2]; exact blk_new _ _
  clear hw2
  clear cf0 cf1 zf0 zf1 ca0 ca1 za0 za1 cm0 cm1 zm0 zm1 co0 co1 zo0 zo1 cr0 cr1 zr0 zr1 cx0 cx1 zx0 zx1 nef nea nem neo ner nex
  replace Kf := kp b2 Kf
  replace Ka := kp b2 Ka
  replace Km := kp b2 Km
  replace Ko := kp b2 Ko
  replace Kr := kp b2 Kr
  replace Kx := kp b2 Kx
  replace bl := bl.trans (b2.mono bl.size)
  clear b2
  obtain ⟨cf0, zf0, cf1, zf1, nef⟩ := b2z Kf
  obtain ⟨ca0, za0, ca1, za1, nea⟩ := b2z Ka
  obtain ⟨cm0, zm0, cm1, zm1, nem⟩ := b2z Km
  obtain ⟨co0, zo0, co1, zo1, neo⟩ := b2z Ko
  obtain ⟨cr0, zr0, cr1, zr1, ner⟩ := b2z Kr
  obtain ⟨cx0, zx0, cx1, zx1, nex⟩ := b2z Kx
  obtain ⟨cy0, zy0, cy1, zy1, ney⟩ := b2z Ky
  refine wp_region_noPanic ?_
  refine wp_region_held_drew (S := (fun w' => w'.cell? ⟨(w.heap.size), 0, none⟩ = some (.int .u8 (rorF f (andB a m)).p) ∧ w'.cell? ⟨(w.heap.size), 1, none⟩ = some (.int .u8 (rorF f (andB a m)).s) ∧ w'.cell? ⟨gx, 0, none⟩ = some (.int .u8 (rorB f (andB a m)).v) ∧ w'.cell? ⟨gx, 1, none⟩ = some (.bool (rorB f (andB a m)).s) ∧ w'.cell? ⟨w1.heap.size, 0, none⟩ = some (.int .u8 (bits BinOp.and IntKind.u8 ((rorB f (andB a m)).v / 64) 1)) ∧ w'.cell? ⟨w1.heap.size, 1, none⟩ = some (.bool (anyB [(rorB f (andB a m))])))) (by kernel_rfl) ⟨blk_cell Kf 0, blk_cell Kf 1, blk_cell Kx 0, blk_cell Kx 1, blk_cell Ky 0, blk_cell Ky 1⟩ (fun hHeld => ?_)
  refine tk 0 (v := ?_) rfl ?_ ?_; rotate_left; (focus (intro w hSw; (try dsimp only at hSw); go_simp; with_reducible rfl)); simp only [Act.put, tA, tB, tC]
  refine tk 1 (v := ?_) rfl ?_ ?_; rotate_left; (focus (intro w hSw; (try dsimp only at hSw); go_simp; with_reducible rfl)); simp only [Act.put, tA, tB, tC]
  refine tk 2 (v := ?_) rfl ?_ ?_; rotate_left; (focus (intro w hSw; (try dsimp only at hSw); go_simp; with_reducible rfl)); simp only [Act.put, tA, tB, tC]
  refine tk 4 (v := ?_) rfl ?_ ?_; rotate_left; (focus (intro w hSw; (try dsimp only at hSw); go_simp; with_reducible rfl)); simp only [Act.put, tA, tB, tC]
  refine tk 5 (v := ?_) rfl ?_ ?_; rotate_left; (focus (intro w hSw; (try dsimp only at hSw); go_simp; with_reducible rfl)); simp only [Act.put, tA, tB, tC]
  refine wpAnyH_ready (rs := [3]) (by kernel_rfl) (by simp) ?_
  refine AllReadyH.cons (o := ⟨_, _, _, _, _, _⟩) rfl (fun K hK => ?_) (AllReadyH.nil)
  go_simp
  refine (set_any (rorF f (andB a m)) 1 (lbF (rorB f (andB a m)) ((rorB f (andB a m)).v / 64)) _).mono ?_
  rintro e w3 ⟨rfl, b3⟩
  replace b3 : Below w2.heap.size w2 w3 := (Below.refl _ _).drew.trans b3
  clear cf0 cf1 zf0 zf1 ca0 ca1 za0 za1 cm0 cm1 zm0 zm1 co0 co1 zo0 zo1 cr0 cr1 zr0 zr1 cx0 cx1 zx0 zx1 cy0 cy1 zy0 zy1 nef nea nem neo ner nex ney
  replace Kf := kp b3 Kf
  replace Ka := kp b3 Ka
  replace Km := kp b3 Km
  replace Ko := kp b3 Ko
  replace Kr := kp b3 Kr
  replace Kx := kp b3 Kx
  replace Ky := kp b3 Ky
  replace bl := bl.trans (b3.mono bl.size)
  clear b3
  obtain ⟨cf0, zf0, cf1, zf1, nef⟩ := b2z Kf
  obtain ⟨ca0, za0, ca1, za1, nea⟩ := b2z Ka
  obtain ⟨cm0, zm0, cm1, zm1, nem⟩ := b2z Km
  obtain ⟨co0, zo0, co1, zo1, neo⟩ := b2z Ko
  obtain ⟨cr0, zr0, cr1, zr1, ner⟩ := b2z Kr
  obtain ⟨cx0, zx0, cx1, zx1, nex⟩ := b2z Kx
  obtain ⟨cy0, zy0, cy1, zy1, ney⟩ := b2z Ky
  refine hK.out _ _ ⟨blk_cell Kf 0, blk_cell Kf 1, blk_cell Kx 0, blk_cell Kx 1, blk_cell Ky 0, blk_cell Ky 1⟩ (fun hHeld => ?_)
  clear hK K
  refine wpAnyH_ready (rs := [6]) (by kernel_rfl) (by simp) ?_
  refine AllReadyH.cons (o := ⟨_, _, _, _, _, _⟩) rfl (fun K hK => ?_) (AllReadyH.nil)
  go_simp
  refine (lbit5 (rorB f (andB a m)) _).mono ?_
  rintro e w4 ⟨rfl, b4⟩
  clear cf0 cf1 zf0 zf1 ca0 ca1 za0 za1 cm0 cm1 zm0 zm1 co0 co1 zo0 zo1 cr0 cr1 zr0 zr1 cx0 cx1 zx0 zx1 cy0 cy1 zy0 zy1 nef nea nem neo ner nex ney
  replace Kf := kp b4 Kf
  replace Ka := kp b4 Ka
  replace Km := kp b4 Km
  replace Ko := kp b4 Ko
  replace Kr := kp b4 Kr
  replace Kx := kp b4 Kx
  replace Ky := kp b4 Ky
  replace bl := bl.trans (b4.mono bl.size)
  clear b4
  obtain ⟨cf0, zf0, cf1, zf1, nef⟩ := b2z Kf
  obtain ⟨ca0, za0, ca1, za1, nea⟩ := b2z Ka
  obtain ⟨cm0, zm0, cm1, zm1, nem⟩ := b2z Km
  obtain ⟨co0, zo0, co1, zo1, neo⟩ := b2z Ko
  obtain ⟨cr0, zr0, cr1, zr1, ner⟩ := b2z Kr
  obtain ⟨cx0, zx0, cx1, zx1, nex⟩ := b2z Kx
  obtain ⟨cy0, zy0, cy1, zy1, ney⟩ := b2z Ky
  refine hK.out _ _ ⟨blk_cell Kf 0, blk_cell Kf 1, blk_cell Kx 0, blk_cell Kx 1, blk_cell Ky 0, blk_cell Ky 1⟩ (fun hHeld => ?_)
  clear hK K
  refine wpAnyH_ready (rs := [7]) (by kernel_rfl) (by simp) ?_
  refine AllReadyH.cons (o := ⟨_, _, _, _, _, _⟩) rfl (fun K hK => ?_) (AllReadyH.nil)
  go_simp
  refine (xor_any (lbF (rorB f (andB a m)) ((rorB f (andB a m)).v / 64)) (lbF (rorB f (andB a m)) ((rorB f (andB a m)).v / 32)) _).mono ?_
  rintro e w5 ⟨rfl, b5⟩
  clear cf0 cf1 zf0 zf1 ca0 ca1 za0 za1 cm0 cm1 zm0 zm1 co0 co1 zo0 zo1 cr0 cr1 zr0 zr1 cx0 cx1 zx0 zx1 cy0 cy1 zy0 zy1 nef nea nem neo ner nex ney
  replace Kf := kp b5 Kf
  replace Ka := kp b5 Ka
  replace Km := kp b5 Km
  replace Ko := kp b5 Ko
  replace Kr := kp b5 Kr
  replace Kx := kp b5 Kx
  replace Ky := kp b5 Ky
  replace bl := bl.trans (b5.mono bl.size)
  clear b5
  obtain ⟨cf0, zf0, cf1, zf1, nef⟩ := b2z Kf
  obtain ⟨ca0, za0, ca1, za1, nea⟩ := b2z Ka
  obtain ⟨cm0, zm0, cm1, zm1, nem⟩ := b2z Km
  obtain ⟨co0, zo0, co1, zo1, neo⟩ := b2z Ko
  obtain ⟨cr0, zr0, cr1, zr1, ner⟩ := b2z Kr
  obtain ⟨cx0, zx0, cx1, zx1, nex⟩ := b2z Kx
  obtain ⟨cy0, zy0, cy1, zy1, ney⟩ := b2z Ky
  refine hK.out _ _ ⟨blk_cell Kf 0, blk_cell Kf 1, blk_cell Kx 0, blk_cell Kx 1, blk_cell Ky 0, blk_cell Ky 1⟩ (fun hHeld => ?_)
  clear hK K
  refine wpAnyH_ready (rs := [8]) (by kernel_rfl) (by simp) ?_
  refine AllReadyH.cons (o := ⟨_, _, _, _, _, _⟩) rfl (fun K hK => ?_) (AllReadyH.nil)
  go_simp
  refine (set_any (setF (rorF f (andB a m)) 1 (lbF (rorB f (andB a m)) ((rorB f (andB a m)).v / 64))) 64 (xorB (lbF (rorB f (andB a m)) ((rorB f (andB a m)).v / 64)) (lbF (rorB f (andB a m)) ((rorB f (andB a m)).v / 32))) _).mono ?_
  rintro e w6 ⟨rfl, b6⟩
  clear cf0 cf1 zf0 zf1 ca0 ca1 za0 za1 cm0 cm1 zm0 zm1 co0 co1 zo0 zo1 cr0 cr1 zr0 zr1 cx0 cx1 zx0 zx1 cy0 cy1 zy0 zy1 nef nea nem neo ner nex ney
  replace Kf := kp b6 Kf
  replace Ka := kp b6 Ka
  replace Km := kp b6 Km
  replace Ko := kp b6 Ko
  replace Kr := kp b6 Kr
  replace Kx := kp b6 Kx
  replace Ky := kp b6 Ky
  replace bl := bl.trans (b6.mono bl.size)
  clear b6
  obtain ⟨cf0, zf0, cf1, zf1, nef⟩ := b2z Kf
  obtain ⟨ca0, za0, ca1, za1, nea⟩ := b2z Ka
  obtain ⟨cm0, zm0, cm1, zm1, nem⟩ := b2z Km
  obtain ⟨co0, zo0, co1, zo1, neo⟩ := b2z Ko
  obtain ⟨cr0, zr0, cr1, zr1, ner⟩ := b2z Kr
  obtain ⟨cx0, zx0, cx1, zx1, nex⟩ := b2z Kx
  obtain ⟨cy0, zy0, cy1, zy1, ney⟩ := b2z Ky
  refine hK.out _ _ ⟨blk_cell Kf 0, blk_cell Kf 1, blk_cell Kx 0, blk_cell Kx 1, blk_cell Ky 0, blk_cell Ky 1⟩ (fun hHeld => ?_)
  clear hK K
  refine wpAnyH_ready (rs := [9]) (by kernel_rfl) (by simp) ?_
  refine AllReadyH.cons (o := ⟨_, _, _, _, _, _⟩) rfl (fun K hK => ?_) (AllReadyH.nil)
  go_simp
  clear cf0 cf1 zf0 zf1 ca0 ca1 za0 za1 cm0 cm1 zm0 zm1 co0 co1 zo0 zo1 cr0 cr1 zr0 zr1 cx0 cx1 zx0 zx1 cy0 cy1 zy0 zy1 nef nea nem neo ner nex ney
  obtain ⟨w7, hw7⟩ : ∃ ww, ww = ((w6.setCell ⟨(w.heap.size + 1 + 1 + 1), 0, none⟩ (.int .u8 (rorB f (andB a m)).v)).setCell ⟨(w.heap.size + 1 + 1 + 1), 1, none⟩ (.bool (rorB f (andB a m)).s)) := ⟨_, rfl⟩
  rw [← hw7]
  have nnf : (w.heap.size + 1 + 1 + 1) ≠ (w.heap.size) := by first | omega | (have := blk_lt Kf; have := blk_lt Ko; have := bl.size; omega)
  replace Kf : B2 w7 (w.heap.size) (.int .u8 (rorF f (andB a m)).p) (.int .u8 (rorF f (andB a m)).s) 23 := by rw [hw7]; exact ((oth2 nnf _ _).trans Kf)
  clear nnf
  have nna : (w.heap.size + 1 + 1 + 1) ≠ (w.heap.size + 1) := by first | omega | (have := blk_lt Ka; have := blk_lt Ko; have := bl.size; omega)
  replace Ka : B2 w7 (w.heap.size + 1) (.int .u8 a.v) (.bool a.s) 25 := by rw [hw7]; exact ((oth2 nna _ _).trans Ka)
  clear nna
  have nnm : (w.heap.size + 1 + 1 + 1) ≠ (w.heap.size + 1 + 1) := by first | omega | (have := blk_lt Km; have := blk_lt Ko; have := bl.size; omega)
  replace Km : B2 w7 (w.heap.size + 1 + 1) (.int .u8 m.v) (.bool m.s) 25 := by rw [hw7]; exact ((oth2 nnm _ _).trans Km)
  clear nnm
  have nnr : (w.heap.size + 1 + 1 + 1) ≠ (w.heap.size + 1 + 1 + 1 + 1) := by first | omega | (have := blk_lt Kr; have := blk_lt Ko; have := bl.size; omega)
  replace Kr : B2 w7 (w.heap.size + 1 + 1 + 1 + 1) (.int .u8 0) (.int .u8 0) 23 := by rw [hw7]; exact ((oth2 nnr _ _).trans Kr)
  clear nnr
  have nnx : (w.heap.size + 1 + 1 + 1) ≠ gx := by first | omega | (have := blk_lt Kx; have := blk_lt Ko; have := bl.size; omega)
  replace Kx : B2 w7 gx (.int .u8 (rorB f (andB a m)).v) (.bool (rorB f (andB a m)).s) 25 := by rw [hw7]; exact ((oth2 nnx _ _).trans Kx)
  clear nnx
  have nny : (w.heap.size + 1 + 1 + 1) ≠ w1.heap.size := by first | omega | (have := blk_lt Ky; have := blk_lt Ko; have := bl.size; omega)
  replace Ky : B2 w7 w1.heap.size (.int .u8 (bits BinOp.and IntKind.u8 ((rorB f (andB a m)).v / 64) 1)) (.bool (anyB [(rorB f (andB a m))])) 25 := by rw [hw7]; exact ((oth2 nny _ _).trans Ky)
  clear nny
  replace Ko : B2 w7 (w.heap.size + 1 + 1 + 1) (.int .u8 (rorB f (andB a m)).v) (.bool (rorB f (andB a m)).s) 25 := by rw [hw7]; exact (set2 Ko _ _)
  replace bl : Below w.heap.size w w7 := by rw [hw7]; exact bs2 bl (by first | exact Nat.le_refl _ | omega | (have := bl.size; omega)) _ _
  clear hw7
  obtain ⟨cf0, zf0, cf1, zf1, nef⟩ := b2z Kf
  obtain ⟨ca0, za0, ca1, za1, nea⟩ := b2z Ka
  obtain ⟨cm0, zm0, cm1, zm1, nem⟩ := b2z Km
  obtain ⟨co0, zo0, co1, zo1, neo⟩ := b2z Ko
  obtain ⟨cr0, zr0, cr1, zr1, ner⟩ := b2z Kr
  obtain ⟨cx0, zx0, cx1, zx1, nex⟩ := b2z Kx
  obtain ⟨cy0, zy0, cy1, zy1, ney⟩ := b2z Ky
  refine hK.out _ _ ⟨blk_cell Kf 0, blk_cell Kf 1, blk_cell Kx 0, blk_cell Kx 1, blk_cell Ky 0, blk_cell Ky 1⟩ (fun hHeld => ?_)
  clear hK K
  refine wpAnyH_ready (rs := [10]) (by kernel_rfl) (by simp) ?_
  refine AllReadyH.cons (o := ⟨_, _, _, _, _, _⟩) rfl (fun K hK => ?_) (AllReadyH.nil)
  go_simp
  clear cf0 cf1 zf0 zf1 ca0 ca1 za0 za1 cm0 cm1 zm0 zm1 co0 co1 zo0 zo1 cr0 cr1 zr0 zr1 cx0 cx1 zx0 zx1 cy0 cy1 zy0 zy1 nef nea nem neo ner nex ney
  obtain ⟨w8, hw8⟩ : ∃ ww, ww = ((w7.setCell ⟨(w.heap.size + 1 + 1 + 1 + 1), 0, none⟩ (.int .u8 (setF (setF (rorF f (andB a m)) 1 (lbF (rorB f (andB a m)) ((rorB f (andB a m)).v / 64))) 64 (xorB (lbF (rorB f (andB a m)) ((rorB f (andB a m)).v / 64)) (lbF (rorB f (andB a m)) ((rorB f (andB a m)).v / 32)))).p)).setCell ⟨(w.heap.size + 1 + 1 + 1 + 1), 1, none⟩ (.int .u8 (setF (setF (rorF f (andB a m)) 1 (lbF (rorB f (andB a m)) ((rorB f (andB a m)).v / 64))) 64 (xorB (lbF (rorB f (andB a m)) ((rorB f (andB a m)).v / 64)) (lbF (rorB f (andB a m)) ((rorB f (andB a m)).v / 32)))).s)) := ⟨_, rfl⟩
  rw [← hw8]
  have nnf : (w.heap.size + 1 + 1 + 1 + 1) ≠ (w.heap.size) := by first | omega | (have := blk_lt Kf; have := blk_lt Kr; have := bl.size; omega)
  replace Kf : B2 w8 (w.heap.size) (.int .u8 (rorF f (andB a m)).p) (.int .u8 (rorF f (andB a m)).s) 23 := by rw [hw8]; exact ((oth2 nnf _ _).trans Kf)
  clear nnf
  have nna : (w.heap.size + 1 + 1 + 1 + 1) ≠ (w.heap.size + 1) := by first | omega | (have := blk_lt Ka; have := blk_lt Kr; have := bl.size; omega)
  replace Ka : B2 w8 (w.heap.size + 1) (.int .u8 a.v) (.bool a.s) 25 := by rw [hw8]; exact ((oth2 nna _ _).trans Ka)
  clear nna
  have nnm : (w.heap.size + 1 + 1 + 1 + 1) ≠ (w.heap.size + 1 + 1) := by first | omega | (have := blk_lt Km; have := blk_lt Kr; have := bl.size; omega)
  replace Km : B2 w8 (w.heap.size + 1 + 1) (.int .u8 m.v) (.bool m.s) 25 := by rw [hw8]; exact ((oth2 nnm _ _).trans Km)
  clear nnm
  have nno : (w.heap.size + 1 + 1 + 1 + 1) ≠ (w.heap.size + 1 + 1 + 1) := by first | omega | (have := blk_lt Ko; have := blk_lt Kr; have := bl.size; omega)
  replace Ko : B2 w8 (w.heap.size + 1 + 1 + 1) (.int .u8 (rorB f (andB a m)).v) (.bool (rorB f (andB a m)).s) 25 := by rw [hw8]; exact ((oth2 nno _ _).trans Ko)
  clear nno
  have nnx : (w.heap.size + 1 + 1 + 1 + 1) ≠ gx := by first | omega | (have := blk_lt Kx; have := blk_lt Kr; have := bl.size; omega)
  replace Kx : B2 w8 gx (.int .u8 (rorB f (andB a m)).v) (.bool (rorB f (andB a m)).s) 25 := by rw [hw8]; exact ((oth2 nnx _ _).trans Kx)
  clear nnx
  have nny : (w.heap.size + 1 + 1 + 1 + 1) ≠ w1.heap.size := by first | omega | (have := blk_lt Ky; have := blk_lt Kr; have := bl.size; omega)
  replace Ky : B2 w8 w1.heap.size (.int .u8 (bits BinOp.and IntKind.u8 ((rorB f (andB a m)).v / 64) 1)) (.bool (anyB [(rorB f (andB a m))])) 25 := by rw [hw8]; exact ((oth2 nny _ _).trans Ky)
  clear nny
  replace Kr : B2 w8 (w.heap.size + 1 + 1 + 1 + 1) (.int .u8 (setF (setF (rorF f (andB a m)) 1 (lbF (rorB f (andB a m)) ((rorB f (andB a m)).v / 64))) 64 (xorB (lbF (rorB f (andB a m)) ((rorB f (andB a m)).v / 64)) (lbF (rorB f (andB a m)) ((rorB f (andB a m)).v / 32)))).p) (.int .u8 (setF (setF (rorF f (andB a m)) 1 (lbF (rorB f (andB a m)) ((rorB f (andB a m)).v / 64))) 64 (xorB (lbF (rorB f (andB a m)) ((rorB f (andB a m)).v / 64)) (lbF (rorB f (andB a m)) ((rorB f (andB a m)).v / 32)))).s) 23 := by rw [hw8]; exact (set2 Kr _ _)
  replace bl : Below w.heap.size w w8 := by rw [hw8]; exact bs2 bl (by first | exact Nat.le_refl _ | omega | (have := bl.size; omega)) _ _
  clear hw8
  obtain ⟨cf0, zf0, cf1, zf1, nef⟩ := b2z Kf
  obtain ⟨ca0, za0, ca1, za1, nea⟩ := b2z Ka
  obtain ⟨cm0, zm0, cm1, zm1, nem⟩ := b2z Km
  obtain ⟨co0, zo0, co1, zo1, neo⟩ := b2z Ko
  obtain ⟨cr0, zr0, cr1, zr1, ner⟩ := b2z Kr
  obtain ⟨cx0, zx0, cx1, zx1, nex⟩ := b2z Kx
  obtain ⟨cy0, zy0, cy1, zy1, ney⟩ := b2z Ky
  refine hK.out _ _ ⟨blk_cell Kf 0, blk_cell Kf 1, blk_cell Kx 0, blk_cell Kx 1, blk_cell Ky 0, blk_cell Ky 1⟩ (fun hHeld => ?_)
  clear hK K
  refine wpAnyH_done (by kernel_rfl) (NoPanic.normal ?_) _
  go_wp2_with fail
  exact bodyPost_ret (v := .tuple #[(rorB f (andB a m)).V, (setF (setF (rorF f (andB a m)) 1 (lbF (rorB f (andB a m)) ((rorB f (andB a m)).v / 64))) 64 (xorB (lbF (rorB f (andB a m)) ((rorB f (andB a m)).v / 64)) (lbF (rorB f (andB a m)) ((rorB f (andB a m)).v / 32)))).V]) (by simp [results, Try.results37, go_sem, co0, co1, cr0, cr1]) rfl ⟨rfl, bl⟩
end Go.Proofs.Ytdgjenlejalgeaa
