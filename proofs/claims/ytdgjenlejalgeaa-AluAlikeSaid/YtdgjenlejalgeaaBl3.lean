import Derived.Test.YtdgjenlejalgeaaBl2
namespace Go.Proofs.Ytdgjenlejalgeaa
open Go.RowKit Go.Sx
theorem drew_heap (w : World) (g : Nat) : w.drew.heap[g]? = w.heap[g]? := rfl
set_option maxHeartbeats 800000 in
theorem put0 (w : World) (g gb : Nat) (p s bit : Int) (t : TypeId) (is : Bool) (hg : g ≠ gb) (k : B2 w g (.int .u8 p) (.int .u8 s) t) (kb : w.cell? ⟨gb, 0, none⟩ = some (.int .u8 bit)) :
    Calls Try.prog 43 #[.pointer (some ⟨g, 0, none⟩), .bool is, .pointer (some ⟨gb, 0, none⟩)] w fun e w' => (∃ v, e = .returned v) ∧ B2 w' g (.int .u8 (putI p bit is)) (.int .u8 s) t ∧ (∀ k, k ≠ g → w'.heap[k]? = w.heap[k]?) ∧ Below g w w' := by
  have KG := hidI k
  have c0 : w.cell? ⟨g, 0, none⟩ = some (.int .u8 p) := blk_cell k 0
  have z0 : w.frozen? ⟨g, 0, none⟩ = false := blk_free k 0
  have hg' := hg.symm
  clear k
  go_enter Try.func43, Try.ntmps43
  go_upto_region 0 with fail
  refine wp_region_noPanic ?_
  refine wp_region_held_drew (S := (fun w' => w'.cell? ⟨gb, 0, none⟩ = some (.int .u8 bit))) (by kernel_rfl) kb (fun hHeld => ?_)
  refine tk 0 (v := ?_) rfl ?_ ?_; rotate_left; (focus (intro w hSw; (try dsimp only at hSw); go_simp; with_reducible rfl)); simp only [Act.put, tA, tB, tC]
  refine tk 1 (v := ?_) rfl ?_ ?_; rotate_left; (focus (intro w hSw; (try dsimp only at hSw); go_simp; with_reducible rfl)); simp only [Act.put, tA, tB, tC]
  refine tk 3 (v := ?_) rfl ?_ ?_; rotate_left; (focus (intro w hSw; (try dsimp only at hSw); go_simp; with_reducible rfl)); simp only [Act.put, tA, tB, tC]
  refine tk 4 (v := ?_) rfl ?_ ?_; rotate_left; (focus (intro w hSw; (try dsimp only at hSw); go_simp; with_reducible rfl)); simp only [Act.put, tA, tB, tC]
  refine wpAnyH_ready (rs := [2]) (by kernel_rfl) (by simp) ?_
  refine AllReadyH.cons (o := ⟨_, _, _, _, _, _⟩) rfl (fun K hK => ?_) (AllReadyH.nil)
  go_simp
  refine hK.out _ _ kb (fun hHeld => ?_)
  clear hK K
  refine tk 5 (v := ?_) rfl ?_ ?_; rotate_left; (focus (intro w hSw; (try dsimp only at hSw); go_simp; with_reducible rfl)); simp only [Act.put, tA, tB, tC]
  refine tk 6 (v := ?_) rfl ?_ ?_; rotate_left; (focus (intro w hSw; (try dsimp only at hSw); go_simp; with_reducible rfl)); simp only [Act.put, tA, tB, tC]
  refine wpAnyH_ready (rs := [7]) (by kernel_rfl) (by simp) ?_
  refine AllReadyH.cons (o := ⟨_, _, _, _, _, _⟩) rfl (fun K hK => ?_) (AllReadyH.nil)
  go_simp
  refine hK.out _ _ (by first | (show World.cell? (World.setCell _ _ _) _ = _; go_simp; done) | go_simp) (fun hHeld => ?_)
  clear hK K
  refine wpAnyH_done (by kernel_rfl) (NoPanic.normal ?_) _
  obtain ⟨w1, hw1⟩ : ∃ ww, ww = (w.setCell ⟨g, 0, none⟩ (.int .u8 (N8 p (A8 bit 207)))).drew := ⟨_, rfl⟩
  go_upto_region 1 with fail
  rw [← hw1]
  have k1 : B2 w1 g (.int .u8 (N8 p (A8 bit 207))) (.int .u8 s) t := by rw [hw1]; exact (drew_heap _ _).trans (set_0 KG.out _)
  have o1 : ∀ k, k ≠ g → w1.heap[k]? = w.heap[k]? := fun k hk => by rw [hw1]; exact (drew_heap _ _).trans (blk_other (by exact fun e => hk e.symm) _)
  have bb : Below g w w1 := by rw [hw1]; exact ((Below.refl _ _).setCell (p := ⟨g, 0, none⟩) (Nat.le_refl _) _).drew
  have kb1 : w1.cell? ⟨gb, 0, none⟩ = some (.int .u8 bit) := (World.cell?_of_block (o1 gb hg')).trans kb
  clear hw1 kb c0 z0
  cases is
  · go_wp2_with fail
    exact bodyPost_end (v := .tuple #[]) (by simp [results, Try.results43, go_sem]) rfl ⟨⟨_, rfl⟩, k1, o1, bb⟩
  · have c0 : w1.cell? ⟨g, 0, none⟩ = some (.int .u8 (N8 p (A8 bit 207))) := blk_cell k1 0
    have z0 : w1.frozen? ⟨g, 0, none⟩ = false := blk_free k1 0
    go_upto_region 2 with fail
    refine wp_region_noPanic ?_
    refine wp_region_held_drew (S := (fun w' => w'.cell? ⟨gb, 0, none⟩ = some (.int .u8 bit))) (by kernel_rfl) kb1 (fun hHeld => ?_)
    refine tk 0 (v := ?_) rfl ?_ ?_; rotate_left; (focus (intro w hSw; (try dsimp only at hSw); go_simp; with_reducible rfl)); simp only [Act.put, tA, tB, tC]
    refine tk 1 (v := ?_) rfl ?_ ?_; rotate_left; (focus (intro w hSw; (try dsimp only at hSw); go_simp; with_reducible rfl)); simp only [Act.put, tA, tB, tC]
    refine tk 3 (v := ?_) rfl ?_ ?_; rotate_left; (focus (intro w hSw; (try dsimp only at hSw); go_simp; with_reducible rfl)); simp only [Act.put, tA, tB, tC]
    refine tk 4 (v := ?_) rfl ?_ ?_; rotate_left; (focus (intro w hSw; (try dsimp only at hSw); go_simp; with_reducible rfl)); simp only [Act.put, tA, tB, tC]
    refine wpAnyH_ready (rs := [2]) (by kernel_rfl) (by simp) ?_
    refine AllReadyH.cons (o := ⟨_, _, _, _, _, _⟩) rfl (fun K hK => ?_) (AllReadyH.nil)
    go_simp
    refine hK.out _ _ kb1 (fun hHeld => ?_)
    clear hK K
    refine tk 5 (v := ?_) rfl ?_ ?_; rotate_left; (focus (intro w hSw; (try dsimp only at hSw); go_simp; with_reducible rfl)); simp only [Act.put, tA, tB, tC]
    refine tk 6 (v := ?_) rfl ?_ ?_; rotate_left; (focus (intro w hSw; (try dsimp only at hSw); go_simp; with_reducible rfl)); simp only [Act.put, tA, tB, tC]
    refine wpAnyH_ready (rs := [7]) (by kernel_rfl) (by simp) ?_
    refine AllReadyH.cons (o := ⟨_, _, _, _, _, _⟩) rfl (fun K hK => ?_) (AllReadyH.nil)
    go_simp
    refine hK.out _ _ (by first | (show World.cell? (World.setCell _ _ _) _ = _; go_simp; done) | go_simp) (fun hHeld => ?_)
    clear hK K
    refine wpAnyH_done (by kernel_rfl) (NoPanic.normal ?_) _
    go_wp2_with fail
    exact bodyPost_end (v := .tuple #[]) (by simp [results, Try.results43, go_sem]) rfl ⟨⟨_, rfl⟩, (drew_heap _ _).trans (set_0 k1 _), fun k hk => (drew_heap _ _).trans ((blk_other (by exact fun e => hk e.symm) _).trans (o1 k hk)), (bb.setCell (p := ⟨g, 0, none⟩) (Nat.le_refl _) _).drew⟩
set_option maxHeartbeats 800000 in
theorem put1 (w : World) (g gb : Nat) (p s bit : Int) (t : TypeId) (is : Bool) (hg : g ≠ gb) (k : B2 w g (.int .u8 p) (.int .u8 s) t) (kb : w.cell? ⟨gb, 0, none⟩ = some (.int .u8 bit)) :
    Calls Try.prog 43 #[.pointer (some ⟨g, 1, none⟩), .bool is, .pointer (some ⟨gb, 0, none⟩)] w fun e w' => (∃ v, e = .returned v) ∧ B2 w' g (.int .u8 p) (.int .u8 (putI s bit is)) t ∧ (∀ k, k ≠ g → w'.heap[k]? = w.heap[k]?) ∧ Below g w w' := by
  have KG := hidI k
  have c0 : w.cell? ⟨g, 1, none⟩ = some (.int .u8 s) := blk_cell k 1
  have z0 : w.frozen? ⟨g, 1, none⟩ = false := blk_free k 1
  have hg' := hg.symm
  clear k
  go_enter Try.func43, Try.ntmps43
  go_upto_region 0 with fail
  refine wp_region_noPanic ?_
  refine wp_region_held_drew (S := (fun w' => w'.cell? ⟨gb, 0, none⟩ = some (.int .u8 bit))) (by kernel_rfl) kb (fun hHeld => ?_)
  refine tk 0 (v := ?_) rfl ?_ ?_; rotate_left; (focus (intro w hSw; (try dsimp only at hSw); go_simp; with_reducible rfl)); simp only [Act.put, tA, tB, tC]
  refine tk 1 (v := ?_) rfl ?_ ?_; rotate_left; (focus (intro w hSw; (try dsimp only at hSw); go_simp; with_reducible rfl)); simp only [Act.put, tA, tB, tC]
  refine tk 3 (v := ?_) rfl ?_ ?_; rotate_left; (focus (intro w hSw; (try dsimp only at hSw); go_simp; with_reducible rfl)); simp only [Act.put, tA, tB, tC]
  refine tk 4 (v := ?_) rfl ?_ ?_; rotate_left; (focus (intro w hSw; (try dsimp only at hSw); go_simp; with_reducible rfl)); simp only [Act.put, tA, tB, tC]
  refine wpAnyH_ready (rs := [2]) (by kernel_rfl) (by simp) ?_
  refine AllReadyH.cons (o := ⟨_, _, _, _, _, _⟩) rfl (fun K hK => ?_) (AllReadyH.nil)
  go_simp
  refine hK.out _ _ kb (fun hHeld => ?_)
  clear hK K
  refine tk 5 (v := ?_) rfl ?_ ?_; rotate_left; (focus (intro w hSw; (try dsimp only at hSw); go_simp; with_reducible rfl)); simp only [Act.put, tA, tB, tC]
  refine tk 6 (v := ?_) rfl ?_ ?_; rotate_left; (focus (intro w hSw; (try dsimp only at hSw); go_simp; with_reducible rfl)); simp only [Act.put, tA, tB, tC]
  refine wpAnyH_ready (rs := [7]) (by kernel_rfl) (by simp) ?_
  refine AllReadyH.cons (o := ⟨_, _, _, _, _, _⟩) rfl (fun K hK => ?_) (AllReadyH.nil)
  go_simp
  refine hK.out _ _ (by first | (show World.cell? (World.setCell _ _ _) _ = _; go_simp; done) | go_simp) (fun hHeld => ?_)
  clear hK K
  refine wpAnyH_done (by kernel_rfl) (NoPanic.normal ?_) _
  obtain ⟨w1, hw1⟩ : ∃ ww, ww = (w.setCell ⟨g, 1, none⟩ (.int .u8 (N8 s (A8 bit 207)))).drew := ⟨_, rfl⟩
  go_upto_region 1 with fail
  rw [← hw1]
  have k1 : B2 w1 g (.int .u8 p) (.int .u8 (N8 s (A8 bit 207))) t := by rw [hw1]; exact (drew_heap _ _).trans (set_1 KG.out _)
  have o1 : ∀ k, k ≠ g → w1.heap[k]? = w.heap[k]? := fun k hk => by rw [hw1]; exact (drew_heap _ _).trans (blk_other (by exact fun e => hk e.symm) _)
  have bb : Below g w w1 := by rw [hw1]; exact ((Below.refl _ _).setCell (p := ⟨g, 1, none⟩) (Nat.le_refl _) _).drew
  have kb1 : w1.cell? ⟨gb, 0, none⟩ = some (.int .u8 bit) := (World.cell?_of_block (o1 gb hg')).trans kb
  clear hw1 kb c0 z0
  cases is
  · go_wp2_with fail
    exact bodyPost_end (v := .tuple #[]) (by simp [results, Try.results43, go_sem]) rfl ⟨⟨_, rfl⟩, k1, o1, bb⟩
  · have c0 : w1.cell? ⟨g, 1, none⟩ = some (.int .u8 (N8 s (A8 bit 207))) := blk_cell k1 1
    have z0 : w1.frozen? ⟨g, 1, none⟩ = false := blk_free k1 1
    go_upto_region 2 with fail
    refine wp_region_noPanic ?_
    refine wp_region_held_drew (S := (fun w' => w'.cell? ⟨gb, 0, none⟩ = some (.int .u8 bit))) (by kernel_rfl) kb1 (fun hHeld => ?_)
    refine tk 0 (v := ?_) rfl ?_ ?_; rotate_left; (focus (intro w hSw; (try dsimp only at hSw); go_simp; with_reducible rfl)); simp only [Act.put, tA, tB, tC]
    refine tk 1 (v := ?_) rfl ?_ ?_; rotate_left; (focus (intro w hSw; (try dsimp only at hSw); go_simp; with_reducible rfl)); simp only [Act.put, tA, tB, tC]
    refine tk 3 (v := ?_) rfl ?_ ?_; rotate_left; (focus (intro w hSw; (try dsimp only at hSw); go_simp; with_reducible rfl)); simp only [Act.put, tA, tB, tC]
    refine tk 4 (v := ?_) rfl ?_ ?_; rotate_left; (focus (intro w hSw; (try dsimp only at hSw); go_simp; with_reducible rfl)); simp only [Act.put, tA, tB, tC]
    refine wpAnyH_ready (rs := [2]) (by kernel_rfl) (by simp) ?_
    refine AllReadyH.cons (o := ⟨_, _, _, _, _, _⟩) rfl (fun K hK => ?_) (AllReadyH.nil)
    go_simp
    refine hK.out _ _ kb1 (fun hHeld => ?_)
    clear hK K
    refine tk 5 (v := ?_) rfl ?_ ?_; rotate_left; (focus (intro w hSw; (try dsimp only at hSw); go_simp; with_reducible rfl)); simp only [Act.put, tA, tB, tC]
    refine tk 6 (v := ?_) rfl ?_ ?_; rotate_left; (focus (intro w hSw; (try dsimp only at hSw); go_simp; with_reducible rfl)); simp only [Act.put, tA, tB, tC]
    refine wpAnyH_ready (rs := [7]) (by kernel_rfl) (by simp) ?_
    refine AllReadyH.cons (o := ⟨_, _, _, _, _, _⟩) rfl (fun K hK => ?_) (AllReadyH.nil)
    go_simp
    refine hK.out _ _ (by first | (show World.cell? (World.setCell _ _ _) _ = _; go_simp; done) | go_simp) (fun hHeld => ?_)
    clear hK K
    refine wpAnyH_done (by kernel_rfl) (NoPanic.normal ?_) _
    go_wp2_with fail
    exact bodyPost_end (v := .tuple #[]) (by simp [results, Try.results43, go_sem]) rfl ⟨⟨_, rfl⟩, (drew_heap _ _).trans (set_1 k1 _), fun k hk => (drew_heap _ _).trans ((blk_other (by exact fun e => hk e.symm) _).trans (o1 k hk)), (bb.setCell (p := ⟨g, 1, none⟩) (Nat.le_refl _) _).drew⟩
set_option maxHeartbeats 1600000 in
theorem set_any (f : Fl) (bit : Int) (x : By) (w : World) : Calls Try.prog 13 #[f.V, .int .u8 bit, x.V] w fun e w' => e = .returned (setF f bit x).V ∧ Below w.heap.size w w' := by
  go_enter Try.func13, Try.ntmps13
  go_upto_region 1 with fail
  obtain ⟨w0, hw0⟩ : ∃ ww, ww = ((((w.alloc (.cells #[.int .u8 f.p, .int .u8 f.s] 23)).alloc (.cells #[.int .u8 bit] 5)).alloc (.cells #[.int .u8 x.v, .bool x.s] 25)).alloc (.cells #[.int .u8 0, .int .u8 0] 23)) := ⟨_, rfl⟩
  rw [← hw0]
  have Kf : B2 w0 (w.heap.size) (.int .u8 f.p) (.int .u8 f.s) 23 := by rw [hw0]; exact blk_alloc (blk_alloc (blk_alloc (blk_new' _ (by simp)) _) _) _
  have Kb : w0.heap[w.heap.size + 1]? = some (.cells #[.int .u8 bit] 5 (0, 0)) := by rw [hw0]; exact blk_alloc (blk_alloc (blk_new' _ (by simp)) _) _
  have Kx : B2 w0 (w.heap.size + 1 + 1) (.int .u8 x.v) (.bool x.s) 25 := by rw [hw0]; exact blk_alloc (blk_new' _ (by simp)) _
  have Kr : B2 w0 (w.heap.size + 1 + 1 + 1) (.int .u8 0) (.int .u8 0) 23 := by rw [hw0]; exact blk_new' _ (by simp)
  have qfb : w.heap.size ≠ w.heap.size + 1 := by omega
  have qfx : w.heap.size ≠ w.heap.size + 1 + 1 := by omega
  have qfr : w.heap.size ≠ w.heap.size + 1 + 1 + 1 := by omega
  have qbf : w.heap.size + 1 ≠ w.heap.size := by omega
  have qbx : w.heap.size + 1 ≠ w.heap.size + 1 + 1 := by omega
  have qbr : w.heap.size + 1 ≠ w.heap.size + 1 + 1 + 1 := by omega
  have qxf : w.heap.size + 1 + 1 ≠ w.heap.size := by omega
  have qxb : w.heap.size + 1 + 1 ≠ w.heap.size + 1 := by omega
  have qxr : w.heap.size + 1 + 1 ≠ w.heap.size + 1 + 1 + 1 := by omega
  have qrf : w.heap.size + 1 + 1 + 1 ≠ w.heap.size := by omega
  have qrb : w.heap.size + 1 + 1 + 1 ≠ w.heap.size + 1 := by omega
  have qrx : w.heap.size + 1 + 1 + 1 ≠ w.heap.size + 1 + 1 := by omega
  have bl : Below w.heap.size w w0 := by rw [hw0]; (repeat first | exact .refl _ _ | exact (Below.refl _ _).drew | refine .drew ?_ | refine .alloc ?_ (by simp <;> omega) _)
  clear hw0
  obtain ⟨cf0, zf0, cf1, zf1, nef⟩ := b2z Kf
  obtain ⟨cx0, zx0, cx1, zx1, nex⟩ := b2z Kx
  obtain ⟨cr0, zr0, cr1, zr1, ner⟩ := b2z Kr
  have cb0 : w0.cell? ⟨(w.heap.size + 1), 0, none⟩ = some (.int .u8 bit) := blk_cell Kb 0
  have neb : w0.heap.size ≠ (w.heap.size + 1) := by have := blk_lt Kb; omega
  go_wp2_with fail
  refine (check_any f _).mono ?_
  rintro e w1 ⟨rfl, b1⟩
  clear cf0 cf1 zf0 zf1 cx0 cx1 zx0 zx1 cr0 cr1 zr0 zr1 nef nex ner cb0 neb
  replace Kf := kp b1 Kf
  replace Kx := kp b1 Kx
  replace Kr := kp b1 Kr
  replace Kb := kp b1 Kb
  replace bl := bl.trans (b1.mono bl.size)
  clear b1
  obtain ⟨cf0, zf0, cf1, zf1, nef⟩ := b2z Kf
  obtain ⟨cx0, zx0, cx1, zx1, nex⟩ := b2z Kx
  obtain ⟨cr0, zr0, cr1, zr1, ner⟩ := b2z Kr
  have cb0 : w1.cell? ⟨(w.heap.size + 1), 0, none⟩ = some (.int .u8 bit) := blk_cell Kb 0
  have neb : w1.heap.size ≠ (w.heap.size + 1) := by have := blk_lt Kb; omega
  go_upto_region 2 with fail
  clear cf0 cf1 zf0 zf1 cx0 cx1 zx0 zx1 cr0 cr1 zr0 zr1 nef nex ner cb0 neb
  obtain ⟨w2, hw2⟩ : ∃ ww, ww = ((w1.setCell ⟨(w.heap.size), 0, none⟩ (.int .u8 (A8 f.p 207))).setCell ⟨(w.heap.size), 1, none⟩ (.int .u8 (A8 f.s 207))) := ⟨_, rfl⟩
  rw [← hw2]
  have nnx : (w.heap.size) ≠ (w.heap.size + 1 + 1) := by first | omega | (have := blk_lt Kx; have := blk_lt Kf; have := bl.size; omega)
  replace Kx : B2 w2 (w.heap.size + 1 + 1) (.int .u8 x.v) (.bool x.s) 25 := by rw [hw2]; exact ((oth2 nnx _ _).trans Kx)
  clear nnx
  have nnr : (w.heap.size) ≠ (w.heap.size + 1 + 1 + 1) := by first | omega | (have := blk_lt Kr; have := blk_lt Kf; have := bl.size; omega)
  replace Kr : B2 w2 (w.heap.size + 1 + 1 + 1) (.int .u8 0) (.int .u8 0) 23 := by rw [hw2]; exact ((oth2 nnr _ _).trans Kr)
  clear nnr
  replace Kb : w2.heap[(w.heap.size + 1)]? = some (.cells #[.int .u8 bit] 5 (0, 0)) := by rw [hw2]; exact ((oth2 (by omega) _ _).trans Kb)
  replace Kf : B2 w2 (w.heap.size) (.int .u8 (A8 f.p 207)) (.int .u8 (A8 f.s 207)) 23 := by rw [hw2]; exact (set2 Kf _ _)
  replace bl : Below w.heap.size w w2 := by rw [hw2]; exact bs2 bl (by first | exact Nat.le_refl _ | omega | (have := bl.size; omega)) _ _
  clear hw2
  obtain ⟨cf0, zf0, cf1, zf1, nef⟩ := b2z Kf
  obtain ⟨cx0, zx0, cx1, zx1, nex⟩ := b2z Kx
  obtain ⟨cr0, zr0, cr1, zr1, ner⟩ := b2z Kr
  have cb0 : w2.cell? ⟨(w.heap.size + 1), 0, none⟩ = some (.int .u8 bit) := blk_cell Kb 0
  have neb : w2.heap.size ≠ (w.heap.size + 1) := by have := blk_lt Kb; omega
  go_wp2_with fail
  refine (put0 w2 (w.heap.size) (w.heap.size + 1) (A8 f.p 207) (A8 f.s 207) bit 23 (x.v != 0) (by omega) Kf cb0).mono ?_
  rintro e w3 ⟨⟨v, rfl⟩, kf, ho, hb⟩
  clear cf0 cf1 zf0 zf1 cx0 cx1 zx0 zx1 cr0 cr1 zr0 zr1 nef nex ner cb0 neb
  replace Kx := (ho _ (by omega)).trans Kx
  replace Kr := (ho _ (by omega)).trans Kr
  replace Kb := (ho _ (by omega)).trans Kb
  replace Kf := kf
  replace bl := bl.trans (hb.mono (Nat.le_refl _))
  clear ho hb
  obtain ⟨cf0, zf0, cf1, zf1, nef⟩ := b2z Kf
  obtain ⟨cx0, zx0, cx1, zx1, nex⟩ := b2z Kx
  obtain ⟨cr0, zr0, cr1, zr1, ner⟩ := b2z Kr
  have cb0 : w3.cell? ⟨(w.heap.size + 1), 0, none⟩ = some (.int .u8 bit) := blk_cell Kb 0
  have neb : w3.heap.size ≠ (w.heap.size + 1) := by have := blk_lt Kb; omega
  go_wp2_with fail
  refine (put1 w3 (w.heap.size) (w.heap.size + 1) (putI (A8 f.p 207) bit (x.v != 0)) (A8 f.s 207) bit 23 (x.s) (by omega) Kf cb0).mono ?_
  rintro e w4 ⟨⟨v, rfl⟩, kf, ho, hb⟩
  clear cf0 cf1 zf0 zf1 cx0 cx1 zx0 zx1 cr0 cr1 zr0 zr1 nef nex ner cb0 neb
  replace Kx := (ho _ (by omega)).trans Kx
  replace Kr := (ho _ (by omega)).trans Kr
  replace Kb := (ho _ (by omega)).trans Kb
  replace Kf := kf
  replace bl := bl.trans (hb.mono (Nat.le_refl _))
  clear ho hb
  obtain ⟨cf0, zf0, cf1, zf1, nef⟩ := b2z Kf
  obtain ⟨cx0, zx0, cx1, zx1, nex⟩ := b2z Kx
  obtain ⟨cr0, zr0, cr1, zr1, ner⟩ := b2z Kr
  have cb0 : w4.cell? ⟨(w.heap.size + 1), 0, none⟩ = some (.int .u8 bit) := blk_cell Kb 0
  have neb : w4.heap.size ≠ (w.heap.size + 1) := by have := blk_lt Kb; omega
  go_wp2_with fail
  clear cf0 cf1 zf0 zf1 cx0 cx1 zx0 zx1 cr0 cr1 zr0 zr1 nef nex ner cb0 neb
  obtain ⟨w5, hw5⟩ : ∃ ww, ww = ((w4.setCell ⟨(w.heap.size + 1 + 1 + 1), 0, none⟩ (.int .u8 (putI (A8 f.p 207) bit (x.v != 0)))).setCell ⟨(w.heap.size + 1 + 1 + 1), 1, none⟩ (.int .u8 (putI (A8 f.s 207) bit x.s))) := ⟨_, rfl⟩
  rw [← hw5]
  have nnf : (w.heap.size + 1 + 1 + 1) ≠ (w.heap.size) := by first | omega | (have := blk_lt Kf; have := blk_lt Kr; have := bl.size; omega)
  replace Kf : B2 w5 (w.heap.size) (.int .u8 (putI (A8 f.p 207) bit (x.v != 0))) (.int .u8 (putI (A8 f.s 207) bit (x.s))) 23 := by rw [hw5]; exact ((oth2 nnf _ _).trans Kf)
  clear nnf
  have nnx : (w.heap.size + 1 + 1 + 1) ≠ (w.heap.size + 1 + 1) := by first | omega | (have := blk_lt Kx; have := blk_lt Kr; have := bl.size; omega)
  replace Kx : B2 w5 (w.heap.size + 1 + 1) (.int .u8 x.v) (.bool x.s) 25 := by rw [hw5]; exact ((oth2 nnx _ _).trans Kx)
  clear nnx
  replace Kb : w5.heap[(w.heap.size + 1)]? = some (.cells #[.int .u8 bit] 5 (0, 0)) := by rw [hw5]; exact ((oth2 (by omega) _ _).trans Kb)
  replace Kr : B2 w5 (w.heap.size + 1 + 1 + 1) (.int .u8 (putI (A8 f.p 207) bit (x.v != 0))) (.int .u8 (putI (A8 f.s 207) bit x.s)) 23 := by rw [hw5]; exact (set2 Kr _ _)
  replace bl : Below w.heap.size w w5 := by rw [hw5]; exact bs2 bl (by first | exact Nat.le_refl _ | omega | (have := bl.size; omega)) _ _
  clear hw5
  obtain ⟨cf0, zf0, cf1, zf1, nef⟩ := b2z Kf
  obtain ⟨cx0, zx0, cx1, zx1, nex⟩ := b2z Kx
  obtain ⟨cr0, zr0, cr1, zr1, ner⟩ := b2z Kr
  have cb0 : w5.cell? ⟨(w.heap.size + 1), 0, none⟩ = some (.int .u8 bit) := blk_cell Kb 0
  have neb : w5.heap.size ≠ (w.heap.size + 1) := by have := blk_lt Kb; omega
  exact bodyPost_ret (v := Fl.V ⟨putI (A8 f.p 207) bit (x.v != 0), putI (A8 f.s 207) bit x.s⟩) (by simp [results, Try.results13, go_sem, cr0, cr1]) rfl ⟨rfl, bl⟩
theorem low_any (v : Int) (w : World) : Calls Try.prog 50 #[.int .u8 v] w fun e w' => e = .returned (By.V ⟨v, false⟩) ∧ Below w.heap.size w w' := by
  go_enter Try.func50, Try.ntmps50
  go_wp2
  exact bodyPost_ret (v := By.V ⟨v, false⟩) (by simp [results, Try.results50, go_sem]) rfl ⟨rfl, by (repeat first | exact .refl _ _ | exact (Below.refl _ _).drew | refine .drew ?_ | refine .alloc ?_ (by simp <;> omega) _)⟩
set_option maxHeartbeats 800000 in
theorem xor_any (x y : By) (w : World) : Calls Try.prog 49 #[x.V, y.V] w fun e w' => e = .returned (By.V ⟨bits BinOp.xor IntKind.u8 x.v y.v, anyB [x, y]⟩) ∧ Below w.heap.size w w' := by
  go_enter Try.func49, Try.ntmps49
  go_upto_region 1 with fail
  obtain ⟨w0, hw0⟩ : ∃ ww, ww = (((w.alloc (.cells #[.int .u8 x.v, .bool x.s] 25)).alloc (.cells #[.int .u8 y.v, .bool y.s] 25)).alloc (.cells #[.int .u8 0, .bool false] 25)) := ⟨_, rfl⟩
  rw [← hw0]
  have Kx : B2 w0 (w.heap.size) (.int .u8 x.v) (.bool x.s) 25 := by rw [hw0]; exact blk_alloc (blk_alloc (blk_new' _ (by simp)) _) _
  have Ky : B2 w0 (w.heap.size + 1) (.int .u8 y.v) (.bool y.s) 25 := by rw [hw0]; exact blk_alloc (blk_new' _ (by simp)) _
  have Kr : B2 w0 (w.heap.size + 1 + 1) (.int .u8 0) (.bool false) 25 := by rw [hw0]; exact blk_new' _ (by simp)
  have qxy : w.heap.size ≠ w.heap.size + 1 := by omega
  have qxr : w.heap.size ≠ w.heap.size + 1 + 1 := by omega
  have qyx : w.heap.size + 1 ≠ w.heap.size := by omega
  have qyr : w.heap.size + 1 ≠ w.heap.size + 1 + 1 := by omega
  have qrx : w.heap.size + 1 + 1 ≠ w.heap.size := by omega
  have qry : w.heap.size + 1 + 1 ≠ w.heap.size + 1 := by omega
  have bl : Below w.heap.size w w0 := by rw [hw0]; (repeat first | exact .refl _ _ | exact (Below.refl _ _).drew | refine .drew ?_ | refine .alloc ?_ (by simp <;> omega) _)
  clear hw0
  obtain ⟨cx0, zx0, cx1, zx1, nex⟩ := b2z Kx
  obtain ⟨cy0, zy0, cy1, zy1, ney⟩ := b2z Ky
  obtain ⟨cr0, zr0, cr1, zr1, ner⟩ := b2z Kr
  go_wp2_with fail
  obtain ⟨w1, hw1⟩ : ∃ ww, ww = (w0.alloc (.cells #[.int .u8 x.v, .bool x.s, .int .u8 y.v, .bool y.s] 25)) := ⟨_, rfl⟩
  rw [← hw1]
  have b1 : Below w0.heap.size w0 w1 := by rw [hw1]; (repeat first | exact .refl _ _ | exact (Below.refl _ _).drew | refine .drew ?_ | refine .alloc ?_ (by simp <;> omega) _)
  have Rl : ByAt w1 (some ⟨w0.heap.size, 0, none⟩) [x, y] := by rw [hw1]; exact byAt2 _ _ x y
  clear hw1
  clear cx0 cx1 zx0 zx1 cy0 cy1 zy0 zy1 cr0 cr1 zr0 zr1 nex ney ner
  replace Kx := kp b1 Kx
  replace Ky := kp b1 Ky
  replace Kr := kp b1 Kr
  replace bl := bl.trans (b1.mono bl.size)
  clear b1
  obtain ⟨cx0, zx0, cx1, zx1, nex⟩ := b2z Kx
  obtain ⟨cy0, zy0, cy1, zy1, ney⟩ := b2z Ky
  obtain ⟨cr0, zr0, cr1, zr1, ner⟩ := b2z Kr
  refine (of_any (bits BinOp.xor IntKind.u8 x.v y.v) [x, y] _ 2 _ rfl (by omega) Rl).mono ?_
  rintro e w2 ⟨rfl, b2⟩
  clear cx0 cx1 zx0 zx1 cy0 cy1 zy0 zy1 cr0 cr1 zr0 zr1 nex ney ner
  replace Kx := kp b2 Kx
  replace Ky := kp b2 Ky
  replace Kr := kp b2 Kr
  replace Rl := Rl.below b2
  replace bl := bl.trans (b2.mono bl.size)
  clear b2
  obtain ⟨cx0, zx0, cx1, zx1, nex⟩ := b2z Kx
  obtain ⟨cy0, zy0, cy1, zy1, ney⟩ := b2z Ky
  obtain ⟨cr0, zr0, cr1, zr1, ner⟩ := b2z Kr
  go_wp2_with fail
  clear cx0 cx1 zx0 zx1 cy0 cy1 zy0 zy1 cr0 cr1 zr0 zr1 nex ney ner
  obtain ⟨w3, hw3⟩ : ∃ ww, ww = ((w2.setCell ⟨(w.heap.size + 1 + 1), 0, none⟩ (.int .u8 (bits BinOp.xor IntKind.u8 x.v y.v))).setCell ⟨(w.heap.size + 1 + 1), 1, none⟩ (.bool (anyB [x, y]))) := ⟨_, rfl⟩
  rw [← hw3]
  have nnx : (w.heap.size + 1 + 1) ≠ (w.heap.size) := by first | omega | (have := blk_lt Kx; have := blk_lt Kr; have := bl.size; omega)
  replace Kx : B2 w3 (w.heap.size) (.int .u8 x.v) (.bool x.s) 25 := by rw [hw3]; exact ((oth2 nnx _ _).trans Kx)
  clear nnx
  have nny : (w.heap.size + 1 + 1) ≠ (w.heap.size + 1) := by first | omega | (have := blk_lt Ky; have := blk_lt Kr; have := bl.size; omega)
  replace Ky : B2 w3 (w.heap.size + 1) (.int .u8 y.v) (.bool y.s) 25 := by rw [hw3]; exact ((oth2 nny _ _).trans Ky)
  clear nny
  replace Kr : B2 w3 (w.heap.size + 1 + 1) (.int .u8 (bits BinOp.xor IntKind.u8 x.v y.v)) (.bool (anyB [x, y])) 25 := by rw [hw3]; exact (set2 Kr _ _)
  replace bl : Below w.heap.size w w3 := by rw [hw3]; exact bs2 bl (by first | exact Nat.le_refl _ | omega | (have := bl.size; omega)) _ _
  clear hw3
  obtain ⟨cx0, zx0, cx1, zx1, nex⟩ := b2z Kx
  obtain ⟨cy0, zy0, cy1, zy1, ney⟩ := b2z Ky
  obtain ⟨cr0, zr0, cr1, zr1, ner⟩ := b2z Kr
  exact bodyPost_ret (v := By.V ⟨bits BinOp.xor IntKind.u8 x.v y.v, anyB [x, y]⟩) (by simp [results, Try.results49, go_sem, cr0, cr1]) rfl ⟨rfl, bl⟩
set_option maxHeartbeats 800000 in
theorem and_any (x y : By) (w : World) : Calls Try.prog 51 #[x.V, y.V] w fun e w' => e = .returned (By.V ⟨bits BinOp.and IntKind.u8 x.v y.v, anyB [x, y]⟩) ∧ Below w.heap.size w w' := by
  go_enter Try.func51, Try.ntmps51
  go_upto_region 1 with fail
  obtain ⟨w0, hw0⟩ : ∃ ww, ww = (((w.alloc (.cells #[.int .u8 x.v, .bool x.s] 25)).alloc (.cells #[.int .u8 y.v, .bool y.s] 25)).alloc (.cells #[.int .u8 0, .bool false] 25)) := ⟨_, rfl⟩
  rw [← hw0]
  have Kx : B2 w0 (w.heap.size) (.int .u8 x.v) (.bool x.s) 25 := by rw [hw0]; exact blk_alloc (blk_alloc (blk_new' _ (by simp)) _) _
  have Ky : B2 w0 (w.heap.size + 1) (.int .u8 y.v) (.bool y.s) 25 := by rw [hw0]; exact blk_alloc (blk_new' _ (by simp)) _
  have Kr : B2 w0 (w.heap.size + 1 + 1) (.int .u8 0) (.bool false) 25 := by rw [hw0]; exact blk_new' _ (by simp)
  have qxy : w.heap.size ≠ w.heap.size + 1 := by omega
  have qxr : w.heap.size ≠ w.heap.size + 1 + 1 := by omega
  have qyx : w.heap.size + 1 ≠ w.heap.size := by omega
  have qyr : w.heap.size + 1 ≠ w.heap.size + 1 + 1 := by omega
  have qrx : w.heap.size + 1 + 1 ≠ w.heap.size := by omega
  have qry : w.heap.size + 1 + 1 ≠ w.heap.size + 1 := by omega
  have bl : Below w.heap.size w w0 := by rw [hw0]; (repeat first | exact .refl _ _ | exact (Below.refl _ _).drew | refine .drew ?_ | refine .alloc ?_ (by simp <;> omega) _)
  clear hw0
  obtain ⟨cx0, zx0, cx1, zx1, nex⟩ := b2z Kx
  obtain ⟨cy0, zy0, cy1, zy1, ney⟩ := b2z Ky
  obtain ⟨cr0, zr0, cr1, zr1, ner⟩ := b2z Kr
  go_wp2_with fail
  obtain ⟨w1, hw1⟩ : ∃ ww, ww = (w0.alloc (.cells #[.int .u8 x.v, .bool x.s, .int .u8 y.v, .bool y.s] 25)) := ⟨_, rfl⟩
  rw [← hw1]
  have b1 : Below w0.heap.size w0 w1 := by rw [hw1]; (repeat first | exact .refl _ _ | exact (Below.refl _ _).drew | refine .drew ?_ | refine .alloc ?_ (by simp <;> omega) _)
  have Rl : ByAt w1 (some ⟨w0.heap.size, 0, none⟩) [x, y] := by rw [hw1]; exact byAt2 _ _ x y
  clear hw1
  clear cx0 cx1 zx0 zx1 cy0 cy1 zy0 zy1 cr0 cr1 zr0 zr1 nex ney ner
  replace Kx := kp b1 Kx
  replace Ky := kp b1 Ky
  replace Kr := kp b1 Kr
  replace bl := bl.trans (b1.mono bl.size)
  clear b1
  obtain ⟨cx0, zx0, cx1, zx1, nex⟩ := b2z Kx
  obtain ⟨cy0, zy0, cy1, zy1, ney⟩ := b2z Ky
  obtain ⟨cr0, zr0, cr1, zr1, ner⟩ := b2z Kr
  refine (of_any (bits BinOp.and IntKind.u8 x.v y.v) [x, y] _ 2 _ rfl (by omega) Rl).mono ?_
  rintro e w2 ⟨rfl, b2⟩
  clear cx0 cx1 zx0 zx1 cy0 cy1 zy0 zy1 cr0 cr1 zr0 zr1 nex ney ner
  replace Kx := kp b2 Kx
  replace Ky := kp b2 Ky
  replace Kr := kp b2 Kr
  replace Rl := Rl.below b2
  replace bl := bl.trans (b2.mono bl.size)
  clear b2
  obtain ⟨cx0, zx0, cx1, zx1, nex⟩ := b2z Kx
  obtain ⟨cy0, zy0, cy1, zy1, ney⟩ := b2z Ky
  obtain ⟨cr0, zr0, cr1, zr1, ner⟩ := b2z Kr
  go_wp2_with fail
  clear cx0 cx1 zx0 zx1 cy0 cy1 zy0 zy1 cr0 cr1 zr0 zr1 nex ney ner
  obtain ⟨w3, hw3⟩ : ∃ ww, ww = ((w2.setCell ⟨(w.heap.size + 1 + 1), 0, none⟩ (.int .u8 (bits BinOp.and IntKind.u8 x.v y.v))).setCell ⟨(w.heap.size + 1 + 1), 1, none⟩ (.bool (anyB [x, y]))) := ⟨_, rfl⟩
  rw [← hw3]
  have nnx : (w.heap.size + 1 + 1) ≠ (w.heap.size) := by first | omega | (have := blk_lt Kx; have := blk_lt Kr; have := bl.size; omega)
  replace Kx : B2 w3 (w.heap.size) (.int .u8 x.v) (.bool x.s) 25 := by rw [hw3]; exact ((oth2 nnx _ _).trans Kx)
  clear nnx
  have nny : (w.heap.size + 1 + 1) ≠ (w.heap.size + 1) := by first | omega | (have := blk_lt Ky; have := blk_lt Kr; have := bl.size; omega)
  replace Ky : B2 w3 (w.heap.size + 1) (.int .u8 y.v) (.bool y.s) 25 := by rw [hw3]; exact ((oth2 nny _ _).trans Ky)
  clear nny
  replace Kr : B2 w3 (w.heap.size + 1 + 1) (.int .u8 (bits BinOp.and IntKind.u8 x.v y.v)) (.bool (anyB [x, y])) 25 := by rw [hw3]; exact (set2 Kr _ _)
  replace bl : Below w.heap.size w w3 := by rw [hw3]; exact bs2 bl (by first | exact Nat.le_refl _ | omega | (have := bl.size; omega)) _ _
  clear hw3
  obtain ⟨cx0, zx0, cx1, zx1, nex⟩ := b2z Kx
  obtain ⟨cy0, zy0, cy1, zy1, ney⟩ := b2z Ky
  obtain ⟨cr0, zr0, cr1, zr1, ner⟩ := b2z Kr
  exact bodyPost_ret (v := By.V ⟨bits BinOp.and IntKind.u8 x.v y.v, anyB [x, y]⟩) (by simp [results, Try.results51, go_sem, cr0, cr1]) rfl ⟨rfl, bl⟩
set_option maxHeartbeats 800000 in
theorem lbit7 (x : By) (w : World) : Calls Try.prog 52 #[x.V, .int .i64 7] w fun e w' => e = .returned (By.V ⟨bits BinOp.and IntKind.u8 (x.v / 128) 1, anyB [x]⟩) ∧ Below w.heap.size w w' := by
  go_enter Try.func52, Try.ntmps52
  go_upto_region 1 with fail
  obtain ⟨w0, hw0⟩ : ∃ ww, ww = ((w.alloc (.cells #[.int .u8 x.v, .bool x.s] 25)).alloc (.cells #[.int .u8 0, .bool false] 25)) := ⟨_, rfl⟩
  rw [← hw0]
  have Kx : B2 w0 (w.heap.size) (.int .u8 x.v) (.bool x.s) 25 := by rw [hw0]; exact blk_alloc (blk_new' _ (by simp)) _
  have Kr : B2 w0 (w.heap.size + 1) (.int .u8 0) (.bool false) 25 := by rw [hw0]; exact blk_new' _ (by simp)
  have qxr : w.heap.size ≠ w.heap.size + 1 := by omega
  have qrx : w.heap.size + 1 ≠ w.heap.size := by omega
  have bl : Below w.heap.size w w0 := by rw [hw0]; (repeat first | exact .refl _ _ | exact (Below.refl _ _).drew | refine .drew ?_ | refine .alloc ?_ (by simp <;> omega) _)
  clear hw0
  obtain ⟨cx0, zx0, cx1, zx1, nex⟩ := b2z Kx
  obtain ⟨cr0, zr0, cr1, zr1, ner⟩ := b2z Kr
  go_upto_region 3 with fail
  refine wp_region_noPanic ?_
  refine wp_region_held_drew (S := (fun w' => w'.cell? ⟨(w.heap.size), 0, none⟩ = some (.int .u8 x.v) ∧ w'.cell? ⟨(w.heap.size), 1, none⟩ = some (.bool x.s))) (by kernel_rfl) ⟨blk_cell Kx 0, blk_cell Kx 1⟩ (fun hHeld => ?_)
  refine tk 0 (v := ?_) rfl ?_ ?_; rotate_left; (focus (intro w hSw; (try dsimp only at hSw); go_simp; with_reducible rfl)); simp only [Act.put, tA, tB, tC]
  refine tk 1 (v := ?_) rfl ?_ ?_; rotate_left; (focus (intro w hSw; (try dsimp only at hSw); go_simp; with_reducible rfl)); simp only [Act.put, tA, tB, tC]
  refine tk 2 (v := ?_) rfl ?_ ?_; rotate_left; (focus (intro w hSw; (try dsimp only at hSw); go_simp; with_reducible rfl)); simp only [Act.put, tA, tB, tC]
  refine tk 3 (v := ?_) rfl ?_ ?_; rotate_left; (focus (intro w hSw; (try dsimp only at hSw); go_simp; with_reducible rfl)); simp only [Act.put, tA, tB, tC]
  refine tk 4 (v := ?_) rfl ?_ ?_; rotate_left; (focus (intro w hSw; (try dsimp only at hSw); go_simp; with_reducible rfl)); simp only [Act.put, tA, tB, tC]
  refine tk 5 (v := ?_) rfl ?_ ?_; rotate_left; (focus (intro w hSw; (try dsimp only at hSw); go_simp; with_reducible rfl)); simp only [Act.put, tA, tB, tC]
  refine wpAnyH_ready (rs := [6]) (by kernel_rfl) (by simp) ?_
  refine AllReadyH.cons (o := ⟨_, _, _, _, _, _⟩) rfl (fun K hK => ?_) (AllReadyH.nil)
  go_simp
  obtain ⟨w1, hw1⟩ : ∃ ww, ww = (w0.alloc (.cells #[.int .u8 x.v, .bool x.s] 25)).drew := ⟨_, rfl⟩
  rw [← hw1]
  have b1 : Below w0.heap.size w0 w1 := by rw [hw1]; (repeat first | exact .refl _ _ | exact (Below.refl _ _).drew | refine .drew ?_ | refine .alloc ?_ (by simp <;> omega) _)
  have Rl : ByAt w1 (some ⟨w0.heap.size, 0, none⟩) [x] := by rw [hw1]; exact (byAt1 _ _ x).below (Below.refl _ _).drew
  clear hw1
  clear cx0 cx1 zx0 zx1 cr0 cr1 zr0 zr1 nex ner
  replace Kx := kp b1 Kx
  replace Kr := kp b1 Kr
  replace bl := bl.trans (b1.mono bl.size)
  clear b1
  obtain ⟨cx0, zx0, cx1, zx1, nex⟩ := b2z Kx
  obtain ⟨cr0, zr0, cr1, zr1, ner⟩ := b2z Kr
  refine hK.out _ _ ⟨blk_cell Kx 0, blk_cell Kx 1⟩ (fun hHeld => ?_)
  clear hK K
  refine wpAnyH_ready (rs := [7]) (by kernel_rfl) (by simp) ?_
  refine AllReadyH.cons (o := ⟨_, _, _, _, _, _⟩) rfl (fun K hK => ?_) (AllReadyH.nil)
  go_simp
  refine (of_any _ [x] _ 1 _ rfl (by omega) Rl).mono ?_
  rintro e w2 ⟨rfl, b2⟩
  clear cx0 cx1 zx0 zx1 cr0 cr1 zr0 zr1 nex ner
  replace Kx := kp b2 Kx
  replace Kr := kp b2 Kr
  replace Rl := Rl.below b2
  replace bl := bl.trans (b2.mono bl.size)
  clear b2
  obtain ⟨cx0, zx0, cx1, zx1, nex⟩ := b2z Kx
  obtain ⟨cr0, zr0, cr1, zr1, ner⟩ := b2z Kr
  refine hK.out _ _ ⟨blk_cell Kx 0, blk_cell Kx 1⟩ (fun hHeld => ?_)
  clear hK K
  refine wpAnyH_ready (rs := [8]) (by kernel_rfl) (by simp) ?_
  refine AllReadyH.cons (o := ⟨_, _, _, _, _, _⟩) rfl (fun K hK => ?_) (AllReadyH.nil)
  go_simp
  clear cx0 cx1 zx0 zx1 cr0 cr1 zr0 zr1 nex ner
  obtain ⟨w3, hw3⟩ : ∃ ww, ww = ((w2.setCell ⟨(w.heap.size + 1), 0, none⟩ (.int .u8 (bits BinOp.and IntKind.u8 (x.v / 128) 1))).setCell ⟨(w.heap.size + 1), 1, none⟩ (.bool (anyB [x]))) := ⟨_, rfl⟩
  rw [← hw3]
  have nnx : (w.heap.size + 1) ≠ (w.heap.size) := by first | omega | (have := blk_lt Kx; have := blk_lt Kr; have := bl.size; omega)
  replace Kx : B2 w3 (w.heap.size) (.int .u8 x.v) (.bool x.s) 25 := by rw [hw3]; exact ((oth2 nnx _ _).trans Kx)
  clear nnx
  replace Kr : B2 w3 (w.heap.size + 1) (.int .u8 (bits BinOp.and IntKind.u8 (x.v / 128) 1)) (.bool (anyB [x])) 25 := by rw [hw3]; exact (set2 Kr _ _)
  replace bl : Below w.heap.size w w3 := by rw [hw3]; exact bs2 bl (by first | exact Nat.le_refl _ | omega | (have := bl.size; omega)) _ _
  clear hw3
  obtain ⟨cx0, zx0, cx1, zx1, nex⟩ := b2z Kx
  obtain ⟨cr0, zr0, cr1, zr1, ner⟩ := b2z Kr
  refine hK.out _ _ ⟨blk_cell Kx 0, blk_cell Kx 1⟩ (fun hHeld => ?_)
  clear hK K
  refine wpAnyH_done (by kernel_rfl) (NoPanic.normal ?_) _
  go_wp2_with fail
  exact bodyPost_ret (v := By.V ⟨bits BinOp.and IntKind.u8 (x.v / 128) 1, anyB [x]⟩) (by simp [results, Try.results52, go_sem, cr0, cr1]) rfl ⟨rfl, bl⟩
set_option maxHeartbeats 800000 in
theorem lbit6 (x : By) (w : World) : Calls Try.prog 52 #[x.V, .int .i64 6] w fun e w' => e = .returned (By.V ⟨bits BinOp.and IntKind.u8 (x.v / 64) 1, anyB [x]⟩) ∧ Below w.heap.size w w' := by
  go_enter Try.func52, Try.ntmps52
  go_upto_region 1 with fail
  obtain ⟨w0, hw0⟩ : ∃ ww, ww = ((w.alloc (.cells #[.int .u8 x.v, .bool x.s] 25)).alloc (.cells #[.int .u8 0, .bool false] 25)) := ⟨_, rfl⟩
  rw [← hw0]
  have Kx : B2 w0 (w.heap.size) (.int .u8 x.v) (.bool x.s) 25 := by rw [hw0]; exact blk_alloc (blk_new' _ (by simp)) _
  have Kr : B2 w0 (w.heap.size + 1) (.int .u8 0) (.bool false) 25 := by rw [hw0]; exact blk_new' _ (by simp)
  have qxr : w.heap.size ≠ w.heap.size + 1 := by omega
  have qrx : w.heap.size + 1 ≠ w.heap.size := by omega
  have bl : Below w.heap.size w w0 := by rw [hw0]; (repeat first | exact .refl _ _ | exact (Below.refl _ _).drew | refine .drew ?_ | refine .alloc ?_ (by simp <;> omega) _)
  clear hw0
  obtain ⟨cx0, zx0, cx1, zx1, nex⟩ := b2z Kx
  obtain ⟨cr0, zr0, cr1, zr1, ner⟩ := b2z Kr
  go_upto_region 3 with fail
  refine wp_region_noPanic ?_
  refine wp_region_held_drew (S := (fun w' => w'.cell? ⟨(w.heap.size), 0, none⟩ = some (.int .u8 x.v) ∧ w'.cell? ⟨(w.heap.size), 1, none⟩ = some (.bool x.s))) (by kernel_rfl) ⟨blk_cell Kx 0, blk_cell Kx 1⟩ (fun hHeld => ?_)
  refine tk 0 (v := ?_) rfl ?_ ?_; rotate_left; (focus (intro w hSw; (try dsimp only at hSw); go_simp; with_reducible rfl)); simp only [Act.put, tA, tB, tC]
  refine tk 1 (v := ?_) rfl ?_ ?_; rotate_left; (focus (intro w hSw; (try dsimp only at hSw); go_simp; with_reducible rfl)); simp only [Act.put, tA, tB, tC]
  refine tk 2 (v := ?_) rfl ?_ ?_; rotate_left; (focus (intro w hSw; (try dsimp only at hSw); go_simp; with_reducible rfl)); simp only [Act.put, tA, tB, tC]
  refine tk 3 (v := ?_) rfl ?_ ?_; rotate_left; (focus (intro w hSw; (try dsimp only at hSw); go_simp; with_reducible rfl)); simp only [Act.put, tA, tB, tC]
  refine tk 4 (v := ?_) rfl ?_ ?_; rotate_left; (focus (intro w hSw; (try dsimp only at hSw); go_simp; with_reducible rfl)); simp only [Act.put, tA, tB, tC]
  refine tk 5 (v := ?_) rfl ?_ ?_; rotate_left; (focus (intro w hSw; (try dsimp only at hSw); go_simp; with_reducible rfl)); simp only [Act.put, tA, tB, tC]
  refine wpAnyH_ready (rs := [6]) (by kernel_rfl) (by simp) ?_
  refine AllReadyH.cons (o := ⟨_, _, _, _, _, _⟩) rfl (fun K hK => ?_) (AllReadyH.nil)
  go_simp
  obtain ⟨w1, hw1⟩ : ∃ ww, ww = (w0.alloc (.cells #[.int .u8 x.v, .bool x.s] 25)).drew := ⟨_, rfl⟩
  rw [← hw1]
  have b1 : Below w0.heap.size w0 w1 := by rw [hw1]; (repeat first | exact .refl _ _ | exact (Below.refl _ _).drew | refine .drew ?_ | refine .alloc ?_ (by simp <;> omega) _)
  have Rl : ByAt w1 (some ⟨w0.heap.size, 0, none⟩) [x] := by rw [hw1]; exact (byAt1 _ _ x).below (Below.refl _ _).drew
  clear hw1
  clear cx0 cx1 zx0 zx1 cr0 cr1 zr0 zr1 nex ner
  replace Kx := kp b1 Kx
  replace Kr := kp b1 Kr
  replace bl := bl.trans (b1.mono bl.size)
  clear b1
  obtain ⟨cx0, zx0, cx1, zx1, nex⟩ := b2z Kx
  obtain ⟨cr0, zr0, cr1, zr1, ner⟩ := b2z Kr
  refine hK.out _ _ ⟨blk_cell Kx 0, blk_cell Kx 1⟩ (fun hHeld => ?_)
  clear hK K
  refine wpAnyH_ready (rs := [7]) (by kernel_rfl) (by simp) ?_
  refine AllReadyH.cons (o := ⟨_, _, _, _, _, _⟩) rfl (fun K hK => ?_) (AllReadyH.nil)
  go_simp
  refine (of_any _ [x] _ 1 _ rfl (by omega) Rl).mono ?_
  rintro e w2 ⟨rfl, b2⟩
  clear cx0 cx1 zx0 zx1 cr0 cr1 zr0 zr1 nex ner
  replace Kx := kp b2 Kx
  replace Kr := kp b2 Kr
  replace Rl := Rl.below b2
  replace bl := bl.trans (b2.mono bl.size)
  clear b2
  obtain ⟨cx0, zx0, cx1, zx1, nex⟩ := b2z Kx
  obtain ⟨cr0, zr0, cr1, zr1, ner⟩ := b2z Kr
  refine hK.out _ _ ⟨blk_cell Kx 0, blk_cell Kx 1⟩ (fun hHeld => ?_)
  clear hK K
  refine wpAnyH_ready (rs := [8]) (by kernel_rfl) (by simp) ?_
  refine AllReadyH.cons (o := ⟨_, _, _, _, _, _⟩) rfl (fun K hK => ?_) (AllReadyH.nil)
  go_simp
  clear cx0 cx1 zx0 zx1 cr0 cr1 zr0 zr1 nex ner
  obtain ⟨w3, hw3⟩ : ∃ ww, ww = ((w2.setCell ⟨(w.heap.size + 1), 0, none⟩ (.int .u8 (bits BinOp.and IntKind.u8 (x.v / 64) 1))).setCell ⟨(w.heap.size + 1), 1, none⟩ (.bool (anyB [x]))) := ⟨_, rfl⟩
  rw [← hw3]
  have nnx : (w.heap.size + 1) ≠ (w.heap.size) := by first | omega | (have := blk_lt Kx; have := blk_lt Kr; have := bl.size; omega)
  replace Kx : B2 w3 (w.heap.size) (.int .u8 x.v) (.bool x.s) 25 := by rw [hw3]; exact ((oth2 nnx _ _).trans Kx)
  clear nnx
  replace Kr : B2 w3 (w.heap.size + 1) (.int .u8 (bits BinOp.and IntKind.u8 (x.v / 64) 1)) (.bool (anyB [x])) 25 := by rw [hw3]; exact (set2 Kr _ _)
  replace bl : Below w.heap.size w w3 := by rw [hw3]; exact bs2 bl (by first | exact Nat.le_refl _ | omega | (have := bl.size; omega)) _ _
  clear hw3
  obtain ⟨cx0, zx0, cx1, zx1, nex⟩ := b2z Kx
  obtain ⟨cr0, zr0, cr1, zr1, ner⟩ := b2z Kr
  refine hK.out _ _ ⟨blk_cell Kx 0, blk_cell Kx 1⟩ (fun hHeld => ?_)
  clear hK K
  refine wpAnyH_done (by kernel_rfl) (NoPanic.normal ?_) _
  go_wp2_with fail
  exact bodyPost_ret (v := By.V ⟨bits BinOp.and IntKind.u8 (x.v / 64) 1, anyB [x]⟩) (by simp [results, Try.results52, go_sem, cr0, cr1]) rfl ⟨rfl, bl⟩
set_option maxHeartbeats 800000 in
theorem lbit5 (x : By) (w : World) : Calls Try.prog 52 #[x.V, .int .i64 5] w fun e w' => e = .returned (By.V ⟨bits BinOp.and IntKind.u8 (x.v / 32) 1, anyB [x]⟩) ∧ Below w.heap.size w w' := by
  go_enter Try.func52, Try.ntmps52
  go_upto_region 1 with fail
  obtain ⟨w0, hw0⟩ : ∃ ww, ww = ((w.alloc (.cells #[.int .u8 x.v, .bool x.s] 25)).alloc (.cells #[.int .u8 0, .bool false] 25)) := ⟨_, rfl⟩
  rw [← hw0]
  have Kx : B2 w0 (w.heap.size) (.int .u8 x.v) (.bool x.s) 25 := by rw [hw0]; exact blk_alloc (blk_new' _ (by simp)) _
  have Kr : B2 w0 (w.heap.size + 1) (.int .u8 0) (.bool false) 25 := by rw [hw0]; exact blk_new' _ (by simp)
  have qxr : w.heap.size ≠ w.heap.size + 1 := by omega
  have qrx : w.heap.size + 1 ≠ w.heap.size := by omega
  have bl : Below w.heap.size w w0 := by rw [hw0]; (repeat first | exact .refl _ _ | exact (Below.refl _ _).drew | refine .drew ?_ | refine .alloc ?_ (by simp <;> omega) _)
  clear hw0
  obtain ⟨cx0, zx0, cx1, zx1, nex⟩ := b2z Kx
  obtain ⟨cr0, zr0, cr1, zr1, ner⟩ := b2z Kr
  go_upto_region 3 with fail
  refine wp_region_noPanic ?_
  refine wp_region_held_drew (S := (fun w' => w'.cell? ⟨(w.heap.size), 0, none⟩ = some (.int .u8 x.v) ∧ w'.cell? ⟨(w.heap.size), 1, none⟩ = some (.bool x.s))) (by kernel_rfl) ⟨blk_cell Kx 0, blk_cell Kx 1⟩ (fun hHeld => ?_)
  refine tk 0 (v := ?_) rfl ?_ ?_; rotate_left; (focus (intro w hSw; (try dsimp only at hSw); go_simp; with_reducible rfl)); simp only [Act.put, tA, tB, tC]
  refine tk 1 (v := ?_) rfl ?_ ?_; rotate_left; (focus (intro w hSw; (try dsimp only at hSw); go_simp; with_reducible rfl)); simp only [Act.put, tA, tB, tC]
  refine tk 2 (v := ?_) rfl ?_ ?_; rotate_left; (focus (intro w hSw; (try dsimp only at hSw); go_simp; with_reducible rfl)); simp only [Act.put, tA, tB, tC]
  refine tk 3 (v := ?_) rfl ?_ ?_; rotate_left; (focus (intro w hSw; (try dsimp only at hSw); go_simp; with_reducible rfl)); simp only [Act.put, tA, tB, tC]
  refine tk 4 (v := ?_) rfl ?_ ?_; rotate_left; (focus (intro w hSw; (try dsimp only at hSw); go_simp; with_reducible rfl)); simp only [Act.put, tA, tB, tC]
  refine tk 5 (v := ?_) rfl ?_ ?_; rotate_left; (focus (intro w hSw; (try dsimp only at hSw); go_simp; with_reducible rfl)); simp only [Act.put, tA, tB, tC]
  refine wpAnyH_ready (rs := [6]) (by kernel_rfl) (by simp) ?_
  refine AllReadyH.cons (o := ⟨_, _, _, _, _, _⟩) rfl (fun K hK => ?_) (AllReadyH.nil)
  go_simp
  obtain ⟨w1, hw1⟩ : ∃ ww, ww = (w0.alloc (.cells #[.int .u8 x.v, .bool x.s] 25)).drew := ⟨_, rfl⟩
  rw [← hw1]
  have b1 : Below w0.heap.size w0 w1 := by rw [hw1]; (repeat first | exact .refl _ _ | exact (Below.refl _ _).drew | refine .drew ?_ | refine .alloc ?_ (by simp <;> omega) _)
  have Rl : ByAt w1 (some ⟨w0.heap.size, 0, none⟩) [x] := by rw [hw1]; exact (byAt1 _ _ x).below (Below.refl _ _).drew
  clear hw1
  clear cx0 cx1 zx0 zx1 cr0 cr1 zr0 zr1 nex ner
  replace Kx := kp b1 Kx
  replace Kr := kp b1 Kr
  replace bl := bl.trans (b1.mono bl.size)
  clear b1
  obtain ⟨cx0, zx0, cx1, zx1, nex⟩ := b2z Kx
  obtain ⟨cr0, zr0, cr1, zr1, ner⟩ := b2z Kr
  refine hK.out _ _ ⟨blk_cell Kx 0, blk_cell Kx 1⟩ (fun hHeld => ?_)
  clear hK K
  refine wpAnyH_ready (rs := [7]) (by kernel_rfl) (by simp) ?_
  refine AllReadyH.cons (o := ⟨_, _, _, _, _, _⟩) rfl (fun K hK => ?_) (AllReadyH.nil)
  go_simp
  refine (of_any _ [x] _ 1 _ rfl (by omega) Rl).mono ?_
  rintro e w2 ⟨rfl, b2⟩
  clear cx0 cx1 zx0 zx1 cr0 cr1 zr0 zr1 nex ner
  replace Kx := kp b2 Kx
  replace Kr := kp b2 Kr
  replace Rl := Rl.below b2
  replace bl := bl.trans (b2.mono bl.size)
  clear b2
  obtain ⟨cx0, zx0, cx1, zx1, nex⟩ := b2z Kx
  obtain ⟨cr0, zr0, cr1, zr1, ner⟩ := b2z Kr
  refine hK.out _ _ ⟨blk_cell Kx 0, blk_cell Kx 1⟩ (fun hHeld => ?_)
  clear hK K
  refine wpAnyH_ready (rs := [8]) (by kernel_rfl) (by simp) ?_
  refine AllReadyH.cons (o := ⟨_, _, _, _, _, _⟩) rfl (fun K hK => ?_) (AllReadyH.nil)
  go_simp
  clear cx0 cx1 zx0 zx1 cr0 cr1 zr0 zr1 nex ner
  obtain ⟨w3, hw3⟩ : ∃ ww, ww = ((w2.setCell ⟨(w.heap.size + 1), 0, none⟩ (.int .u8 (bits BinOp.and IntKind.u8 (x.v / 32) 1))).setCell ⟨(w.heap.size + 1), 1, none⟩ (.bool (anyB [x]))) := ⟨_, rfl⟩
  rw [← hw3]
  have nnx : (w.heap.size + 1) ≠ (w.heap.size) := by first | omega | (have := blk_lt Kx; have := blk_lt Kr; have := bl.size; omega)
  replace Kx : B2 w3 (w.heap.size) (.int .u8 x.v) (.bool x.s) 25 := by rw [hw3]; exact ((oth2 nnx _ _).trans Kx)
  clear nnx
  replace Kr : B2 w3 (w.heap.size + 1) (.int .u8 (bits BinOp.and IntKind.u8 (x.v / 32) 1)) (.bool (anyB [x])) 25 := by rw [hw3]; exact (set2 Kr _ _)
  replace bl : Below w.heap.size w w3 := by rw [hw3]; exact bs2 bl (by first | exact Nat.le_refl _ | omega | (have := bl.size; omega)) _ _
  clear hw3
  obtain ⟨cx0, zx0, cx1, zx1, nex⟩ := b2z Kx
  obtain ⟨cr0, zr0, cr1, zr1, ner⟩ := b2z Kr
  refine hK.out _ _ ⟨blk_cell Kx 0, blk_cell Kx 1⟩ (fun hHeld => ?_)
  clear hK K
  refine wpAnyH_done (by kernel_rfl) (NoPanic.normal ?_) _
  go_wp2_with fail
  exact bodyPost_ret (v := By.V ⟨bits BinOp.and IntKind.u8 (x.v / 32) 1, anyB [x]⟩) (by simp [results, Try.results52, go_sem, cr0, cr1]) rfl ⟨rfl, bl⟩
set_option maxHeartbeats 800000 in
theorem lbit0 (x : By) (w : World) : Calls Try.prog 52 #[x.V, .int .i64 0] w fun e w' => e = .returned (By.V ⟨bits BinOp.and IntKind.u8 x.v 1, anyB [x]⟩) ∧ Below w.heap.size w w' := by
  go_enter Try.func52, Try.ntmps52
  go_upto_region 1 with fail
  obtain ⟨w0, hw0⟩ : ∃ ww, ww = ((w.alloc (.cells #[.int .u8 x.v, .bool x.s] 25)).alloc (.cells #[.int .u8 0, .bool false] 25)) := ⟨_, rfl⟩
  rw [← hw0]
  have Kx : B2 w0 (w.heap.size) (.int .u8 x.v) (.bool x.s) 25 := by rw [hw0]; exact blk_alloc (blk_new' _ (by simp)) _
  have Kr : B2 w0 (w.heap.size + 1) (.int .u8 0) (.bool false) 25 := by rw [hw0]; exact blk_new' _ (by simp)
  have qxr : w.heap.size ≠ w.heap.size + 1 := by omega
  have qrx : w.heap.size + 1 ≠ w.heap.size := by omega
  have bl : Below w.heap.size w w0 := by rw [hw0]; (repeat first | exact .refl _ _ | exact (Below.refl _ _).drew | refine .drew ?_ | refine .alloc ?_ (by simp <;> omega) _)
  clear hw0
  obtain ⟨cx0, zx0, cx1, zx1, nex⟩ := b2z Kx
  obtain ⟨cr0, zr0, cr1, zr1, ner⟩ := b2z Kr
  go_upto_region 3 with fail
  refine wp_region_noPanic ?_
  refine wp_region_held_drew (S := (fun w' => w'.cell? ⟨(w.heap.size), 0, none⟩ = some (.int .u8 x.v) ∧ w'.cell? ⟨(w.heap.size), 1, none⟩ = some (.bool x.s))) (by kernel_rfl) ⟨blk_cell Kx 0, blk_cell Kx 1⟩ (fun hHeld => ?_)
  refine tk 0 (v := ?_) rfl ?_ ?_; rotate_left; (focus (intro w hSw; (try dsimp only at hSw); go_simp; with_reducible rfl)); simp only [Act.put, tA, tB, tC]
  refine tk 1 (v := ?_) rfl ?_ ?_; rotate_left; (focus (intro w hSw; (try dsimp only at hSw); go_simp; with_reducible rfl)); simp only [Act.put, tA, tB, tC]
  refine tk 2 (v := ?_) rfl ?_ ?_; rotate_left; (focus (intro w hSw; (try dsimp only at hSw); go_simp; with_reducible rfl)); simp only [Act.put, tA, tB, tC]
  refine tk 3 (v := ?_) rfl ?_ ?_; rotate_left; (focus (intro w hSw; (try dsimp only at hSw); go_simp; with_reducible rfl)); simp only [Act.put, tA, tB, tC]
  refine tk 4 (v := ?_) rfl ?_ ?_; rotate_left; (focus (intro w hSw; (try dsimp only at hSw); go_simp; with_reducible rfl)); simp only [Act.put, tA, tB, tC]
  refine tk 5 (v := ?_) rfl ?_ ?_; rotate_left; (focus (intro w hSw; (try dsimp only at hSw); go_simp; with_reducible rfl)); simp only [Act.put, tA, tB, tC]
  refine wpAnyH_ready (rs := [6]) (by kernel_rfl) (by simp) ?_
  refine AllReadyH.cons (o := ⟨_, _, _, _, _, _⟩) rfl (fun K hK => ?_) (AllReadyH.nil)
  go_simp
  obtain ⟨w1, hw1⟩ : ∃ ww, ww = (w0.alloc (.cells #[.int .u8 x.v, .bool x.s] 25)).drew := ⟨_, rfl⟩
  rw [← hw1]
  have b1 : Below w0.heap.size w0 w1 := by rw [hw1]; (repeat first | exact .refl _ _ | exact (Below.refl _ _).drew | refine .drew ?_ | refine .alloc ?_ (by simp <;> omega) _)
  have Rl : ByAt w1 (some ⟨w0.heap.size, 0, none⟩) [x] := by rw [hw1]; exact (byAt1 _ _ x).below (Below.refl _ _).drew
  clear hw1
  clear cx0 cx1 zx0 zx1 cr0 cr1 zr0 zr1 nex ner
  replace Kx := kp b1 Kx
  replace Kr := kp b1 Kr
  replace bl := bl.trans (b1.mono bl.size)
  clear b1
  obtain ⟨cx0, zx0, cx1, zx1, nex⟩ := b2z Kx
  obtain ⟨cr0, zr0, cr1, zr1, ner⟩ := b2z Kr
  refine hK.out _ _ ⟨blk_cell Kx 0, blk_cell Kx 1⟩ (fun hHeld => ?_)
  clear hK K
  refine wpAnyH_ready (rs := [7]) (by kernel_rfl) (by simp) ?_
  refine AllReadyH.cons (o := ⟨_, _, _, _, _, _⟩) rfl (fun K hK => ?_) (AllReadyH.nil)
  go_simp
  refine (of_any _ [x] _ 1 _ rfl (by omega) Rl).mono ?_
  rintro e w2 ⟨rfl, b2⟩
  clear cx0 cx1 zx0 zx1 cr0 cr1 zr0 zr1 nex ner
  replace Kx := kp b2 Kx
  replace Kr := kp b2 Kr
  replace Rl := Rl.below b2
  replace bl := bl.trans (b2.mono bl.size)
  clear b2
  obtain ⟨cx0, zx0, cx1, zx1, nex⟩ := b2z Kx
  obtain ⟨cr0, zr0, cr1, zr1, ner⟩ := b2z Kr
  refine hK.out _ _ ⟨blk_cell Kx 0, blk_cell Kx 1⟩ (fun hHeld => ?_)
  clear hK K
  refine wpAnyH_ready (rs := [8]) (by kernel_rfl) (by simp) ?_
  refine AllReadyH.cons (o := ⟨_, _, _, _, _, _⟩) rfl (fun K hK => ?_) (AllReadyH.nil)
  go_simp
  clear cx0 cx1 zx0 zx1 cr0 cr1 zr0 zr1 nex ner
  obtain ⟨w3, hw3⟩ : ∃ ww, ww = ((w2.setCell ⟨(w.heap.size + 1), 0, none⟩ (.int .u8 (bits BinOp.and IntKind.u8 x.v 1))).setCell ⟨(w.heap.size + 1), 1, none⟩ (.bool (anyB [x]))) := ⟨_, rfl⟩
  rw [← hw3]
  have nnx : (w.heap.size + 1) ≠ (w.heap.size) := by first | omega | (have := blk_lt Kx; have := blk_lt Kr; have := bl.size; omega)
  replace Kx : B2 w3 (w.heap.size) (.int .u8 x.v) (.bool x.s) 25 := by rw [hw3]; exact ((oth2 nnx _ _).trans Kx)
  clear nnx
  replace Kr : B2 w3 (w.heap.size + 1) (.int .u8 (bits BinOp.and IntKind.u8 x.v 1)) (.bool (anyB [x])) 25 := by rw [hw3]; exact (set2 Kr _ _)
  replace bl : Below w.heap.size w w3 := by rw [hw3]; exact bs2 bl (by first | exact Nat.le_refl _ | omega | (have := bl.size; omega)) _ _
  clear hw3
  obtain ⟨cx0, zx0, cx1, zx1, nex⟩ := b2z Kx
  obtain ⟨cr0, zr0, cr1, zr1, ner⟩ := b2z Kr
  refine hK.out _ _ ⟨blk_cell Kx 0, blk_cell Kx 1⟩ (fun hHeld => ?_)
  clear hK K
  refine wpAnyH_done (by kernel_rfl) (NoPanic.normal ?_) _
  go_wp2_with fail
  exact bodyPost_ret (v := By.V ⟨bits BinOp.and IntKind.u8 x.v 1, anyB [x]⟩) (by simp [results, Try.results52, go_sem, cr0, cr1]) rfl ⟨rfl, bl⟩
end Go.Proofs.Ytdgjenlejalgeaa
