import Derived.Test.YtdgjenlejalgeaaBl9
namespace Go.Proofs.Ytdgjenlejalgeaa
open Go.RowKit Go.Sx
theorem clean_any (x : Int) (h0 : 0 ≤ x) (h1 : x ≤ 255) (w : World) : Calls Try.prog 41 #[.int .u8 x] w fun e w' => e = .returned (.int .u8 (x % 16 + x / 64 * 64)) ∧ w = w' := by
  go_enter Try.func41, Try.ntmps41
  go_wp2
  go_ret
  exact ⟨rfl, rfl⟩
def clF (f : Fl) : Fl := ⟨f.p % 16 + f.p / 64 * 64, f.s % 16 + f.s / 64 * 64⟩
set_option maxHeartbeats 1600000 in
theorem rcheck_any (f : Fl) (p0 : 0 ≤ f.p) (p1 : f.p ≤ 255) (s0 : 0 ≤ f.s) (s1 : f.s ≤ 255) (w : World) : Calls Try.prog 10 #[f.V] w fun e w' => e = .returned (clF f).V ∧ Below w.heap.size w w' := by
  go_enter Try.func10, Try.ntmps10
  go_upto_region 1 with fail
  obtain ⟨w0, hw0⟩ : ∃ ww, ww = ((w.alloc (.cells #[.int .u8 f.p, .int .u8 f.s] 23)).alloc (.cells #[.int .u8 0, .int .u8 0] 23)) := ⟨_, rfl⟩
  rw [← hw0]
  have Kf : B2 w0 (w.heap.size) (.int .u8 f.p) (.int .u8 f.s) 23 := by rw [hw0]; exact blk_alloc (blk_new' _ (by simp)) _
  have Kr : B2 w0 (w.heap.size + 1) (.int .u8 0) (.int .u8 0) 23 := by rw [hw0]; exact blk_new' _ (by simp)
  have qfr : w.heap.size ≠ w.heap.size + 1 := by omega
  have qrf : w.heap.size + 1 ≠ w.heap.size := by omega
  have bl : Below w.heap.size w w0 := by rw [hw0]; (repeat first | exact .refl _ _ | exact (Below.refl _ _).drew | refine .drew ?_ | refine .alloc ?_ (by simp <;> omega) _)
  clear hw0
  obtain ⟨cf0, zf0, cf1, zf1, nef⟩ := b2z Kf
  obtain ⟨cr0, zr0, cr1, zr1, ner⟩ := b2z Kr
  refine wp_region_noPanic ?_
  refine wp_region_held_drew (S := (fun w' => w'.cell? ⟨(w.heap.size), 0, none⟩ = some (.int .u8 f.p) ∧ w'.cell? ⟨(w.heap.size), 1, none⟩ = some (.int .u8 f.s))) (by kernel_rfl) ⟨blk_cell Kf 0, blk_cell Kf 1⟩ (fun hHeld => ?_)
  refine tk 0 (v := ?_) rfl ?_ ?_; rotate_left; (focus (intro w hSw; (try dsimp only at hSw); go_simp; with_reducible rfl)); simp only [Act.put, tA, tB, tC]
  refine tk 1 (v := ?_) rfl ?_ ?_; rotate_left; (focus (intro w hSw; (try dsimp only at hSw); go_simp; with_reducible rfl)); simp only [Act.put, tA, tB, tC]
  refine tk 3 (v := ?_) rfl ?_ ?_; rotate_left; (focus (intro w hSw; (try dsimp only at hSw); go_simp; with_reducible rfl)); simp only [Act.put, tA, tB, tC]
  refine tk 4 (v := ?_) rfl ?_ ?_; rotate_left; (focus (intro w hSw; (try dsimp only at hSw); go_simp; with_reducible rfl)); simp only [Act.put, tA, tB, tC]
  refine wpAnyH_ready (rs := [2]) (by kernel_rfl) (by simp) ?_
  refine AllReadyH.cons (o := ⟨_, _, _, _, _, _⟩) rfl (fun K hK => ?_) (AllReadyH.nil)
  go_simp
  refine (clean_any f.p (by omega) (by omega) _).mono ?_
  rintro e w' ⟨rfl, rfl⟩
  refine hK.out _ _ ⟨blk_cell Kf 0, blk_cell Kf 1⟩ (fun hHeld => ?_)
  clear hK K
  refine wpAnyH_ready (rs := [5]) (by kernel_rfl) (by simp) ?_
  refine AllReadyH.cons (o := ⟨_, _, _, _, _, _⟩) rfl (fun K hK => ?_) (AllReadyH.nil)
  go_simp
  refine (clean_any f.s (by omega) (by omega) _).mono ?_
  rintro e w' ⟨rfl, rfl⟩
  refine hK.out _ _ ⟨blk_cell Kf 0, blk_cell Kf 1⟩ (fun hHeld => ?_)
  clear hK K
  refine tk 6 (v := ?_) rfl ?_ ?_; rotate_left; (focus (intro w hSw; (try dsimp only at hSw); go_simp; with_reducible rfl)); simp only [Act.put, tA, tB, tC]
  refine wpAnyH_ready (rs := [7]) (by kernel_rfl) (by simp) ?_
  refine AllReadyH.cons (o := ⟨_, _, _, _, _, _⟩) rfl (fun K hK => ?_) (AllReadyH.nil)
  go_simp
  clear cf0 cf1 zf0 zf1 cr0 cr1 zr0 zr1 nef ner
  obtain ⟨w1, hw1⟩ : ∃ ww, ww = ((w0.setCell ⟨(w.heap.size + 1), 0, none⟩ (.int .u8 (f.p % 16 + f.p / 64 * 64))).setCell ⟨(w.heap.size + 1), 1, none⟩ (.int .u8 (f.s % 16 + f.s / 64 * 64))).drew := ⟨_, rfl⟩
  rw [← hw1]
  have nnf : (w.heap.size + 1) ≠ (w.heap.size) := by first | omega | (have := blk_lt Kf; have := blk_lt Kr; have := bl.size; omega)
  replace Kf : B2 w1 (w.heap.size) (.int .u8 f.p) (.int .u8 f.s) 23 := by rw [hw1]; exact (drew_heap _ _).trans ((oth2 nnf _ _).trans Kf)
  clear nnf
  replace Kr : B2 w1 (w.heap.size + 1) (.int .u8 (f.p % 16 + f.p / 64 * 64)) (.int .u8 (f.s % 16 + f.s / 64 * 64)) 23 := by rw [hw1]; exact (drew_heap _ _).trans (set2 Kr _ _)
  replace bl : Below w.heap.size w w1 := by rw [hw1]; exact (bs2 bl (by first | exact Nat.le_refl _ | omega | (have := bl.size; omega)) _ _).drew
  clear hw1
  obtain ⟨cf0, zf0, cf1, zf1, nef⟩ := b2z Kf
  obtain ⟨cr0, zr0, cr1, zr1, ner⟩ := b2z Kr
  refine hK.out _ _ ⟨blk_cell Kf 0, blk_cell Kf 1⟩ (fun hHeld => ?_)
  clear hK K
  refine wpAnyH_done (by kernel_rfl) (NoPanic.normal ?_) _
  go_wp2_with fail
  exact bodyPost_ret (v := Fl.V ⟨f.p % 16 + f.p / 64 * 64, f.s % 16 + f.s / 64 * 64⟩) (by simp [results, Try.results10, go_sem, cr0, cr1]) rfl ⟨rfl, bl⟩
theorem alike_any (x y : By) (h : AB x y) (w : World) : Calls Try.prog 40 #[x.V, y.V] w fun e w' => e = .returned (.bool true) ∧ Below w.heap.size w w' := by
  obtain ⟨v, s⟩ := x
  obtain ⟨v', s'⟩ := y
  obtain ⟨h1, h2⟩ := h
  simp only at h1 h2
  subst h1
  cases s
  · have e : v = v' := h2.resolve_left (by simp)
    subst e
    clear h2
    go_enter Try.func40, Try.ntmps40
    go_wp2_with fail
    go_ret
    exact ⟨rfl, by (repeat first | exact .refl _ _ | exact (Below.refl _ _).drew | refine .drew ?_ | refine .alloc ?_ (by simp <;> omega) _)⟩
  · clear h2
    go_enter Try.func40, Try.ntmps40
    go_wp2_with fail
    go_ret
    exact ⟨rfl, by (repeat first | exact .refl _ _ | exact (Below.refl _ _).drew | refine .drew ?_ | refine .alloc ?_ (by simp <;> omega) _)⟩
structure QRow (w : World) (g : Nat) (l : List RQ) : Prop where
  lt : g < w.heap.size
  c : ∀ i x, l[i]? = some x → w.cell? ⟨g, i * 4, none⟩ = some (.int .u8 x.1.v) ∧ w.cell? ⟨g, i * 4 + 1, none⟩ = some (.bool x.1.s) ∧ w.cell? ⟨g, i * 4 + 2, none⟩ = some (.int .u8 x.2.p) ∧ w.cell? ⟨g, i * 4 + 3, none⟩ = some (.int .u8 x.2.s)
theorem QRow.below {w w' : World} {g : Nat} {l : List RQ} (h : QRow w g l) (hb : Below w.heap.size w w') : QRow w' g l :=
  ⟨Nat.lt_of_lt_of_le h.lt hb.size, fun i x hx => by
    obtain ⟨c0, c1, c2, c3⟩ := h.c i x hx
    exact ⟨(hb.cell (p := ⟨g, i * 4, none⟩) h.lt).trans c0, (hb.cell (p := ⟨g, i * 4 + 1, none⟩) h.lt).trans c1, (hb.cell (p := ⟨g, i * 4 + 2, none⟩) h.lt).trans c2, (hb.cell (p := ⟨g, i * 4 + 3, none⟩) h.lt).trans c3⟩⟩
theorem OwnQ.form {w : World} {base : Nat} {v : Value} {l : List RQ} (h : OwnQ w base v l) (hl : 0 < l.length) : ∃ g cap, v = .slice (some ⟨g, 0, Option.none⟩) l.length cap ∧ base ≤ g ∧ QRow w g l := by
  have hlt := World.ownsRow.lt h
  have h' := h
  rcases h.2 with ⟨e, h0⟩ | ⟨g, cap, cur, e, r⟩
  · omega
  · subst e
    refine ⟨g, cap, rfl, r.1, (hlt g rfl).2, fun i x hx => ?_⟩
    have hi : i < l.length := (List.getElem?_eq_some_iff.1 hx).1
    have cell : ∀ j, j < 4 → w.cell? ⟨g, i * 4 + j, Option.none⟩ = (cell4 x)[j]? := fun j hj => by
      rw [World.ownsRow.cellAt h' _ (by omega)]
      exact cellsQ_get l i j x hx hj
    exact ⟨by have := cell 0 (by omega); rwa [Nat.add_zero] at this, cell 1 (by omega), cell 2 (by omega), cell 3 (by omega)⟩
theorem ni_zero : AB ⟨0, false⟩ ⟨0, false⟩ := ⟨rfl, .inr rfl⟩
theorem ni_told {f g : Fl} {a m a' m' : By} (bit : Int) (brk : Bool) (hf : AF f g) (ha : AB a a') (hm : AB m m') : ∀ (i : Nat) (x y : RQ), (toldL f a m bit brk)[i]? = some x → (toldL g a' m' bit brk)[i]? = some y → AB x.1 y.1 ∧ AF x.2 y.2 := by
  have hsm : AB (sbcM m) (sbcM m') := ni_xor hm ⟨rfl, .inr rfl⟩
  intro i x y hx hy
  match i, hx, hy with
  | 0, hx, hy => cases hx; cases hy; exact ⟨ni_adcB hf ha hm, ni_adcF hf ha hm⟩
  | 1, hx, hy => cases hx; cases hy; exact ⟨ni_adcB hf ha hsm, ni_adcF hf ha hsm⟩
  | 2, hx, hy => cases hx; cases hy; exact ⟨ni_sbxB ha hm, ni_sbxF hf ha hm⟩
  | 3, hx, hy => cases hx; cases hy; exact ⟨ni_asl ha, ni_sh hf (ni_lb (fun q => q / 128) ha) (ni_asl ha)⟩
  | 4, hx, hy => cases hx; cases hy; exact ⟨ni_lsr ha, ni_sh hf (ni_lb (fun q => q) ha) (ni_lsr ha)⟩
  | 5, hx, hy => cases hx; cases hy; exact ⟨ni_rol hf ha, ni_sh hf (ni_lb (fun q => q / 128) ha) (ni_rol hf ha)⟩
  | 6, hx, hy => cases hx; cases hy; exact ⟨ni_ror hf ha, ni_sh hf (ni_lb (fun q => q) ha) (ni_ror hf ha)⟩
  | 7, hx, hy => cases hx; cases hy; exact ⟨ni_ror hf (ni_and ha hm), ni_arrF hf ha hm⟩
  | 8, hx, hy => cases hx; cases hy; exact ⟨ni_get bit hf, ni_set bit hf ha⟩
  | 9, hx, hy => cases hx; cases hy; exact ⟨ni_push brk hf, ni_pull ha⟩
  | 10, hx, hy => cases hx; cases hy; exact ⟨ni_zero, ni_sbxF hf ha hm⟩
  | 11, hx, hy => cases hx; cases hy; exact ⟨ni_zero, ni_bitF hf ha hm⟩
  | 12, hx, hy => cases hx; cases hy; exact ⟨ni_zero, ni_nz hf ha⟩
  | i + 13, hx, hy => simp [toldL] at hx
theorem ni_other (p s q : Int) : AF ⟨p, s⟩ ⟨O8 (N8 p s) (A8 q s), s⟩ := by
  refine af_of rfl fun i => ?_
  have e : (bv (O8 (N8 p s) (A8 q s))).getLsbD i = (((bv p).getLsbD i && !(bv s).getLsbD i) || ((bv q).getLsbD i && (bv s).getLsbD i)) := by
    unfold O8 N8 A8
    rw [bits_o, bits_n, bits_a, bv_nat, bv_nat, bv_nat]
    by_cases hi : i < 8
    · simp [hi]
    · have big : ∀ z : BitVec 8, z.getLsbD i = false := fun z => BitVec.getLsbD_of_ge z i (by omega)
      simp [big]
  rw [e]
  generalize (bv p).getLsbD i = a
  generalize (bv s).getLsbD i = b
  generalize (bv q).getLsbD i = c
  cases a <;> cases b <;> cases c <;> decide
theorem ni_byte (v v' : Int) (s : Bool) : AB ⟨v, s⟩ ⟨if s = true then v' else v, s⟩ := by
  refine ⟨rfl, ?_⟩
  cases s
  · exact .inr rfl
  · exact .inl rfl
end Go.Proofs.Ytdgjenlejalgeaa
