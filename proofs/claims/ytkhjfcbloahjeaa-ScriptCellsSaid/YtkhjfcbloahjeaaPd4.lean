import Derived.Test.YtkhjfcbloahjeaaPd3
namespace Go.Proofs.Ytkhjfcbloahjeaa
open Go.RowKit Go.Sx
/-- A policy and a script, in blocks of their own. -/
structure Duo (w wk : World) (p0 p1 : Bool) (ra : Option Addr) (rn rc : Nat) (sa : Option Addr) (sn sc : Nat) (p : ByteArray) (ao : Option Addr) (n c : Nat) (sv rm : ByteArray) : Prop where
  P : PoAt wk w.heap.size p0 p1 ra rn rc sa sn sc
  A : ScAt wk (w.heap.size + 1) p ao n c sv rm
  bl : Below w.heap.size w wk
theorem Duo.below {w wk wl : World} {p0 p1 : Bool} {ra : Option Addr} {rn rc : Nat} {sa : Option Addr} {sn sc : Nat} {p : ByteArray} {ao : Option Addr} {n c : Nat} {sv rm : ByteArray} (h : Duo w wk p0 p1 ra rn rc sa sn sc p ao n c sv rm) (hb : Below wk.heap.size wk wl) : Duo w wl p0 p1 ra rn rc sa sn sc p ao n c sv rm :=
  ⟨h.P.below hb, h.A.below hb, h.bl.trans (hb.mono h.bl.size)⟩
theorem Duo.new (w : World) (p0 p1 : Bool) (ra : Option Addr) (rn rc : Nat) (sa : Option Addr) (sn sc : Nat) (p : ByteArray) (ao : Option Addr) (n c : Nat) (sv rm : ByteArray) :
    Duo w ((w.alloc (.cells #[.bool p0, .bool p1, .slice ra rn rc, .slice sa sn sc] 25)).alloc (.cells #[.string p, .slice ao n c, .string sv, .string rm] 28)) p0 p1 ra rn rc sa sn sc p ao n c sv rm :=
  ⟨blk_alloc (blk_new _ _) _, blk_new' _ (by simp), ((Below.refl _ _).alloc (Nat.le_refl _) _).alloc (by simp) _⟩
theorem PoAt.put {w : World} {g : Nat} {p0 p1 q0 q1 : Bool} {ra ra' sa sa' : Option Addr} {rn rc sn sc rn' rc' sn' sc' : Nat} (h : PoAt w g p0 p1 ra rn rc sa sn sc) :
    PoAt ((((w.setCell ⟨g, 0, none⟩ (.bool q0)).setCell ⟨g, 1, none⟩ (.bool q1)).setCell ⟨g, 2, none⟩ (.slice ra' rn' rc')).setCell ⟨g, 3, none⟩ (.slice sa' sn' sc')) g q0 q1 ra' rn' rc' sa' sn' sc' := by
  have := blk_set (blk_set (blk_set (blk_set h 0 (.bool q0)) 1 (.bool q1)) 2 (.slice ra' rn' rc')) 3 (.slice sa' sn' sc')
  simpa [PoAt] using this
theorem oth4 {w : World} {g B : Nat} (h : B ≠ g) (v0 v1 v2 v3 : Value) : ((((w.setCell ⟨B, 0, none⟩ v0).setCell ⟨B, 1, none⟩ v1).setCell ⟨B, 2, none⟩ v2).setCell ⟨B, 3, none⟩ v3).heap[g]? = w.heap[g]? :=
  (blk_other (by exact h) _).trans ((blk_other (by exact h) _).trans ((blk_other (by exact h) _).trans (blk_other (by exact h) _)))
theorem Duo.few {w wk : World} {p0 p1 : Bool} {ra : Option Addr} {rn rc : Nat} {sa : Option Addr} {sn sc : Nat} {p : ByteArray} {ao : Option Addr} {n c : Nat} {sv rm : ByteArray} (h : Duo w wk p0 p1 ra rn rc sa sn sc p ao n c sv rm) {rn' sn' : Nat} {p' : ByteArray} {n' : Nat} {sv' rm' : ByteArray} :
    Duo w ((((((((wk.setCell ⟨w.heap.size, 0, none⟩ (.bool p0)).setCell ⟨w.heap.size, 1, none⟩ (.bool p1)).setCell ⟨w.heap.size, 2, none⟩ (.slice ra rn' rc)).setCell ⟨w.heap.size, 3, none⟩ (.slice sa sn' sc)).setCell ⟨w.heap.size + 1, 0, none⟩ (.string p')).setCell ⟨w.heap.size + 1, 1, none⟩ (.slice ao n' c)).setCell ⟨w.heap.size + 1, 2, none⟩ (.string sv')).setCell ⟨w.heap.size + 1, 3, none⟩ (.string rm')) p0 p1 ra rn' rc sa sn' sc p' ao n' c sv' rm' := by
  have hA : ScAt ((((wk.setCell ⟨w.heap.size, 0, none⟩ (.bool p0)).setCell ⟨w.heap.size, 1, none⟩ (.bool p1)).setCell ⟨w.heap.size, 2, none⟩ (.slice ra rn' rc)).setCell ⟨w.heap.size, 3, none⟩ (.slice sa sn' sc)) (w.heap.size + 1) p ao n c sv rm := (oth4 (by omega) _ _ _ _).trans h.A
  exact ⟨(oth4 (by omega) _ _ _ _).trans h.P.put, hA.set, b4 (b4 h.bl (Nat.le_refl _) _ _ _ _) (by omega) _ _ _ _⟩
set_option maxRecDepth 100000 in
set_option maxHeartbeats 6400000 in
theorem cells_law (p0 p1 : Bool) (ra : Option Addr) (rn rc : Nat) (sa : Option Addr) (sn sc : Nat) (F T F' T' : Nat → Int) (p : ByteArray) (ao : Option Addr) (n c : Nat) (sv rm : ByteArray) (R : Nat → Int) (w : World)
    (hrc : rn ≤ rc) (hsc : sn ≤ sc) (hc : n ≤ c) (hRa : RgAt w ra rn F T) (hSa : RgAt w sa sn F' T') (hA : IntsAt w ao n R) (hR : IntsR R n) :
    Calls Try.prog 6 #[poV p0 p1 ra rn rc sa sn sc, scV p ao n c sv rm] w fun e w' => e = .returned (.bool true) ∧ Below w.heap.size w w' := by
  have Tk := (Duo.new w p0 p1 ra rn rc sa sn sc p ao n c sv rm).below (Below.refl _ _).drew
  go_enter Try.func6, Try.ntmps6
  go_upto_region 1 with fail
  go_cut [4] (fun z wx => z = .bool false ∧ ∃ p' n' sv' rm', p'.size ≤ 1201 ∧ n' ≤ 20 ∧ n' ≤ n ∧ sv'.size ≤ 8193 ∧ rm'.size ≤ 2049 ∧ Duo w wx p0 p1 ra (min rn 20) rc sa (min sn 20) sc p' ao n' c sv' rm')
  case first =>
    have c0 : World.cell? _ ⟨w.heap.size, 0, none⟩ = some (.bool p0) := blk_cell Tk.P 0
    have f0 : World.frozen? _ ⟨w.heap.size, 0, none⟩ = false := blk_free Tk.P 0
    have c1 : World.cell? _ ⟨w.heap.size, 1, none⟩ = some (.bool p1) := blk_cell Tk.P 1
    have f1 : World.frozen? _ ⟨w.heap.size, 1, none⟩ = false := blk_free Tk.P 1
    have c2 : World.cell? _ ⟨w.heap.size, 2, none⟩ = some (.slice ra rn rc) := blk_cell Tk.P 2
    have f2 : World.frozen? _ ⟨w.heap.size, 2, none⟩ = false := blk_free Tk.P 2
    have c3 : World.cell? _ ⟨w.heap.size, 3, none⟩ = some (.slice sa sn sc) := blk_cell Tk.P 3
    have f3 : World.frozen? _ ⟨w.heap.size, 3, none⟩ = false := blk_free Tk.P 3
    have d0 : World.cell? _ ⟨w.heap.size + 1, 0, none⟩ = some (.string p) := blk_cell Tk.A 0
    have g0 : World.frozen? _ ⟨w.heap.size + 1, 0, none⟩ = false := blk_free Tk.A 0
    have d1 : World.cell? _ ⟨w.heap.size + 1, 1, none⟩ = some (.slice ao n c) := blk_cell Tk.A 1
    have g1 : World.frozen? _ ⟨w.heap.size + 1, 1, none⟩ = false := blk_free Tk.A 1
    have d2 : World.cell? _ ⟨w.heap.size + 1, 2, none⟩ = some (.string sv) := blk_cell Tk.A 2
    have g2 : World.frozen? _ ⟨w.heap.size + 1, 2, none⟩ = false := blk_free Tk.A 2
    have d3 : World.cell? _ ⟨w.heap.size + 1, 3, none⟩ = some (.string rm) := blk_cell Tk.A 3
    have g3 : World.frozen? _ ⟨w.heap.size + 1, 3, none⟩ = false := blk_free Tk.A 3
    refine wp_region_noPanic ?_
    refine wp_region_held_drew (S := (fun _ => True)) (by kernel_rfl) trivial (fun hHeld => ?_)
    refine wpAnyH_ready (rs := [0, 2]) (by kernel_rfl) (by simp) ?_
    refine AllReadyH.cons (o := ⟨_, _, _, _, _, _⟩) rfl (fun K hK => ?_) (AllReadyH.cons (o := ⟨_, _, _, _, _, _⟩) rfl (fun K hK => ?_) (AllReadyH.nil))
    · go_simp
      refine hK.out _ _ trivial (fun hHeld => ?_)
      clear hK K
      refine wpAnyH_ready (rs := [1, 2]) (by kernel_rfl) (by simp) ?_
      refine AllReadyH.cons (o := ⟨_, _, _, _, _, _⟩) rfl (fun K hK => ?_) (AllReadyH.cons (o := ⟨_, _, _, _, _, _⟩) rfl (fun K hK => ?_) (AllReadyH.nil))
      · go_simp
        refine (few3_any p0 p1 ra rn rc sa sn sc _ hrc hsc).mono ?_
        rintro e wa ⟨rfl, ba⟩
        have T1 := Tk.below ba
        clear Tk ba c0 c1 c2 c3 f0 f1 f2 f3 d0 d1 d2 d3 g0 g1 g2 g3
        rename Duo w wa _ _ _ _ _ _ _ _ _ _ _ _ _ _ => Tk
        have c0 : wa.cell? ⟨w.heap.size, 0, none⟩ = some (.bool p0) := blk_cell Tk.P 0
        have f0 : wa.frozen? ⟨w.heap.size, 0, none⟩ = false := blk_free Tk.P 0
        have c1 : wa.cell? ⟨w.heap.size, 1, none⟩ = some (.bool p1) := blk_cell Tk.P 1
        have f1 : wa.frozen? ⟨w.heap.size, 1, none⟩ = false := blk_free Tk.P 1
        have c2 : wa.cell? ⟨w.heap.size, 2, none⟩ = some (.slice ra rn rc) := blk_cell Tk.P 2
        have f2 : wa.frozen? ⟨w.heap.size, 2, none⟩ = false := blk_free Tk.P 2
        have c3 : wa.cell? ⟨w.heap.size, 3, none⟩ = some (.slice sa sn sc) := blk_cell Tk.P 3
        have f3 : wa.frozen? ⟨w.heap.size, 3, none⟩ = false := blk_free Tk.P 3
        have d0 : wa.cell? ⟨w.heap.size + 1, 0, none⟩ = some (.string p) := blk_cell Tk.A 0
        have g0 : wa.frozen? ⟨w.heap.size + 1, 0, none⟩ = false := blk_free Tk.A 0
        have d1 : wa.cell? ⟨w.heap.size + 1, 1, none⟩ = some (.slice ao n c) := blk_cell Tk.A 1
        have g1 : wa.frozen? ⟨w.heap.size + 1, 1, none⟩ = false := blk_free Tk.A 1
        have d2 : wa.cell? ⟨w.heap.size + 1, 2, none⟩ = some (.string sv) := blk_cell Tk.A 2
        have g2 : wa.frozen? ⟨w.heap.size + 1, 2, none⟩ = false := blk_free Tk.A 2
        have d3 : wa.cell? ⟨w.heap.size + 1, 3, none⟩ = some (.string rm) := blk_cell Tk.A 3
        have g3 : wa.frozen? ⟨w.heap.size + 1, 3, none⟩ = false := blk_free Tk.A 3
        refine hK.out _ _ trivial (fun hHeld => ?_)
        clear hK K
        refine wpAnyH_ready (rs := [2]) (by kernel_rfl) (by simp) ?_
        refine AllReadyH.cons (o := ⟨_, _, _, _, _, _⟩) rfl (fun K hK => ?_) (AllReadyH.nil)
        go_simp
        refine hK.out _ _ trivial (fun hHeld => ?_)
        clear hK K
        refine wpAnyH_ready (rs := [3]) (by kernel_rfl) (by simp) ?_
        refine AllReadyH.cons (o := ⟨_, _, _, _, _, _⟩) rfl (fun K hK => ?_) (AllReadyH.nil)
        go_simp
        refine (few_any p ao n c sv rm _ hc).mono ?_
        rintro e wb ⟨⟨p', n', sv', rm', rfl, hp', hn', hnn', hsv', hrm'⟩, bb⟩
        have T2 := Tk.below bb
        clear Tk bb c0 c1 c2 c3 f0 f1 f2 f3 d0 d1 d2 d3 g0 g1 g2 g3
        rename Duo w wb _ _ _ _ _ _ _ _ _ _ _ _ _ _ => Tk
        have c0 : wb.cell? ⟨w.heap.size, 0, none⟩ = some (.bool p0) := blk_cell Tk.P 0
        have f0 : wb.frozen? ⟨w.heap.size, 0, none⟩ = false := blk_free Tk.P 0
        have c1 : wb.cell? ⟨w.heap.size, 1, none⟩ = some (.bool p1) := blk_cell Tk.P 1
        have f1 : wb.frozen? ⟨w.heap.size, 1, none⟩ = false := blk_free Tk.P 1
        have c2 : wb.cell? ⟨w.heap.size, 2, none⟩ = some (.slice ra rn rc) := blk_cell Tk.P 2
        have f2 : wb.frozen? ⟨w.heap.size, 2, none⟩ = false := blk_free Tk.P 2
        have c3 : wb.cell? ⟨w.heap.size, 3, none⟩ = some (.slice sa sn sc) := blk_cell Tk.P 3
        have f3 : wb.frozen? ⟨w.heap.size, 3, none⟩ = false := blk_free Tk.P 3
        have d0 : wb.cell? ⟨w.heap.size + 1, 0, none⟩ = some (.string p) := blk_cell Tk.A 0
        have g0 : wb.frozen? ⟨w.heap.size + 1, 0, none⟩ = false := blk_free Tk.A 0
        have d1 : wb.cell? ⟨w.heap.size + 1, 1, none⟩ = some (.slice ao n c) := blk_cell Tk.A 1
        have g1 : wb.frozen? ⟨w.heap.size + 1, 1, none⟩ = false := blk_free Tk.A 1
        have d2 : wb.cell? ⟨w.heap.size + 1, 2, none⟩ = some (.string sv) := blk_cell Tk.A 2
        have g2 : wb.frozen? ⟨w.heap.size + 1, 2, none⟩ = false := blk_free Tk.A 2
        have d3 : wb.cell? ⟨w.heap.size + 1, 3, none⟩ = some (.string rm) := blk_cell Tk.A 3
        have g3 : wb.frozen? ⟨w.heap.size + 1, 3, none⟩ = false := blk_free Tk.A 3
        refine hK.out _ _ trivial (fun hHeld => ?_)
        clear hK K
        refine wpAnyH_ready (rs := [4]) (by kernel_rfl) (by simp) ?_
        refine AllReadyH.cons (o := ⟨_, _, _, _, _, _⟩) rfl (fun K hK => ?_) (AllReadyH.nil)
        go_simp
        refine hK.out _ _ trivial (fun hHeld => ?_)
        clear hK K
        refine wpAnyH_ready (rs := [5]) (by kernel_rfl) (by simp) ?_
        refine AllReadyH.cons (o := ⟨_, _, _, _, _, _⟩) rfl (fun K hK => ?_) (AllReadyH.nil)
        go_simp
        refine hK.out _ _ trivial (fun hHeld => ?_)
        clear hK K
        refine wpAnyH_done (by kernel_rfl) (NoPanic.normal ?_) _
        go_wp2_with fail
        go_meet
        exact ⟨rfl, p', n', sv', rm', hp', hn', hnn', hsv', hrm', Tk.few⟩
      · go_simp
        refine hK.out _ _ trivial (fun hHeld => ?_)
        clear hK K
        refine wpAnyH_ready (rs := [1]) (by kernel_rfl) (by simp) ?_
        refine AllReadyH.cons (o := ⟨_, _, _, _, _, _⟩) rfl (fun K hK => ?_) (AllReadyH.nil)
        go_simp
        refine (few3_any p0 p1 ra rn rc sa sn sc _ hrc hsc).mono ?_
        rintro e wa ⟨rfl, ba⟩
        have T1 := Tk.below ba
        clear Tk ba c0 c1 c2 c3 f0 f1 f2 f3 d0 d1 d2 d3 g0 g1 g2 g3
        rename Duo w wa _ _ _ _ _ _ _ _ _ _ _ _ _ _ => Tk
        have c0 : wa.cell? ⟨w.heap.size, 0, none⟩ = some (.bool p0) := blk_cell Tk.P 0
        have f0 : wa.frozen? ⟨w.heap.size, 0, none⟩ = false := blk_free Tk.P 0
        have c1 : wa.cell? ⟨w.heap.size, 1, none⟩ = some (.bool p1) := blk_cell Tk.P 1
        have f1 : wa.frozen? ⟨w.heap.size, 1, none⟩ = false := blk_free Tk.P 1
        have c2 : wa.cell? ⟨w.heap.size, 2, none⟩ = some (.slice ra rn rc) := blk_cell Tk.P 2
        have f2 : wa.frozen? ⟨w.heap.size, 2, none⟩ = false := blk_free Tk.P 2
        have c3 : wa.cell? ⟨w.heap.size, 3, none⟩ = some (.slice sa sn sc) := blk_cell Tk.P 3
        have f3 : wa.frozen? ⟨w.heap.size, 3, none⟩ = false := blk_free Tk.P 3
        have d0 : wa.cell? ⟨w.heap.size + 1, 0, none⟩ = some (.string p) := blk_cell Tk.A 0
        have g0 : wa.frozen? ⟨w.heap.size + 1, 0, none⟩ = false := blk_free Tk.A 0
        have d1 : wa.cell? ⟨w.heap.size + 1, 1, none⟩ = some (.slice ao n c) := blk_cell Tk.A 1
        have g1 : wa.frozen? ⟨w.heap.size + 1, 1, none⟩ = false := blk_free Tk.A 1
        have d2 : wa.cell? ⟨w.heap.size + 1, 2, none⟩ = some (.string sv) := blk_cell Tk.A 2
        have g2 : wa.frozen? ⟨w.heap.size + 1, 2, none⟩ = false := blk_free Tk.A 2
        have d3 : wa.cell? ⟨w.heap.size + 1, 3, none⟩ = some (.string rm) := blk_cell Tk.A 3
        have g3 : wa.frozen? ⟨w.heap.size + 1, 3, none⟩ = false := blk_free Tk.A 3
        refine hK.out _ _ trivial (fun hHeld => ?_)
        clear hK K
        refine wpAnyH_ready (rs := [3]) (by kernel_rfl) (by simp) ?_
        refine AllReadyH.cons (o := ⟨_, _, _, _, _, _⟩) rfl (fun K hK => ?_) (AllReadyH.nil)
        go_simp
        refine (few_any p ao n c sv rm _ hc).mono ?_
        rintro e wb ⟨⟨p', n', sv', rm', rfl, hp', hn', hnn', hsv', hrm'⟩, bb⟩
        have T2 := Tk.below bb
        clear Tk bb c0 c1 c2 c3 f0 f1 f2 f3 d0 d1 d2 d3 g0 g1 g2 g3
        rename Duo w wb _ _ _ _ _ _ _ _ _ _ _ _ _ _ => Tk
        have c0 : wb.cell? ⟨w.heap.size, 0, none⟩ = some (.bool p0) := blk_cell Tk.P 0
        have f0 : wb.frozen? ⟨w.heap.size, 0, none⟩ = false := blk_free Tk.P 0
        have c1 : wb.cell? ⟨w.heap.size, 1, none⟩ = some (.bool p1) := blk_cell Tk.P 1
        have f1 : wb.frozen? ⟨w.heap.size, 1, none⟩ = false := blk_free Tk.P 1
        have c2 : wb.cell? ⟨w.heap.size, 2, none⟩ = some (.slice ra rn rc) := blk_cell Tk.P 2
        have f2 : wb.frozen? ⟨w.heap.size, 2, none⟩ = false := blk_free Tk.P 2
        have c3 : wb.cell? ⟨w.heap.size, 3, none⟩ = some (.slice sa sn sc) := blk_cell Tk.P 3
        have f3 : wb.frozen? ⟨w.heap.size, 3, none⟩ = false := blk_free Tk.P 3
        have d0 : wb.cell? ⟨w.heap.size + 1, 0, none⟩ = some (.string p) := blk_cell Tk.A 0
        have g0 : wb.frozen? ⟨w.heap.size + 1, 0, none⟩ = false := blk_free Tk.A 0
        have d1 : wb.cell? ⟨w.heap.size + 1, 1, none⟩ = some (.slice ao n c) := blk_cell Tk.A 1
        have g1 : wb.frozen? ⟨w.heap.size + 1, 1, none⟩ = false := blk_free Tk.A 1
        have d2 : wb.cell? ⟨w.heap.size + 1, 2, none⟩ = some (.string sv) := blk_cell Tk.A 2
        have g2 : wb.frozen? ⟨w.heap.size + 1, 2, none⟩ = false := blk_free Tk.A 2
        have d3 : wb.cell? ⟨w.heap.size + 1, 3, none⟩ = some (.string rm) := blk_cell Tk.A 3
        have g3 : wb.frozen? ⟨w.heap.size + 1, 3, none⟩ = false := blk_free Tk.A 3
        refine hK.out _ _ trivial (fun hHeld => ?_)
        clear hK K
        refine wpAnyH_ready (rs := [4]) (by kernel_rfl) (by simp) ?_
        refine AllReadyH.cons (o := ⟨_, _, _, _, _, _⟩) rfl (fun K hK => ?_) (AllReadyH.nil)
        go_simp
        refine hK.out _ _ trivial (fun hHeld => ?_)
        clear hK K
        refine wpAnyH_ready (rs := [5]) (by kernel_rfl) (by simp) ?_
        refine AllReadyH.cons (o := ⟨_, _, _, _, _, _⟩) rfl (fun K hK => ?_) (AllReadyH.nil)
        go_simp
        refine hK.out _ _ trivial (fun hHeld => ?_)
        clear hK K
        refine wpAnyH_done (by kernel_rfl) (NoPanic.normal ?_) _
        go_wp2_with fail
        go_meet
        exact ⟨rfl, p', n', sv', rm', hp', hn', hnn', hsv', hrm', Tk.few⟩
    · go_simp
      refine hK.out _ _ trivial (fun hHeld => ?_)
      clear hK K
      refine wpAnyH_ready (rs := [0]) (by kernel_rfl) (by simp) ?_
      refine AllReadyH.cons (o := ⟨_, _, _, _, _, _⟩) rfl (fun K hK => ?_) (AllReadyH.nil)
      go_simp
      refine hK.out _ _ trivial (fun hHeld => ?_)
      clear hK K
      refine wpAnyH_ready (rs := [1]) (by kernel_rfl) (by simp) ?_
      refine AllReadyH.cons (o := ⟨_, _, _, _, _, _⟩) rfl (fun K hK => ?_) (AllReadyH.nil)
      go_simp
      refine (few3_any p0 p1 ra rn rc sa sn sc _ hrc hsc).mono ?_
      rintro e wa ⟨rfl, ba⟩
      have T1 := Tk.below ba
      clear Tk ba c0 c1 c2 c3 f0 f1 f2 f3 d0 d1 d2 d3 g0 g1 g2 g3
      rename Duo w wa _ _ _ _ _ _ _ _ _ _ _ _ _ _ => Tk
      have c0 : wa.cell? ⟨w.heap.size, 0, none⟩ = some (.bool p0) := blk_cell Tk.P 0
      have f0 : wa.frozen? ⟨w.heap.size, 0, none⟩ = false := blk_free Tk.P 0
      have c1 : wa.cell? ⟨w.heap.size, 1, none⟩ = some (.bool p1) := blk_cell Tk.P 1
      have f1 : wa.frozen? ⟨w.heap.size, 1, none⟩ = false := blk_free Tk.P 1
      have c2 : wa.cell? ⟨w.heap.size, 2, none⟩ = some (.slice ra rn rc) := blk_cell Tk.P 2
      have f2 : wa.frozen? ⟨w.heap.size, 2, none⟩ = false := blk_free Tk.P 2
      have c3 : wa.cell? ⟨w.heap.size, 3, none⟩ = some (.slice sa sn sc) := blk_cell Tk.P 3
      have f3 : wa.frozen? ⟨w.heap.size, 3, none⟩ = false := blk_free Tk.P 3
      have d0 : wa.cell? ⟨w.heap.size + 1, 0, none⟩ = some (.string p) := blk_cell Tk.A 0
      have g0 : wa.frozen? ⟨w.heap.size + 1, 0, none⟩ = false := blk_free Tk.A 0
      have d1 : wa.cell? ⟨w.heap.size + 1, 1, none⟩ = some (.slice ao n c) := blk_cell Tk.A 1
      have g1 : wa.frozen? ⟨w.heap.size + 1, 1, none⟩ = false := blk_free Tk.A 1
      have d2 : wa.cell? ⟨w.heap.size + 1, 2, none⟩ = some (.string sv) := blk_cell Tk.A 2
      have g2 : wa.frozen? ⟨w.heap.size + 1, 2, none⟩ = false := blk_free Tk.A 2
      have d3 : wa.cell? ⟨w.heap.size + 1, 3, none⟩ = some (.string rm) := blk_cell Tk.A 3
      have g3 : wa.frozen? ⟨w.heap.size + 1, 3, none⟩ = false := blk_free Tk.A 3
      refine hK.out _ _ trivial (fun hHeld => ?_)
      clear hK K
      refine wpAnyH_ready (rs := [3]) (by kernel_rfl) (by simp) ?_
      refine AllReadyH.cons (o := ⟨_, _, _, _, _, _⟩) rfl (fun K hK => ?_) (AllReadyH.nil)
      go_simp
      refine (few_any p ao n c sv rm _ hc).mono ?_
      rintro e wb ⟨⟨p', n', sv', rm', rfl, hp', hn', hnn', hsv', hrm'⟩, bb⟩
      have T2 := Tk.below bb
      clear Tk bb c0 c1 c2 c3 f0 f1 f2 f3 d0 d1 d2 d3 g0 g1 g2 g3
      rename Duo w wb _ _ _ _ _ _ _ _ _ _ _ _ _ _ => Tk
      have c0 : wb.cell? ⟨w.heap.size, 0, none⟩ = some (.bool p0) := blk_cell Tk.P 0
      have f0 : wb.frozen? ⟨w.heap.size, 0, none⟩ = false := blk_free Tk.P 0
      have c1 : wb.cell? ⟨w.heap.size, 1, none⟩ = some (.bool p1) := blk_cell Tk.P 1
      have f1 : wb.frozen? ⟨w.heap.size, 1, none⟩ = false := blk_free Tk.P 1
      have c2 : wb.cell? ⟨w.heap.size, 2, none⟩ = some (.slice ra rn rc) := blk_cell Tk.P 2
      have f2 : wb.frozen? ⟨w.heap.size, 2, none⟩ = false := blk_free Tk.P 2
      have c3 : wb.cell? ⟨w.heap.size, 3, none⟩ = some (.slice sa sn sc) := blk_cell Tk.P 3
      have f3 : wb.frozen? ⟨w.heap.size, 3, none⟩ = false := blk_free Tk.P 3
      have d0 : wb.cell? ⟨w.heap.size + 1, 0, none⟩ = some (.string p) := blk_cell Tk.A 0
      have g0 : wb.frozen? ⟨w.heap.size + 1, 0, none⟩ = false := blk_free Tk.A 0
      have d1 : wb.cell? ⟨w.heap.size + 1, 1, none⟩ = some (.slice ao n c) := blk_cell Tk.A 1
      have g1 : wb.frozen? ⟨w.heap.size + 1, 1, none⟩ = false := blk_free Tk.A 1
      have d2 : wb.cell? ⟨w.heap.size + 1, 2, none⟩ = some (.string sv) := blk_cell Tk.A 2
      have g2 : wb.frozen? ⟨w.heap.size + 1, 2, none⟩ = false := blk_free Tk.A 2
      have d3 : wb.cell? ⟨w.heap.size + 1, 3, none⟩ = some (.string rm) := blk_cell Tk.A 3
      have g3 : wb.frozen? ⟨w.heap.size + 1, 3, none⟩ = false := blk_free Tk.A 3
      refine hK.out _ _ trivial (fun hHeld => ?_)
      clear hK K
      refine wpAnyH_ready (rs := [4]) (by kernel_rfl) (by simp) ?_
      refine AllReadyH.cons (o := ⟨_, _, _, _, _, _⟩) rfl (fun K hK => ?_) (AllReadyH.nil)
      go_simp
      refine hK.out _ _ trivial (fun hHeld => ?_)
      clear hK K
      refine wpAnyH_ready (rs := [5]) (by kernel_rfl) (by simp) ?_
      refine AllReadyH.cons (o := ⟨_, _, _, _, _, _⟩) rfl (fun K hK => ?_) (AllReadyH.nil)
      go_simp
      refine hK.out _ _ trivial (fun hHeld => ?_)
      clear hK K
      refine wpAnyH_done (by kernel_rfl) (NoPanic.normal ?_) _
      go_wp2_with fail
      go_meet
      exact ⟨rfl, p', n', sv', rm', hp', hn', hnn', hsv', hrm', Tk.few⟩
  case rest =>
    obtain ⟨rfl, p', n', sv', rm', hp', hn', hnn', hsv', hrm', T0⟩ := hcut
    have hPol : PolAt w ra (min rn 20) rc sa (min sn 20) sc F T F' T' := ⟨fun i hi => hRa i (by omega), fun i hi => hSa i (by omega), by omega, by omega⟩
    have hI : IntsAt w ao n' R := fun i hi => hA i (by omega)
    have hIR : IntsR R n' := ⟨fun i hi => hR.b i (by omega)⟩
    clear hRa hSa hA hR Tk
    clear hnn' hrc hsc hc
    obtain ⟨rn', hrn⟩ : ∃ m, m = min rn 20 := ⟨_, rfl⟩
    obtain ⟨sn', hsn⟩ : ∃ m, m = min sn 20 := ⟨_, rfl⟩
    rw [← hrn, ← hsn] at T0 hPol
    clear hrn hsn
    have c0 : wc.cell? ⟨w.heap.size, 0, none⟩ = some (.bool p0) := blk_cell T0.P 0
    have c1 : wc.cell? ⟨w.heap.size, 1, none⟩ = some (.bool p1) := blk_cell T0.P 1
    have c2 : wc.cell? ⟨w.heap.size, 2, none⟩ = some (.slice ra rn' rc) := blk_cell T0.P 2
    have c3 : wc.cell? ⟨w.heap.size, 3, none⟩ = some (.slice sa sn' sc) := blk_cell T0.P 3
    have d0 : wc.cell? ⟨w.heap.size + 1, 0, none⟩ = some (.string p') := blk_cell T0.A 0
    have d1 : wc.cell? ⟨w.heap.size + 1, 1, none⟩ = some (.slice ao n' c) := blk_cell T0.A 1
    have d2 : wc.cell? ⟨w.heap.size + 1, 2, none⟩ = some (.string sv') := blk_cell T0.A 2
    have d3 : wc.cell? ⟨w.heap.size + 1, 3, none⟩ = some (.string rm') := blk_cell T0.A 3
    cases q1 : mayPB rn' sn' F T F' T'
    · have Q1 := hidI q1; clear q1
      go_wp2_with fail
      refine (ram_no p0 p1 ra rn' rc sa sn' sc F T F' T' p' ao n' c sv' rm' R _ (hPol.below T0.bl) (by omega) (by omega) (hI.below T0.bl) 7 (by rw [Q1.out]; rfl) rfl).mono ?_
      rintro e w1 ⟨rfl, b1⟩
      have T1 := T0.below b1
      clear b1 T0
      clear c0 c1 c2 c3 d0 d1 d2 d3
      have c0 : w1.cell? ⟨w.heap.size, 0, none⟩ = some (.bool p0) := blk_cell T1.P 0
      have c1 : w1.cell? ⟨w.heap.size, 1, none⟩ = some (.bool p1) := blk_cell T1.P 1
      have c2 : w1.cell? ⟨w.heap.size, 2, none⟩ = some (.slice ra rn' rc) := blk_cell T1.P 2
      have c3 : w1.cell? ⟨w.heap.size, 3, none⟩ = some (.slice sa sn' sc) := blk_cell T1.P 3
      have d0 : w1.cell? ⟨w.heap.size + 1, 0, none⟩ = some (.string p') := blk_cell T1.A 0
      have d1 : w1.cell? ⟨w.heap.size + 1, 1, none⟩ = some (.slice ao n' c) := blk_cell T1.A 1
      have d2 : w1.cell? ⟨w.heap.size + 1, 2, none⟩ = some (.string sv') := blk_cell T1.A 2
      have d3 : w1.cell? ⟨w.heap.size + 1, 3, none⟩ = some (.string rm') := blk_cell T1.A 3
      go_wp2_with fail
      refine (save_no p0 p1 ra rn' rc sa sn' sc F T F' T' p' ao n' c sv' rm' R _ (hPol.below T1.bl) (by omega) (by omega) (hI.below T1.bl) 7 (by rw [Q1.out]; rfl) rfl).mono ?_
      rintro e w2 ⟨rfl, b2⟩
      have T2 := T1.below b2
      clear b2 T1
      clear c0 c1 c2 c3 d0 d1 d2 d3
      have c0 : w2.cell? ⟨w.heap.size, 0, none⟩ = some (.bool p0) := blk_cell T2.P 0
      have c1 : w2.cell? ⟨w.heap.size, 1, none⟩ = some (.bool p1) := blk_cell T2.P 1
      have c2 : w2.cell? ⟨w.heap.size, 2, none⟩ = some (.slice ra rn' rc) := blk_cell T2.P 2
      have c3 : w2.cell? ⟨w.heap.size, 3, none⟩ = some (.slice sa sn' sc) := blk_cell T2.P 3
      have d0 : w2.cell? ⟨w.heap.size + 1, 0, none⟩ = some (.string p') := blk_cell T2.A 0
      have d1 : w2.cell? ⟨w.heap.size + 1, 1, none⟩ = some (.slice ao n' c) := blk_cell T2.A 1
      have d2 : w2.cell? ⟨w.heap.size + 1, 2, none⟩ = some (.string sv') := blk_cell T2.A 2
      have d3 : w2.cell? ⟨w.heap.size + 1, 3, none⟩ = some (.string rm') := blk_cell T2.A 3
      go_wp2_with fail
      refine (may3_any p0 p1 ra rn' rc sa sn' sc F T F' T' _ (hPol.below T2.bl)).mono ?_
      rw [Q1.out]
      rintro e w3 ⟨rfl, b3⟩
      have T3 := T2.below b3
      clear b3 T2
      clear c0 c1 c2 c3 d0 d1 d2 d3
      have c0 : w3.cell? ⟨w.heap.size, 0, none⟩ = some (.bool p0) := blk_cell T3.P 0
      have c1 : w3.cell? ⟨w.heap.size, 1, none⟩ = some (.bool p1) := blk_cell T3.P 1
      have c2 : w3.cell? ⟨w.heap.size, 2, none⟩ = some (.slice ra rn' rc) := blk_cell T3.P 2
      have c3 : w3.cell? ⟨w.heap.size, 3, none⟩ = some (.slice sa sn' sc) := blk_cell T3.P 3
      have d0 : w3.cell? ⟨w.heap.size + 1, 0, none⟩ = some (.string p') := blk_cell T3.A 0
      have d1 : w3.cell? ⟨w.heap.size + 1, 1, none⟩ = some (.slice ao n' c) := blk_cell T3.A 1
      have d2 : w3.cell? ⟨w.heap.size + 1, 2, none⟩ = some (.string sv') := blk_cell T3.A 2
      have d3 : w3.cell? ⟨w.heap.size + 1, 3, none⟩ = some (.string rm') := blk_cell T3.A 3
      go_wp2_with fail
      refine (may3_any p0 p1 ra rn' rc sa sn' sc F T F' T' _ (hPol.below T3.bl)).mono ?_
      rw [Q1.out]
      rintro e w4 ⟨rfl, b4⟩
      have T4 := T3.below b4
      clear b4 T3
      clear c0 c1 c2 c3 d0 d1 d2 d3
      have c0 : w4.cell? ⟨w.heap.size, 0, none⟩ = some (.bool p0) := blk_cell T4.P 0
      have c1 : w4.cell? ⟨w.heap.size, 1, none⟩ = some (.bool p1) := blk_cell T4.P 1
      have c2 : w4.cell? ⟨w.heap.size, 2, none⟩ = some (.slice ra rn' rc) := blk_cell T4.P 2
      have c3 : w4.cell? ⟨w.heap.size, 3, none⟩ = some (.slice sa sn' sc) := blk_cell T4.P 3
      have d0 : w4.cell? ⟨w.heap.size + 1, 0, none⟩ = some (.string p') := blk_cell T4.A 0
      have d1 : w4.cell? ⟨w.heap.size + 1, 1, none⟩ = some (.slice ao n' c) := blk_cell T4.A 1
      have d2 : w4.cell? ⟨w.heap.size + 1, 2, none⟩ = some (.string sv') := blk_cell T4.A 2
      have d3 : w4.cell? ⟨w.heap.size + 1, 3, none⟩ = some (.string rm') := blk_cell T4.A 3
      go_wp2_with fail
      refine (awake_any _).mono ?_
      rintro e wz ⟨rfl, bz⟩
      go_wp2
      go_ret
      exact ⟨rfl, T4.bl.trans (bz.mono T4.bl.size)⟩
    · have Q1 := hidI q1; clear q1
      cases q2 : maySB p' n' sv' rm' R
      · have Q2 := hidI q2; clear q2
        go_wp2_with fail
        refine (ram_no p0 p1 ra rn' rc sa sn' sc F T F' T' p' ao n' c sv' rm' R _ (hPol.below T0.bl) (by omega) (by omega) (hI.below T0.bl) 8 (by rw [Q1.out, Q2.out]; rfl) rfl).mono ?_
        rintro e w1 ⟨rfl, b1⟩
        have T1 := T0.below b1
        clear b1 T0
        clear c0 c1 c2 c3 d0 d1 d2 d3
        have c0 : w1.cell? ⟨w.heap.size, 0, none⟩ = some (.bool p0) := blk_cell T1.P 0
        have c1 : w1.cell? ⟨w.heap.size, 1, none⟩ = some (.bool p1) := blk_cell T1.P 1
        have c2 : w1.cell? ⟨w.heap.size, 2, none⟩ = some (.slice ra rn' rc) := blk_cell T1.P 2
        have c3 : w1.cell? ⟨w.heap.size, 3, none⟩ = some (.slice sa sn' sc) := blk_cell T1.P 3
        have d0 : w1.cell? ⟨w.heap.size + 1, 0, none⟩ = some (.string p') := blk_cell T1.A 0
        have d1 : w1.cell? ⟨w.heap.size + 1, 1, none⟩ = some (.slice ao n' c) := blk_cell T1.A 1
        have d2 : w1.cell? ⟨w.heap.size + 1, 2, none⟩ = some (.string sv') := blk_cell T1.A 2
        have d3 : w1.cell? ⟨w.heap.size + 1, 3, none⟩ = some (.string rm') := blk_cell T1.A 3
        go_wp2_with fail
        refine (save_no p0 p1 ra rn' rc sa sn' sc F T F' T' p' ao n' c sv' rm' R _ (hPol.below T1.bl) (by omega) (by omega) (hI.below T1.bl) 8 (by rw [Q1.out, Q2.out]; rfl) rfl).mono ?_
        rintro e w2 ⟨rfl, b2⟩
        have T2 := T1.below b2
        clear b2 T1
        clear c0 c1 c2 c3 d0 d1 d2 d3
        have c0 : w2.cell? ⟨w.heap.size, 0, none⟩ = some (.bool p0) := blk_cell T2.P 0
        have c1 : w2.cell? ⟨w.heap.size, 1, none⟩ = some (.bool p1) := blk_cell T2.P 1
        have c2 : w2.cell? ⟨w.heap.size, 2, none⟩ = some (.slice ra rn' rc) := blk_cell T2.P 2
        have c3 : w2.cell? ⟨w.heap.size, 3, none⟩ = some (.slice sa sn' sc) := blk_cell T2.P 3
        have d0 : w2.cell? ⟨w.heap.size + 1, 0, none⟩ = some (.string p') := blk_cell T2.A 0
        have d1 : w2.cell? ⟨w.heap.size + 1, 1, none⟩ = some (.slice ao n' c) := blk_cell T2.A 1
        have d2 : w2.cell? ⟨w.heap.size + 1, 2, none⟩ = some (.string sv') := blk_cell T2.A 2
        have d3 : w2.cell? ⟨w.heap.size + 1, 3, none⟩ = some (.string rm') := blk_cell T2.A 3
        go_wp2_with fail
        refine (may3_any p0 p1 ra rn' rc sa sn' sc F T F' T' _ (hPol.below T2.bl)).mono ?_
        rw [Q1.out]
        rintro e w3 ⟨rfl, b3⟩
        have T3 := T2.below b3
        clear b3 T2
        clear c0 c1 c2 c3 d0 d1 d2 d3
        have c0 : w3.cell? ⟨w.heap.size, 0, none⟩ = some (.bool p0) := blk_cell T3.P 0
        have c1 : w3.cell? ⟨w.heap.size, 1, none⟩ = some (.bool p1) := blk_cell T3.P 1
        have c2 : w3.cell? ⟨w.heap.size, 2, none⟩ = some (.slice ra rn' rc) := blk_cell T3.P 2
        have c3 : w3.cell? ⟨w.heap.size, 3, none⟩ = some (.slice sa sn' sc) := blk_cell T3.P 3
        have d0 : w3.cell? ⟨w.heap.size + 1, 0, none⟩ = some (.string p') := blk_cell T3.A 0
        have d1 : w3.cell? ⟨w.heap.size + 1, 1, none⟩ = some (.slice ao n' c) := blk_cell T3.A 1
        have d2 : w3.cell? ⟨w.heap.size + 1, 2, none⟩ = some (.string sv') := blk_cell T3.A 2
        have d3 : w3.cell? ⟨w.heap.size + 1, 3, none⟩ = some (.string rm') := blk_cell T3.A 3
        go_wp2_with fail
        refine (smayr_any p' ao n' c sv' rm' R _ (by omega) (by omega) (hI.below T3.bl) hIR).mono ?_
        rw [Q2.out]
        rintro e w4 ⟨rfl, b4⟩
        have T4 := T3.below b4
        clear b4 T3
        clear c0 c1 c2 c3 d0 d1 d2 d3
        have c0 : w4.cell? ⟨w.heap.size, 0, none⟩ = some (.bool p0) := blk_cell T4.P 0
        have c1 : w4.cell? ⟨w.heap.size, 1, none⟩ = some (.bool p1) := blk_cell T4.P 1
        have c2 : w4.cell? ⟨w.heap.size, 2, none⟩ = some (.slice ra rn' rc) := blk_cell T4.P 2
        have c3 : w4.cell? ⟨w.heap.size, 3, none⟩ = some (.slice sa sn' sc) := blk_cell T4.P 3
        have d0 : w4.cell? ⟨w.heap.size + 1, 0, none⟩ = some (.string p') := blk_cell T4.A 0
        have d1 : w4.cell? ⟨w.heap.size + 1, 1, none⟩ = some (.slice ao n' c) := blk_cell T4.A 1
        have d2 : w4.cell? ⟨w.heap.size + 1, 2, none⟩ = some (.string sv') := blk_cell T4.A 2
        have d3 : w4.cell? ⟨w.heap.size + 1, 3, none⟩ = some (.string rm') := blk_cell T4.A 3
        go_wp2_with fail
        refine (may3_any p0 p1 ra rn' rc sa sn' sc F T F' T' _ (hPol.below T4.bl)).mono ?_
        rw [Q1.out]
        rintro e w5 ⟨rfl, b5⟩
        have T5 := T4.below b5
        clear b5 T4
        clear c0 c1 c2 c3 d0 d1 d2 d3
        have c0 : w5.cell? ⟨w.heap.size, 0, none⟩ = some (.bool p0) := blk_cell T5.P 0
        have c1 : w5.cell? ⟨w.heap.size, 1, none⟩ = some (.bool p1) := blk_cell T5.P 1
        have c2 : w5.cell? ⟨w.heap.size, 2, none⟩ = some (.slice ra rn' rc) := blk_cell T5.P 2
        have c3 : w5.cell? ⟨w.heap.size, 3, none⟩ = some (.slice sa sn' sc) := blk_cell T5.P 3
        have d0 : w5.cell? ⟨w.heap.size + 1, 0, none⟩ = some (.string p') := blk_cell T5.A 0
        have d1 : w5.cell? ⟨w.heap.size + 1, 1, none⟩ = some (.slice ao n' c) := blk_cell T5.A 1
        have d2 : w5.cell? ⟨w.heap.size + 1, 2, none⟩ = some (.string sv') := blk_cell T5.A 2
        have d3 : w5.cell? ⟨w.heap.size + 1, 3, none⟩ = some (.string rm') := blk_cell T5.A 3
        go_wp2_with fail
        refine (awake_any _).mono ?_
        rintro e wz ⟨rfl, bz⟩
        go_wp2
        go_ret
        exact ⟨rfl, T5.bl.trans (bz.mono T5.bl.size)⟩
      · have Q2 := hidI q2; clear q2
        go_wp2_with fail
        refine (ram_yes p0 p1 ra rn' rc sa sn' sc F T F' T' p' ao n' c sv' rm' R _ (hPol.below T0.bl) (by omega) (by omega) (hI.below T0.bl) Q1.out Q2.out).mono ?_
        rintro e w1 ⟨g1, rfl, hg1, Og1, b1⟩
        have T1 := T0.below b1
        clear b1 T0
        clear c0 c1 c2 c3 d0 d1 d2 d3
        have c0 : w1.cell? ⟨w.heap.size, 0, none⟩ = some (.bool p0) := blk_cell T1.P 0
        have c1 : w1.cell? ⟨w.heap.size, 1, none⟩ = some (.bool p1) := blk_cell T1.P 1
        have c2 : w1.cell? ⟨w.heap.size, 2, none⟩ = some (.slice ra rn' rc) := blk_cell T1.P 2
        have c3 : w1.cell? ⟨w.heap.size, 3, none⟩ = some (.slice sa sn' sc) := blk_cell T1.P 3
        have d0 : w1.cell? ⟨w.heap.size + 1, 0, none⟩ = some (.string p') := blk_cell T1.A 0
        have d1 : w1.cell? ⟨w.heap.size + 1, 1, none⟩ = some (.slice ao n' c) := blk_cell T1.A 1
        have d2 : w1.cell? ⟨w.heap.size + 1, 2, none⟩ = some (.string sv') := blk_cell T1.A 2
        have d3 : w1.cell? ⟨w.heap.size + 1, 3, none⟩ = some (.string rm') := blk_cell T1.A 3
        go_wp2_with fail
        refine (save_yes p0 p1 ra rn' rc sa sn' sc F T F' T' p' ao n' c sv' rm' R _ (hPol.below T1.bl) (by omega) (by omega) (hI.below T1.bl) Q1.out Q2.out).mono ?_
        rintro e w2 ⟨g2, rfl, hg2, Og2, b2⟩
        replace Og1 := Og1.below b2
        have T2 := T1.below b2
        clear b2 T1
        clear c0 c1 c2 c3 d0 d1 d2 d3
        have c0 : w2.cell? ⟨w.heap.size, 0, none⟩ = some (.bool p0) := blk_cell T2.P 0
        have c1 : w2.cell? ⟨w.heap.size, 1, none⟩ = some (.bool p1) := blk_cell T2.P 1
        have c2 : w2.cell? ⟨w.heap.size, 2, none⟩ = some (.slice ra rn' rc) := blk_cell T2.P 2
        have c3 : w2.cell? ⟨w.heap.size, 3, none⟩ = some (.slice sa sn' sc) := blk_cell T2.P 3
        have d0 : w2.cell? ⟨w.heap.size + 1, 0, none⟩ = some (.string p') := blk_cell T2.A 0
        have d1 : w2.cell? ⟨w.heap.size + 1, 1, none⟩ = some (.slice ao n' c) := blk_cell T2.A 1
        have d2 : w2.cell? ⟨w.heap.size + 1, 2, none⟩ = some (.string sv') := blk_cell T2.A 2
        have d3 : w2.cell? ⟨w.heap.size + 1, 3, none⟩ = some (.string rm') := blk_cell T2.A 3
        go_wp2_with fail
        refine (may3_any p0 p1 ra rn' rc sa sn' sc F T F' T' _ (hPol.below T2.bl)).mono ?_
        rw [Q1.out]
        rintro e w3 ⟨rfl, b3⟩
        replace Og1 := Og1.below b3
        replace Og2 := Og2.below b3
        have T3 := T2.below b3
        clear b3 T2
        clear c0 c1 c2 c3 d0 d1 d2 d3
        have c0 : w3.cell? ⟨w.heap.size, 0, none⟩ = some (.bool p0) := blk_cell T3.P 0
        have c1 : w3.cell? ⟨w.heap.size, 1, none⟩ = some (.bool p1) := blk_cell T3.P 1
        have c2 : w3.cell? ⟨w.heap.size, 2, none⟩ = some (.slice ra rn' rc) := blk_cell T3.P 2
        have c3 : w3.cell? ⟨w.heap.size, 3, none⟩ = some (.slice sa sn' sc) := blk_cell T3.P 3
        have d0 : w3.cell? ⟨w.heap.size + 1, 0, none⟩ = some (.string p') := blk_cell T3.A 0
        have d1 : w3.cell? ⟨w.heap.size + 1, 1, none⟩ = some (.slice ao n' c) := blk_cell T3.A 1
        have d2 : w3.cell? ⟨w.heap.size + 1, 2, none⟩ = some (.string sv') := blk_cell T3.A 2
        have d3 : w3.cell? ⟨w.heap.size + 1, 3, none⟩ = some (.string rm') := blk_cell T3.A 3
        go_wp2_with fail
        refine (smayr_any p' ao n' c sv' rm' R _ (by omega) (by omega) (hI.below T3.bl) hIR).mono ?_
        rw [Q2.out]
        rintro e w4 ⟨rfl, b4⟩
        replace Og1 := Og1.below b4
        replace Og2 := Og2.below b4
        have T4 := T3.below b4
        clear b4 T3
        clear c0 c1 c2 c3 d0 d1 d2 d3
        have c0 : w4.cell? ⟨w.heap.size, 0, none⟩ = some (.bool p0) := blk_cell T4.P 0
        have c1 : w4.cell? ⟨w.heap.size, 1, none⟩ = some (.bool p1) := blk_cell T4.P 1
        have c2 : w4.cell? ⟨w.heap.size, 2, none⟩ = some (.slice ra rn' rc) := blk_cell T4.P 2
        have c3 : w4.cell? ⟨w.heap.size, 3, none⟩ = some (.slice sa sn' sc) := blk_cell T4.P 3
        have d0 : w4.cell? ⟨w.heap.size + 1, 0, none⟩ = some (.string p') := blk_cell T4.A 0
        have d1 : w4.cell? ⟨w.heap.size + 1, 1, none⟩ = some (.slice ao n' c) := blk_cell T4.A 1
        have d2 : w4.cell? ⟨w.heap.size + 1, 2, none⟩ = some (.string sv') := blk_cell T4.A 2
        have d3 : w4.cell? ⟨w.heap.size + 1, 3, none⟩ = some (.string rm') := blk_cell T4.A 3
        go_wp2_with fail
        refine (rmake_any 2048 rm' ra rn' rc F T _ (by omega) (by omega) (by have := hPol.rl; have := hPol.sl; omega) (hPol.below T4.bl).r).mono ?_
        rintro e w5 ⟨rfl, Og3, b5⟩
        obtain ⟨g3, hg3⟩ : ∃ g3, g3 = w4.heap.size := ⟨_, rfl⟩
        rw [← hg3] at Og3 ⊢
        clear hg3
        replace Og1 := Og1.below b5
        replace Og2 := Og2.below b5
        have T5 := T4.below b5
        clear b5 T4
        clear c0 c1 c2 c3 d0 d1 d2 d3
        have c0 : w5.cell? ⟨w.heap.size, 0, none⟩ = some (.bool p0) := blk_cell T5.P 0
        have c1 : w5.cell? ⟨w.heap.size, 1, none⟩ = some (.bool p1) := blk_cell T5.P 1
        have c2 : w5.cell? ⟨w.heap.size, 2, none⟩ = some (.slice ra rn' rc) := blk_cell T5.P 2
        have c3 : w5.cell? ⟨w.heap.size, 3, none⟩ = some (.slice sa sn' sc) := blk_cell T5.P 3
        have d0 : w5.cell? ⟨w.heap.size + 1, 0, none⟩ = some (.string p') := blk_cell T5.A 0
        have d1 : w5.cell? ⟨w.heap.size + 1, 1, none⟩ = some (.slice ao n' c) := blk_cell T5.A 1
        have d2 : w5.cell? ⟨w.heap.size + 1, 2, none⟩ = some (.string sv') := blk_cell T5.A 2
        have d3 : w5.cell? ⟨w.heap.size + 1, 3, none⟩ = some (.string rm') := blk_cell T5.A 3
        go_wp2_with fail
        refine (bsame_some g1 g3 2048 2048 2048 _ _ _ _ _ (by omega) (fun i hi j hj => Og1.cell hi hj) (fun i hi j hj => Og3.cell hi hj) (fun i hi => ⟨rfl, rfl⟩)).mono ?_
        rintro e w6 ⟨rfl, b6⟩
        replace Og2 := Og2.below b6
        have T6 := T5.below b6
        clear b6 T5
        clear c0 c1 c2 c3 d0 d1 d2 d3
        have c0 : w6.cell? ⟨w.heap.size, 0, none⟩ = some (.bool p0) := blk_cell T6.P 0
        have c1 : w6.cell? ⟨w.heap.size, 1, none⟩ = some (.bool p1) := blk_cell T6.P 1
        have c2 : w6.cell? ⟨w.heap.size, 2, none⟩ = some (.slice ra rn' rc) := blk_cell T6.P 2
        have c3 : w6.cell? ⟨w.heap.size, 3, none⟩ = some (.slice sa sn' sc) := blk_cell T6.P 3
        have d0 : w6.cell? ⟨w.heap.size + 1, 0, none⟩ = some (.string p') := blk_cell T6.A 0
        have d1 : w6.cell? ⟨w.heap.size + 1, 1, none⟩ = some (.slice ao n' c) := blk_cell T6.A 1
        have d2 : w6.cell? ⟨w.heap.size + 1, 2, none⟩ = some (.string sv') := blk_cell T6.A 2
        have d3 : w6.cell? ⟨w.heap.size + 1, 3, none⟩ = some (.string rm') := blk_cell T6.A 3
        go_wp2_with fail
        refine (rmake_any 8192 sv' sa sn' sc F' T' _ (by omega) (by omega) (by have := hPol.rl; have := hPol.sl; omega) (hPol.below T6.bl).s).mono ?_
        rintro e w7 ⟨rfl, Og4, b7⟩
        obtain ⟨g4, hg4⟩ : ∃ g4, g4 = w6.heap.size := ⟨_, rfl⟩
        rw [← hg4] at Og4 ⊢
        clear hg4
        replace Og2 := Og2.below b7
        have T7 := T6.below b7
        clear b7 T6
        clear c0 c1 c2 c3 d0 d1 d2 d3
        have c0 : w7.cell? ⟨w.heap.size, 0, none⟩ = some (.bool p0) := blk_cell T7.P 0
        have c1 : w7.cell? ⟨w.heap.size, 1, none⟩ = some (.bool p1) := blk_cell T7.P 1
        have c2 : w7.cell? ⟨w.heap.size, 2, none⟩ = some (.slice ra rn' rc) := blk_cell T7.P 2
        have c3 : w7.cell? ⟨w.heap.size, 3, none⟩ = some (.slice sa sn' sc) := blk_cell T7.P 3
        have d0 : w7.cell? ⟨w.heap.size + 1, 0, none⟩ = some (.string p') := blk_cell T7.A 0
        have d1 : w7.cell? ⟨w.heap.size + 1, 1, none⟩ = some (.slice ao n' c) := blk_cell T7.A 1
        have d2 : w7.cell? ⟨w.heap.size + 1, 2, none⟩ = some (.string sv') := blk_cell T7.A 2
        have d3 : w7.cell? ⟨w.heap.size + 1, 3, none⟩ = some (.string rm') := blk_cell T7.A 3
        go_wp2_with fail
        refine (bsame_some g2 g4 8192 8192 8192 _ _ _ _ _ (by omega) (fun i hi j hj => Og2.cell hi hj) (fun i hi j hj => Og4.cell hi hj) (fun i hi => ⟨rfl, rfl⟩)).mono ?_
        rintro e w8 ⟨rfl, b8⟩
        have T8 := T7.below b8
        clear b8 T7
        clear c0 c1 c2 c3 d0 d1 d2 d3
        have c0 : w8.cell? ⟨w.heap.size, 0, none⟩ = some (.bool p0) := blk_cell T8.P 0
        have c1 : w8.cell? ⟨w.heap.size, 1, none⟩ = some (.bool p1) := blk_cell T8.P 1
        have c2 : w8.cell? ⟨w.heap.size, 2, none⟩ = some (.slice ra rn' rc) := blk_cell T8.P 2
        have c3 : w8.cell? ⟨w.heap.size, 3, none⟩ = some (.slice sa sn' sc) := blk_cell T8.P 3
        have d0 : w8.cell? ⟨w.heap.size + 1, 0, none⟩ = some (.string p') := blk_cell T8.A 0
        have d1 : w8.cell? ⟨w.heap.size + 1, 1, none⟩ = some (.slice ao n' c) := blk_cell T8.A 1
        have d2 : w8.cell? ⟨w.heap.size + 1, 2, none⟩ = some (.string sv') := blk_cell T8.A 2
        have d3 : w8.cell? ⟨w.heap.size + 1, 3, none⟩ = some (.string rm') := blk_cell T8.A 3
        go_wp2_with fail
        refine (awake_any _).mono ?_
        rintro e wz ⟨rfl, bz⟩
        go_wp2
        go_ret
        exact ⟨rfl, T8.bl.trans (bz.mono T8.bl.size)⟩
end Go.Proofs.Ytkhjfcbloahjeaa
