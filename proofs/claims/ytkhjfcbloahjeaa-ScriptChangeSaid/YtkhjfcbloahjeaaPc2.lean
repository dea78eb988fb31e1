import Derived.Test.YtkhjfcbloahjeaaPc1
import Derived.Laws.BytesArg
namespace Go.Proofs.Ytkhjfcbloahjeaa
open Go.RowKit Go.Sx
theorem conv1 (w : World) (g : Nat) (v : Int) (h : w.cell? ⟨g, 0, none⟩ = some (.int .u8 v)) : (convert 43 9 (.slice (some ⟨g, 0, none⟩) 1 1)).run Try.prog w = .ok (.string (strOfNums [v])) w :=
  run_convert_bytes_arg (P := Try.prog) w 43 5 Try.underlying43 Try.underlying5 g 0 1 1 [v] rfl (fun i hi => by
    obtain rfl : i = 0 := by omega
    exact h) 9 Try.underlying9
theorem fr_sz {x y : ByteArray} (h : y.size = x.size) : fr y = fr x := by unfold fr; rw [h]
theorem alk_none {p0 p1 : Bool} {rn sn : Nat} {F T F' T' : Nat → Int} {p : ByteArray} {n : Nat} {sv rm : ByteArray} {R : Nat → Int} (h1 : mayPB rn sn F T F' T' = true) (h2 : maySB p n sv rm R = true) : alkB p0 p1 rn sn F T F' T' p n sv rm R p n sv rm R = true := by
  unfold alkB; rw [h1, h2, low_self, low_self, low_self, eqR_self]; simp
theorem same_none {p : ByteArray} {n : Nat} {sv rm : ByteArray} {R : Nat → Int} : sameB p n sv rm R p n sv rm R = true := by
  unfold sameB; rw [eqS_self, eqS_self, eqS_self, eqR_self]; rfl
theorem may_p {p y : ByteArray} {n : Nat} {sv rm : ByteArray} {R : Nat → Int} (h : y.size = p.size) : maySB y n sv rm R = maySB p n sv rm R := by unfold maySB; rw [fr_sz h, h]
theorem may_v {p : ByteArray} {n : Nat} {sv y rm : ByteArray} {R : Nat → Int} (h : y.size = sv.size) : maySB p n y rm R = maySB p n sv rm R := by unfold maySB; rw [h]
theorem may_m {p : ByteArray} {n : Nat} {sv rm y : ByteArray} {R : Nat → Int} (h : y.size = rm.size) : maySB p n sv y R = maySB p n sv rm R := by unfold maySB; rw [h]
theorem alk_p {p0 p1 : Bool} {rn sn : Nat} {F T F' T' : Nat → Int} {p y : ByteArray} {n : Nat} {sv rm : ByteArray} {R : Nat → Int} {k : Nat} (h1 : mayPB rn sn F T F' T' = true) (h2 : maySB p n sv rm R = true) (h : Chg p y k) :
    alkB p0 p1 rn sn F T F' T' p n sv rm R y n sv rm R = (secB p0 p1 rn sn F T F' T' 0 ((k : Int) % 2) || sameB p n sv rm R y n sv rm R) := by
  unfold alkB sameB
  rw [may_p h.sz, fr_sz h.sz, h1, h2, low_self, low_self, eqR_self, low_chg h, eqS_chg h, eqS_self, eqS_self]
  simp [Bool.or_comm]
theorem alk_m {p0 p1 : Bool} {rn sn : Nat} {F T F' T' : Nat → Int} {p : ByteArray} {n : Nat} {sv rm y : ByteArray} {R : Nat → Int} {k : Nat} (h1 : mayPB rn sn F T F' T' = true) (h2 : maySB p n sv rm R = true) (h : Chg rm y k) :
    alkB p0 p1 rn sn F T F' T' p n sv rm R p n sv y R = (secB p0 p1 rn sn F T F' T' 1 (k : Int) || sameB p n sv rm R p n sv y R) := by
  unfold alkB sameB
  rw [may_m h.sz, h1, h2, low_self, low_self, eqR_self, low_chg h, eqS_chg h, eqS_self, eqS_self]
  simp [Bool.or_comm]
theorem alk_v {p0 p1 : Bool} {rn sn : Nat} {F T F' T' : Nat → Int} {p : ByteArray} {n : Nat} {sv rm y : ByteArray} {R : Nat → Int} {k : Nat} (h1 : mayPB rn sn F T F' T' = true) (h2 : maySB p n sv rm R = true) (h : Chg sv y k) :
    alkB p0 p1 rn sn F T F' T' p n sv rm R p n y rm R = (secB p0 p1 rn sn F T F' T' 2 (k : Int) || sameB p n sv rm R p n y rm R) := by
  unfold alkB sameB
  rw [may_v h.sz, h1, h2, low_self, low_self, eqR_self, low_chg h, eqS_chg h, eqS_self, eqS_self]
  simp [Bool.or_comm]
/-- The law's arguments, in blocks of their own. -/
structure Ch (w wk : World) (p0 p1 : Bool) (ra : Option Addr) (rn rc : Nat) (sa : Option Addr) (sn sc : Nat) (p : ByteArray) (ao : Option Addr) (n c : Nat) (sv rm : ByteArray) (which at_ by_ : Int) : Prop where
  P : PoAt wk w.heap.size p0 p1 ra rn rc sa sn sc
  A : ScAt wk (w.heap.size + 1) p ao n c sv rm
  Q : wk.heap[w.heap.size + 1 + 1]? = some (.cells #[.int .u8 which, .int .u16 at_, .int .u8 by_] 42 (0, 0))
  bl : Below w.heap.size w wk
theorem Ch.below {w wk wl : World} {p0 p1 : Bool} {ra : Option Addr} {rn rc : Nat} {sa : Option Addr} {sn sc : Nat} {p : ByteArray} {ao : Option Addr} {n c : Nat} {sv rm : ByteArray} {which at_ by_ : Int} (h : Ch w wk p0 p1 ra rn rc sa sn sc p ao n c sv rm which at_ by_) (hb : Below wk.heap.size wk wl) : Ch w wl p0 p1 ra rn rc sa sn sc p ao n c sv rm which at_ by_ :=
  ⟨h.P.below hb, h.A.below hb, (hb.block _ (blk_lt h.Q)).trans h.Q, h.bl.trans (hb.mono h.bl.size)⟩
theorem Ch.new (w : World) (p0 p1 : Bool) (ra : Option Addr) (rn rc : Nat) (sa : Option Addr) (sn sc : Nat) (p : ByteArray) (ao : Option Addr) (n c : Nat) (sv rm : ByteArray) (which at_ by_ : Int) :
    Ch w (((w.alloc (.cells #[.bool p0, .bool p1, .slice ra rn rc, .slice sa sn sc] 25)).alloc (.cells #[.string p, .slice ao n c, .string sv, .string rm] 28)).alloc (.cells #[.int .u8 which, .int .u16 at_, .int .u8 by_] 42)) p0 p1 ra rn rc sa sn sc p ao n c sv rm which at_ by_ :=
  ⟨blk_alloc (blk_alloc (blk_new _ _) _) _, blk_alloc (blk_new' _ (by simp)) _, blk_new' _ (by simp), (((Below.refl _ _).alloc (Nat.le_refl _) _).alloc (by simp) _).alloc (by simp; omega) _⟩
theorem Ch.put {w wk : World} {p0 p1 : Bool} {ra : Option Addr} {rn rc : Nat} {sa : Option Addr} {sn sc : Nat} {p : ByteArray} {ao : Option Addr} {n c : Nat} {sv rm : ByteArray} {which at_ by_ : Int} (h : Ch w wk p0 p1 ra rn rc sa sn sc p ao n c sv rm which at_ by_) {g : Nat} (hg : w.heap.size + 1 + 1 < g) (j : Nat) (v : Value) : Ch w (wk.setCell ⟨g, j, none⟩ v) p0 p1 ra rn rc sa sn sc p ao n c sv rm which at_ by_ :=
  ⟨(blk_other (by show g ≠ _; omega) _).trans h.P, (blk_other (by show g ≠ _; omega) _).trans h.A, (blk_other (by show g ≠ _; omega) _).trans h.Q, h.bl.setCell (p := ⟨g, j, none⟩) (by show _ ≤ g; omega) _⟩
theorem PoAt.set {w : World} {g : Nat} {p0 p1 q0 q1 : Bool} {ra ra' sa sa' : Option Addr} {rn rc sn sc rn' rc' sn' sc' : Nat} (h : PoAt w g p0 p1 ra rn rc sa sn sc) :
    PoAt ((((w.setCell ⟨g, 0, none⟩ (.bool q0)).setCell ⟨g, 1, none⟩ (.bool q1)).setCell ⟨g, 2, none⟩ (.slice ra' rn' rc')).setCell ⟨g, 3, none⟩ (.slice sa' sn' sc')) g q0 q1 ra' rn' rc' sa' sn' sc' := by
  have := blk_set (blk_set (blk_set (blk_set h 0 (.bool q0)) 1 (.bool q1)) 2 (.slice ra' rn' rc')) 3 (.slice sa' sn' sc')
  simpa [PoAt] using this
theorem o4 {w : World} {g B : Nat} (h : B ≠ g) (v0 v1 v2 v3 : Value) : ((((w.setCell ⟨B, 0, none⟩ v0).setCell ⟨B, 1, none⟩ v1).setCell ⟨B, 2, none⟩ v2).setCell ⟨B, 3, none⟩ v3).heap[g]? = w.heap[g]? :=
  (blk_other (by exact h) _).trans ((blk_other (by exact h) _).trans ((blk_other (by exact h) _).trans (blk_other (by exact h) _)))
theorem Ch.few {w wk : World} {p0 p1 : Bool} {ra : Option Addr} {rn rc : Nat} {sa : Option Addr} {sn sc : Nat} {p : ByteArray} {ao : Option Addr} {n c : Nat} {sv rm : ByteArray} {which at_ by_ : Int} (h : Ch w wk p0 p1 ra rn rc sa sn sc p ao n c sv rm which at_ by_) {rn' sn' : Nat} {p' : ByteArray} {n' : Nat} {sv' rm' : ByteArray} :
    Ch w ((((((((wk.setCell ⟨w.heap.size, 0, none⟩ (.bool p0)).setCell ⟨w.heap.size, 1, none⟩ (.bool p1)).setCell ⟨w.heap.size, 2, none⟩ (.slice ra rn' rc)).setCell ⟨w.heap.size, 3, none⟩ (.slice sa sn' sc)).setCell ⟨w.heap.size + 1, 0, none⟩ (.string p')).setCell ⟨w.heap.size + 1, 1, none⟩ (.slice ao n' c)).setCell ⟨w.heap.size + 1, 2, none⟩ (.string sv')).setCell ⟨w.heap.size + 1, 3, none⟩ (.string rm')) p0 p1 ra rn' rc sa sn' sc p' ao n' c sv' rm' which at_ by_ := by
  have hA : ScAt ((((wk.setCell ⟨w.heap.size, 0, none⟩ (.bool p0)).setCell ⟨w.heap.size, 1, none⟩ (.bool p1)).setCell ⟨w.heap.size, 2, none⟩ (.slice ra rn' rc)).setCell ⟨w.heap.size, 3, none⟩ (.slice sa sn' sc)) (w.heap.size + 1) p ao n c sv rm := (o4 (by omega) _ _ _ _).trans h.A
  refine ⟨(o4 (by omega) _ _ _ _).trans h.P.set, hA.set, (o4 (by omega) _ _ _ _).trans ((o4 (by omega) _ _ _ _).trans h.Q), b4 (b4 h.bl (Nat.le_refl _) _ _ _ _) (by omega) _ _ _ _⟩
set_option maxRecDepth 100000 in
set_option maxHeartbeats 6400000 in
theorem change_law (p0 p1 : Bool) (ra : Option Addr) (rn rc : Nat) (sa : Option Addr) (sn sc : Nat) (F T F' T' : Nat → Int) (p : ByteArray) (ao : Option Addr) (n c : Nat) (sv rm : ByteArray) (R : Nat → Int) (which at_ by_ : Int) (w : World)
    (hrc : rn ≤ rc) (hsc : sn ≤ sc) (hc : n ≤ c) (hRa : RgAt w ra rn F T) (hSa : RgAt w sa sn F' T') (hA : IntsAt w ao n R) (hR : IntsR R n) (hw0 : 0 ≤ which) (hw1 : which ≤ 255) (ha0 : 0 ≤ at_) (ha1 : at_ ≤ 65535) :
    Calls Try.prog 4 #[poV p0 p1 ra rn rc sa sn sc, scV p ao n c sv rm, .agg #[.int .u8 which, .int .u16 at_, .int .u8 by_]] w fun e w' => e = .returned (.bool true) ∧ Below w.heap.size w w' := by
  have Tk := (Ch.new w p0 p1 ra rn rc sa sn sc p ao n c sv rm which at_ by_).below (Below.refl _ _).drew
  go_enter Try.func4, Try.ntmps4
  go_upto_region 1 with fail
  go_cut [6] (fun z wx => z = .bool false ∧ ∃ p' n' sv' rm', p'.size ≤ 1201 ∧ n' ≤ 20 ∧ n' ≤ n ∧ sv'.size ≤ 8193 ∧ rm'.size ≤ 2049 ∧ Ch w wx p0 p1 ra (min rn 20) rc sa (min sn 20) sc p' ao n' c sv' rm' which at_ by_)
  case first =>
    have c0 : World.cell? _ ⟨w.heap.size, 0, none⟩ = some (.bool p0) := blk_cell Tk.P 0
    have f0 : World.frozen? _ ⟨w.heap.size, 0, none⟩ = false := blk_free Tk.P 0
    have c1 : World.cell? _ ⟨w.heap.size, 1, none⟩ = some (.bool p1) := blk_cell Tk.P 1
    have f1 : World.frozen? _ ⟨w.heap.size, 1, none⟩ = false := blk_free Tk.P 1
    have c2 : World.cell? _ ⟨w.heap.size, 2, none⟩ = some (.slice ra rn rc) := blk_cell Tk.P 2
    have f2 : World.frozen? _ ⟨w.heap.size, 2, none⟩ = false := blk_free Tk.P 2
    have c3 : World.cell? _ ⟨w.heap.size, 3, none⟩ = some (.slice sa sn sc) := blk_cell Tk.P 3
    have f3 : World.frozen? _ ⟨w.heap.size, 3, none⟩ = false := blk_free Tk.P 3
    have d0 : World.cell? _ ⟨w.heap.size + 1, 0, none⟩ = some (.string p) := blk_cell Tk.A 0
    have g0 : World.frozen? _ ⟨w.heap.size + 1, 0, none⟩ = false := blk_free Tk.A 0
    have d1 : World.cell? _ ⟨w.heap.size + 1, 1, none⟩ = some (.slice ao n c) := blk_cell Tk.A 1
    have g1 : World.frozen? _ ⟨w.heap.size + 1, 1, none⟩ = false := blk_free Tk.A 1
    have d2 : World.cell? _ ⟨w.heap.size + 1, 2, none⟩ = some (.string sv) := blk_cell Tk.A 2
    have g2 : World.frozen? _ ⟨w.heap.size + 1, 2, none⟩ = false := blk_free Tk.A 2
    have d3 : World.cell? _ ⟨w.heap.size + 1, 3, none⟩ = some (.string rm) := blk_cell Tk.A 3
    have g3 : World.frozen? _ ⟨w.heap.size + 1, 3, none⟩ = false := blk_free Tk.A 3
    refine wp_region_noPanic ?_
    refine wp_region_held_drew (S := (fun _ => True)) (by kernel_rfl) trivial (fun hHeld => ?_)
    refine wpAnyH_ready (rs := [0, 2]) (by kernel_rfl) (by simp) ?_
    refine AllReadyH.cons (o := ⟨_, _, _, _, _, _⟩) rfl (fun K hK => ?_) (AllReadyH.cons (o := ⟨_, _, _, _, _, _⟩) rfl (fun K hK => ?_) (AllReadyH.nil))
    · go_simp
      refine hK.out _ _ trivial (fun hHeld => ?_)
      clear hK K
      refine wpAnyH_ready (rs := [1, 2]) (by kernel_rfl) (by simp) ?_
      refine AllReadyH.cons (o := ⟨_, _, _, _, _, _⟩) rfl (fun K hK => ?_) (AllReadyH.cons (o := ⟨_, _, _, _, _, _⟩) rfl (fun K hK => ?_) (AllReadyH.nil))
      · go_simp
        refine (few3_any p0 p1 ra rn rc sa sn sc _ hrc hsc).mono ?_
        rintro e wa ⟨rfl, ba⟩
        have T1 := Tk.below ba
        clear Tk ba c0 c1 c2 c3 f0 f1 f2 f3 d0 d1 d2 d3 g0 g1 g2 g3
        rename Ch w wa _ _ _ _ _ _ _ _ _ _ _ _ _ _ _ _ _ => Tk
        have c0 : wa.cell? ⟨w.heap.size, 0, none⟩ = some (.bool p0) := blk_cell Tk.P 0
        have f0 : wa.frozen? ⟨w.heap.size, 0, none⟩ = false := blk_free Tk.P 0
        have c1 : wa.cell? ⟨w.heap.size, 1, none⟩ = some (.bool p1) := blk_cell Tk.P 1
        have f1 : wa.frozen? ⟨w.heap.size, 1, none⟩ = false := blk_free Tk.P 1
        have c2 : wa.cell? ⟨w.heap.size, 2, none⟩ = some (.slice ra rn rc) := blk_cell Tk.P 2
        have f2 : wa.frozen? ⟨w.heap.size, 2, none⟩ = false := blk_free Tk.P 2
        have c3 : wa.cell? ⟨w.heap.size, 3, none⟩ = some (.slice sa sn sc) := blk_cell Tk.P 3
        have f3 : wa.frozen? ⟨w.heap.size, 3, none⟩ = false := blk_free Tk.P 3
        have d0 : wa.cell? ⟨w.heap.size + 1, 0, none⟩ = some (.string p) := blk_cell Tk.A 0
        have g0 : wa.frozen? ⟨w.heap.size + 1, 0, none⟩ = false := blk_free Tk.A 0
        have d1 : wa.cell? ⟨w.heap.size + 1, 1, none⟩ = some (.slice ao n c) := blk_cell Tk.A 1
        have g1 : wa.frozen? ⟨w.heap.size + 1, 1, none⟩ = false := blk_free Tk.A 1
        have d2 : wa.cell? ⟨w.heap.size + 1, 2, none⟩ = some (.string sv) := blk_cell Tk.A 2
        have g2 : wa.frozen? ⟨w.heap.size + 1, 2, none⟩ = false := blk_free Tk.A 2
        have d3 : wa.cell? ⟨w.heap.size + 1, 3, none⟩ = some (.string rm) := blk_cell Tk.A 3
        have g3 : wa.frozen? ⟨w.heap.size + 1, 3, none⟩ = false := blk_free Tk.A 3
        refine hK.out _ _ trivial (fun hHeld => ?_)
        clear hK K
        refine wpAnyH_ready (rs := [2]) (by kernel_rfl) (by simp) ?_
        refine AllReadyH.cons (o := ⟨_, _, _, _, _, _⟩) rfl (fun K hK => ?_) (AllReadyH.nil)
        go_simp
        refine hK.out _ _ trivial (fun hHeld => ?_)
        clear hK K
        refine wpAnyH_ready (rs := [3]) (by kernel_rfl) (by simp) ?_
        refine AllReadyH.cons (o := ⟨_, _, _, _, _, _⟩) rfl (fun K hK => ?_) (AllReadyH.nil)
        go_simp
        refine (few_any p ao n c sv rm _ hc).mono ?_
        rintro e wb ⟨⟨p', n', sv', rm', rfl, hp', hn', hnn', hsv', hrm'⟩, bb⟩
        have T2 := Tk.below bb
        clear Tk bb c0 c1 c2 c3 f0 f1 f2 f3 d0 d1 d2 d3 g0 g1 g2 g3
        rename Ch w wb _ _ _ _ _ _ _ _ _ _ _ _ _ _ _ _ _ => Tk
        have c0 : wb.cell? ⟨w.heap.size, 0, none⟩ = some (.bool p0) := blk_cell Tk.P 0
        have f0 : wb.frozen? ⟨w.heap.size, 0, none⟩ = false := blk_free Tk.P 0
        have c1 : wb.cell? ⟨w.heap.size, 1, none⟩ = some (.bool p1) := blk_cell Tk.P 1
        have f1 : wb.frozen? ⟨w.heap.size, 1, none⟩ = false := blk_free Tk.P 1
        have c2 : wb.cell? ⟨w.heap.size, 2, none⟩ = some (.slice ra rn rc) := blk_cell Tk.P 2
        have f2 : wb.frozen? ⟨w.heap.size, 2, none⟩ = false := blk_free Tk.P 2
        have c3 : wb.cell? ⟨w.heap.size, 3, none⟩ = some (.slice sa sn sc) := blk_cell Tk.P 3
        have f3 : wb.frozen? ⟨w.heap.size, 3, none⟩ = false := blk_free Tk.P 3
        have d0 : wb.cell? ⟨w.heap.size + 1, 0, none⟩ = some (.string p) := blk_cell Tk.A 0
        have g0 : wb.frozen? ⟨w.heap.size + 1, 0, none⟩ = false := blk_free Tk.A 0
        have d1 : wb.cell? ⟨w.heap.size + 1, 1, none⟩ = some (.slice ao n c) := blk_cell Tk.A 1
        have g1 : wb.frozen? ⟨w.heap.size + 1, 1, none⟩ = false := blk_free Tk.A 1
        have d2 : wb.cell? ⟨w.heap.size + 1, 2, none⟩ = some (.string sv) := blk_cell Tk.A 2
        have g2 : wb.frozen? ⟨w.heap.size + 1, 2, none⟩ = false := blk_free Tk.A 2
        have d3 : wb.cell? ⟨w.heap.size + 1, 3, none⟩ = some (.string rm) := blk_cell Tk.A 3
        have g3 : wb.frozen? ⟨w.heap.size + 1, 3, none⟩ = false := blk_free Tk.A 3
        refine hK.out _ _ trivial (fun hHeld => ?_)
        clear hK K
        refine wpAnyH_ready (rs := [4]) (by kernel_rfl) (by simp) ?_
        refine AllReadyH.cons (o := ⟨_, _, _, _, _, _⟩) rfl (fun K hK => ?_) (AllReadyH.nil)
        go_simp
        refine hK.out _ _ trivial (fun hHeld => ?_)
        clear hK K
        refine wpAnyH_ready (rs := [5]) (by kernel_rfl) (by simp) ?_
        refine AllReadyH.cons (o := ⟨_, _, _, _, _, _⟩) rfl (fun K hK => ?_) (AllReadyH.nil)
        go_simp
        refine hK.out _ _ trivial (fun hHeld => ?_)
        clear hK K
        refine wpAnyH_done (by kernel_rfl) (NoPanic.normal ?_) _
        go_wp2_with fail
        go_meet
        exact ⟨rfl, p', n', sv', rm', hp', hn', hnn', hsv', hrm', Tk.few⟩
      · go_simp
        refine hK.out _ _ trivial (fun hHeld => ?_)
        clear hK K
        refine wpAnyH_ready (rs := [1]) (by kernel_rfl) (by simp) ?_
        refine AllReadyH.cons (o := ⟨_, _, _, _, _, _⟩) rfl (fun K hK => ?_) (AllReadyH.nil)
        go_simp
        refine (few3_any p0 p1 ra rn rc sa sn sc _ hrc hsc).mono ?_
        rintro e wa ⟨rfl, ba⟩
        have T1 := Tk.below ba
        clear Tk ba c0 c1 c2 c3 f0 f1 f2 f3 d0 d1 d2 d3 g0 g1 g2 g3
        rename Ch w wa _ _ _ _ _ _ _ _ _ _ _ _ _ _ _ _ _ => Tk
        have c0 : wa.cell? ⟨w.heap.size, 0, none⟩ = some (.bool p0) := blk_cell Tk.P 0
        have f0 : wa.frozen? ⟨w.heap.size, 0, none⟩ = false := blk_free Tk.P 0
        have c1 : wa.cell? ⟨w.heap.size, 1, none⟩ = some (.bool p1) := blk_cell Tk.P 1
        have f1 : wa.frozen? ⟨w.heap.size, 1, none⟩ = false := blk_free Tk.P 1
        have c2 : wa.cell? ⟨w.heap.size, 2, none⟩ = some (.slice ra rn rc) := blk_cell Tk.P 2
        have f2 : wa.frozen? ⟨w.heap.size, 2, none⟩ = false := blk_free Tk.P 2
        have c3 : wa.cell? ⟨w.heap.size, 3, none⟩ = some (.slice sa sn sc) := blk_cell Tk.P 3
        have f3 : wa.frozen? ⟨w.heap.size, 3, none⟩ = false := blk_free Tk.P 3
        have d0 : wa.cell? ⟨w.heap.size + 1, 0, none⟩ = some (.string p) := blk_cell Tk.A 0
        have g0 : wa.frozen? ⟨w.heap.size + 1, 0, none⟩ = false := blk_free Tk.A 0
        have d1 : wa.cell? ⟨w.heap.size + 1, 1, none⟩ = some (.slice ao n c) := blk_cell Tk.A 1
        have g1 : wa.frozen? ⟨w.heap.size + 1, 1, none⟩ = false := blk_free Tk.A 1
        have d2 : wa.cell? ⟨w.heap.size + 1, 2, none⟩ = some (.string sv) := blk_cell Tk.A 2
        have g2 : wa.frozen? ⟨w.heap.size + 1, 2, none⟩ = false := blk_free Tk.A 2
        have d3 : wa.cell? ⟨w.heap.size + 1, 3, none⟩ = some (.string rm) := blk_cell Tk.A 3
        have g3 : wa.frozen? ⟨w.heap.size + 1, 3, none⟩ = false := blk_free Tk.A 3
        refine hK.out _ _ trivial (fun hHeld => ?_)
        clear hK K
        refine wpAnyH_ready (rs := [3]) (by kernel_rfl) (by simp) ?_
        refine AllReadyH.cons (o := ⟨_, _, _, _, _, _⟩) rfl (fun K hK => ?_) (AllReadyH.nil)
        go_simp
        refine (few_any p ao n c sv rm _ hc).mono ?_
        rintro e wb ⟨⟨p', n', sv', rm', rfl, hp', hn', hnn', hsv', hrm'⟩, bb⟩
        have T2 := Tk.below bb
        clear Tk bb c0 c1 c2 c3 f0 f1 f2 f3 d0 d1 d2 d3 g0 g1 g2 g3
        rename Ch w wb _ _ _ _ _ _ _ _ _ _ _ _ _ _ _ _ _ => Tk
        have c0 : wb.cell? ⟨w.heap.size, 0, none⟩ = some (.bool p0) := blk_cell Tk.P 0
        have f0 : wb.frozen? ⟨w.heap.size, 0, none⟩ = false := blk_free Tk.P 0
        have c1 : wb.cell? ⟨w.heap.size, 1, none⟩ = some (.bool p1) := blk_cell Tk.P 1
        have f1 : wb.frozen? ⟨w.heap.size, 1, none⟩ = false := blk_free Tk.P 1
        have c2 : wb.cell? ⟨w.heap.size, 2, none⟩ = some (.slice ra rn rc) := blk_cell Tk.P 2
        have f2 : wb.frozen? ⟨w.heap.size, 2, none⟩ = false := blk_free Tk.P 2
        have c3 : wb.cell? ⟨w.heap.size, 3, none⟩ = some (.slice sa sn sc) := blk_cell Tk.P 3
        have f3 : wb.frozen? ⟨w.heap.size, 3, none⟩ = false := blk_free Tk.P 3
        have d0 : wb.cell? ⟨w.heap.size + 1, 0, none⟩ = some (.string p) := blk_cell Tk.A 0
        have g0 : wb.frozen? ⟨w.heap.size + 1, 0, none⟩ = false := blk_free Tk.A 0
        have d1 : wb.cell? ⟨w.heap.size + 1, 1, none⟩ = some (.slice ao n c) := blk_cell Tk.A 1
        have g1 : wb.frozen? ⟨w.heap.size + 1, 1, none⟩ = false := blk_free Tk.A 1
        have d2 : wb.cell? ⟨w.heap.size + 1, 2, none⟩ = some (.string sv) := blk_cell Tk.A 2
        have g2 : wb.frozen? ⟨w.heap.size + 1, 2, none⟩ = false := blk_free Tk.A 2
        have d3 : wb.cell? ⟨w.heap.size + 1, 3, none⟩ = some (.string rm) := blk_cell Tk.A 3
        have g3 : wb.frozen? ⟨w.heap.size + 1, 3, none⟩ = false := blk_free Tk.A 3
        refine hK.out _ _ trivial (fun hHeld => ?_)
        clear hK K
        refine wpAnyH_ready (rs := [4]) (by kernel_rfl) (by simp) ?_
        refine AllReadyH.cons (o := ⟨_, _, _, _, _, _⟩) rfl (fun K hK => ?_) (AllReadyH.nil)
        go_simp
        refine hK.out _ _ trivial (fun hHeld => ?_)
        clear hK K
        refine wpAnyH_ready (rs := [5]) (by kernel_rfl) (by simp) ?_
        refine AllReadyH.cons (o := ⟨_, _, _, _, _, _⟩) rfl (fun K hK => ?_) (AllReadyH.nil)
        go_simp
        refine hK.out _ _ trivial (fun hHeld => ?_)
        clear hK K
        refine wpAnyH_done (by kernel_rfl) (NoPanic.normal ?_) _
        go_wp2_with fail
        go_meet
        exact ⟨rfl, p', n', sv', rm', hp', hn', hnn', hsv', hrm', Tk.few⟩
    · go_simp
      refine hK.out _ _ trivial (fun hHeld => ?_)
      clear hK K
      refine wpAnyH_ready (rs := [0]) (by kernel_rfl) (by simp) ?_
      refine AllReadyH.cons (o := ⟨_, _, _, _, _, _⟩) rfl (fun K hK => ?_) (AllReadyH.nil)
      go_simp
      refine hK.out _ _ trivial (fun hHeld => ?_)
      clear hK K
      refine wpAnyH_ready (rs := [1]) (by kernel_rfl) (by simp) ?_
      refine AllReadyH.cons (o := ⟨_, _, _, _, _, _⟩) rfl (fun K hK => ?_) (AllReadyH.nil)
      go_simp
      refine (few3_any p0 p1 ra rn rc sa sn sc _ hrc hsc).mono ?_
      rintro e wa ⟨rfl, ba⟩
      have T1 := Tk.below ba
      clear Tk ba c0 c1 c2 c3 f0 f1 f2 f3 d0 d1 d2 d3 g0 g1 g2 g3
      rename Ch w wa _ _ _ _ _ _ _ _ _ _ _ _ _ _ _ _ _ => Tk
      have c0 : wa.cell? ⟨w.heap.size, 0, none⟩ = some (.bool p0) := blk_cell Tk.P 0
      have f0 : wa.frozen? ⟨w.heap.size, 0, none⟩ = false := blk_free Tk.P 0
      have c1 : wa.cell? ⟨w.heap.size, 1, none⟩ = some (.bool p1) := blk_cell Tk.P 1
      have f1 : wa.frozen? ⟨w.heap.size, 1, none⟩ = false := blk_free Tk.P 1
      have c2 : wa.cell? ⟨w.heap.size, 2, none⟩ = some (.slice ra rn rc) := blk_cell Tk.P 2
      have f2 : wa.frozen? ⟨w.heap.size, 2, none⟩ = false := blk_free Tk.P 2
      have c3 : wa.cell? ⟨w.heap.size, 3, none⟩ = some (.slice sa sn sc) := blk_cell Tk.P 3
      have f3 : wa.frozen? ⟨w.heap.size, 3, none⟩ = false := blk_free Tk.P 3
      have d0 : wa.cell? ⟨w.heap.size + 1, 0, none⟩ = some (.string p) := blk_cell Tk.A 0
      have g0 : wa.frozen? ⟨w.heap.size + 1, 0, none⟩ = false := blk_free Tk.A 0
      have d1 : wa.cell? ⟨w.heap.size + 1, 1, none⟩ = some (.slice ao n c) := blk_cell Tk.A 1
      have g1 : wa.frozen? ⟨w.heap.size + 1, 1, none⟩ = false := blk_free Tk.A 1
      have d2 : wa.cell? ⟨w.heap.size + 1, 2, none⟩ = some (.string sv) := blk_cell Tk.A 2
      have g2 : wa.frozen? ⟨w.heap.size + 1, 2, none⟩ = false := blk_free Tk.A 2
      have d3 : wa.cell? ⟨w.heap.size + 1, 3, none⟩ = some (.string rm) := blk_cell Tk.A 3
      have g3 : wa.frozen? ⟨w.heap.size + 1, 3, none⟩ = false := blk_free Tk.A 3
      refine hK.out _ _ trivial (fun hHeld => ?_)
      clear hK K
      refine wpAnyH_ready (rs := [3]) (by kernel_rfl) (by simp) ?_
      refine AllReadyH.cons (o := ⟨_, _, _, _, _, _⟩) rfl (fun K hK => ?_) (AllReadyH.nil)
      go_simp
      refine (few_any p ao n c sv rm _ hc).mono ?_
      rintro e wb ⟨⟨p', n', sv', rm', rfl, hp', hn', hnn', hsv', hrm'⟩, bb⟩
      have T2 := Tk.below bb
      clear Tk bb c0 c1 c2 c3 f0 f1 f2 f3 d0 d1 d2 d3 g0 g1 g2 g3
      rename Ch w wb _ _ _ _ _ _ _ _ _ _ _ _ _ _ _ _ _ => Tk
      have c0 : wb.cell? ⟨w.heap.size, 0, none⟩ = some (.bool p0) := blk_cell Tk.P 0
      have f0 : wb.frozen? ⟨w.heap.size, 0, none⟩ = false := blk_free Tk.P 0
      have c1 : wb.cell? ⟨w.heap.size, 1, none⟩ = some (.bool p1) := blk_cell Tk.P 1
      have f1 : wb.frozen? ⟨w.heap.size, 1, none⟩ = false := blk_free Tk.P 1
      have c2 : wb.cell? ⟨w.heap.size, 2, none⟩ = some (.slice ra rn rc) := blk_cell Tk.P 2
      have f2 : wb.frozen? ⟨w.heap.size, 2, none⟩ = false := blk_free Tk.P 2
      have c3 : wb.cell? ⟨w.heap.size, 3, none⟩ = some (.slice sa sn sc) := blk_cell Tk.P 3
      have f3 : wb.frozen? ⟨w.heap.size, 3, none⟩ = false := blk_free Tk.P 3
      have d0 : wb.cell? ⟨w.heap.size + 1, 0, none⟩ = some (.string p) := blk_cell Tk.A 0
      have g0 : wb.frozen? ⟨w.heap.size + 1, 0, none⟩ = false := blk_free Tk.A 0
      have d1 : wb.cell? ⟨w.heap.size + 1, 1, none⟩ = some (.slice ao n c) := blk_cell Tk.A 1
      have g1 : wb.frozen? ⟨w.heap.size + 1, 1, none⟩ = false := blk_free Tk.A 1
      have d2 : wb.cell? ⟨w.heap.size + 1, 2, none⟩ = some (.string sv) := blk_cell Tk.A 2
      have g2 : wb.frozen? ⟨w.heap.size + 1, 2, none⟩ = false := blk_free Tk.A 2
      have d3 : wb.cell? ⟨w.heap.size + 1, 3, none⟩ = some (.string rm) := blk_cell Tk.A 3
      have g3 : wb.frozen? ⟨w.heap.size + 1, 3, none⟩ = false := blk_free Tk.A 3
      refine hK.out _ _ trivial (fun hHeld => ?_)
      clear hK K
      refine wpAnyH_ready (rs := [4]) (by kernel_rfl) (by simp) ?_
      refine AllReadyH.cons (o := ⟨_, _, _, _, _, _⟩) rfl (fun K hK => ?_) (AllReadyH.nil)
      go_simp
      refine hK.out _ _ trivial (fun hHeld => ?_)
      clear hK K
      refine wpAnyH_ready (rs := [5]) (by kernel_rfl) (by simp) ?_
      refine AllReadyH.cons (o := ⟨_, _, _, _, _, _⟩) rfl (fun K hK => ?_) (AllReadyH.nil)
      go_simp
      refine hK.out _ _ trivial (fun hHeld => ?_)
      clear hK K
      refine wpAnyH_done (by kernel_rfl) (NoPanic.normal ?_) _
      go_wp2_with fail
      go_meet
      exact ⟨rfl, p', n', sv', rm', hp', hn', hnn', hsv', hrm', Tk.few⟩
  case rest =>
    obtain ⟨rfl, p', n', sv', rm', hp', hn', hnn', hsv', hrm', TC⟩ := hcut
    have hPol : PolAt w ra (min rn 20) rc sa (min sn 20) sc F T F' T' := ⟨fun i hi => hRa i (by omega), fun i hi => hSa i (by omega), by omega, by omega⟩
    have hI : IntsAt w ao n' R := fun i hi => hA i (by omega)
    have hIR : IntsR R n' := ⟨fun i hi => hR.b i (by omega)⟩
    clear hRa hSa hA hR Tk
    clear hnn' hrc hsc hc
    obtain ⟨rn', hrn⟩ : ∃ m, m = min rn 20 := ⟨_, rfl⟩
    obtain ⟨sn', hsn⟩ : ∃ m, m = min sn 20 := ⟨_, rfl⟩
    rw [← hrn, ← hsn] at TC hPol
    clear hrn hsn
    obtain ⟨k, rfl⟩ : ∃ k : Nat, at_ = k := ⟨at_.toNat, by omega⟩
    have c0 : wc.cell? ⟨w.heap.size, 0, none⟩ = some (.bool p0) := blk_cell TC.P 0
    have c1 : wc.cell? ⟨w.heap.size, 1, none⟩ = some (.bool p1) := blk_cell TC.P 1
    have c2 : wc.cell? ⟨w.heap.size, 2, none⟩ = some (.slice ra rn' rc) := blk_cell TC.P 2
    have c3 : wc.cell? ⟨w.heap.size, 3, none⟩ = some (.slice sa sn' sc) := blk_cell TC.P 3
    have d0 : wc.cell? ⟨w.heap.size + 1, 0, none⟩ = some (.string p') := blk_cell TC.A 0
    have d1 : wc.cell? ⟨w.heap.size + 1, 1, none⟩ = some (.slice ao n' c) := blk_cell TC.A 1
    have d2 : wc.cell? ⟨w.heap.size + 1, 2, none⟩ = some (.string sv') := blk_cell TC.A 2
    have d3 : wc.cell? ⟨w.heap.size + 1, 3, none⟩ = some (.string rm') := blk_cell TC.A 3
    have q0 : wc.cell? ⟨w.heap.size + 1 + 1, 0, none⟩ = some (.int .u8 which) := blk_cell TC.Q 0
    have q1 : wc.cell? ⟨w.heap.size + 1 + 1, 1, none⟩ = some (.int .u16 k) := blk_cell TC.Q 1
    have q2 : wc.cell? ⟨w.heap.size + 1 + 1, 2, none⟩ = some (.int .u8 by_) := blk_cell TC.Q 2
    go_wp2_with fail
    refine (may3_any p0 p1 ra rn' rc sa sn' sc F T F' T' _ (hPol.below TC.bl)).mono ?_
    rintro e w1 ⟨rfl, b1⟩
    have T1 := TC.below b1
    clear b1 TC
    clear c0 c1 c2 c3 d0 d1 d2 d3 q0 q1 q2
    have c0 : w1.cell? ⟨w.heap.size, 0, none⟩ = some (.bool p0) := blk_cell T1.P 0
    have c1 : w1.cell? ⟨w.heap.size, 1, none⟩ = some (.bool p1) := blk_cell T1.P 1
    have c2 : w1.cell? ⟨w.heap.size, 2, none⟩ = some (.slice ra rn' rc) := blk_cell T1.P 2
    have c3 : w1.cell? ⟨w.heap.size, 3, none⟩ = some (.slice sa sn' sc) := blk_cell T1.P 3
    have d0 : w1.cell? ⟨w.heap.size + 1, 0, none⟩ = some (.string p') := blk_cell T1.A 0
    have d1 : w1.cell? ⟨w.heap.size + 1, 1, none⟩ = some (.slice ao n' c) := blk_cell T1.A 1
    have d2 : w1.cell? ⟨w.heap.size + 1, 2, none⟩ = some (.string sv') := blk_cell T1.A 2
    have d3 : w1.cell? ⟨w.heap.size + 1, 3, none⟩ = some (.string rm') := blk_cell T1.A 3
    have q0 : w1.cell? ⟨w.heap.size + 1 + 1, 0, none⟩ = some (.int .u8 which) := blk_cell T1.Q 0
    have q1 : w1.cell? ⟨w.heap.size + 1 + 1, 1, none⟩ = some (.int .u16 k) := blk_cell T1.Q 1
    have q2 : w1.cell? ⟨w.heap.size + 1 + 1, 2, none⟩ = some (.int .u8 by_) := blk_cell T1.Q 2
    cases q1 : mayPB rn' sn' F T F' T'
    · go_wp2_with fail
      refine (awake_any _).mono ?_
      rintro e w2 ⟨rfl, b2⟩
      go_wp2
      go_ret
      exact ⟨rfl, T1.bl.trans (b2.mono T1.bl.size)⟩
    · have Q1 := hidI q1; clear q1
      go_wp2_with fail
      refine (smayr_any p' ao n' c sv' rm' R _ (by omega) (by omega) (hI.below T1.bl) hIR).mono ?_
      rintro e w2 ⟨rfl, b2⟩
      have T2 := T1.below b2
      clear b2 T1
      clear c0 c1 c2 c3 d0 d1 d2 d3 q0 q1 q2
      have c0 : w2.cell? ⟨w.heap.size, 0, none⟩ = some (.bool p0) := blk_cell T2.P 0
      have c1 : w2.cell? ⟨w.heap.size, 1, none⟩ = some (.bool p1) := blk_cell T2.P 1
      have c2 : w2.cell? ⟨w.heap.size, 2, none⟩ = some (.slice ra rn' rc) := blk_cell T2.P 2
      have c3 : w2.cell? ⟨w.heap.size, 3, none⟩ = some (.slice sa sn' sc) := blk_cell T2.P 3
      have d0 : w2.cell? ⟨w.heap.size + 1, 0, none⟩ = some (.string p') := blk_cell T2.A 0
      have d1 : w2.cell? ⟨w.heap.size + 1, 1, none⟩ = some (.slice ao n' c) := blk_cell T2.A 1
      have d2 : w2.cell? ⟨w.heap.size + 1, 2, none⟩ = some (.string sv') := blk_cell T2.A 2
      have d3 : w2.cell? ⟨w.heap.size + 1, 3, none⟩ = some (.string rm') := blk_cell T2.A 3
      have q0 : w2.cell? ⟨w.heap.size + 1 + 1, 0, none⟩ = some (.int .u8 which) := blk_cell T2.Q 0
      have q1 : w2.cell? ⟨w.heap.size + 1 + 1, 1, none⟩ = some (.int .u16 k) := blk_cell T2.Q 1
      have q2 : w2.cell? ⟨w.heap.size + 1 + 1, 2, none⟩ = some (.int .u8 by_) := blk_cell T2.Q 2
      cases q2 : maySB p' n' sv' rm' R
      · go_wp2_with fail
        refine (awake_any _).mono ?_
        rintro e w3 ⟨rfl, b3⟩
        go_wp2
        go_ret
        exact ⟨rfl, T2.bl.trans (b3.mono T2.bl.size)⟩
      · have Q2 := hidI q2; clear q2
        have l0 : w.heap.size + 1 + 1 < w2.heap.size := blk_lt T2.Q
        have l1 : w.heap.size < w2.heap.size := by omega
        have l2 : w.heap.size + 1 < w2.heap.size := by omega
        have m0 : w2.heap.size ≠ w.heap.size := by omega
        have m1 : w2.heap.size ≠ w.heap.size + 1 := by omega
        have m2 : w2.heap.size ≠ w.heap.size + 1 + 1 := by omega
        have e0 : w.heap.size ≠ w2.heap.size := by omega
        have e1 : w.heap.size + 1 ≠ w2.heap.size := by omega
        have e2 : w.heap.size + 1 + 1 ≠ w2.heap.size := by omega
        have T4 := T2.below ((Below.refl w2.heap.size w2).alloc (Nat.le_refl _) (.cells #[.string p', .slice ao n' c, .string sv', .string rm'] 28))
        have U4 : ScAt (w2.alloc (.cells #[.string p', .slice ao n' c, .string sv', .string rm'] 28)) w2.heap.size p' ao n' c sv' rm' := blk_new _ _
        go_upto_region 6 with fail
        obtain ⟨w4, hw4⟩ : ∃ w4, w4 = w2.alloc (.cells #[.string p', .slice ao n' c, .string sv', .string rm'] 28) := ⟨_, rfl⟩
        rw [← hw4] at T4 U4 ⊢
        clear hw4 T2
        obtain ⟨g7, hg7⟩ : ∃ g7, g7 = w2.heap.size := ⟨_, rfl⟩
        rw [← hg7] at U4 l0 l1 l2 m0 m1 m2 e0 e1 e2 ⊢
        clear hg7
        clear c0 c1 c2 c3 d0 d1 d2 d3 q0 q1 q2
        clear w2 w1 wc
        have c0 : w4.cell? ⟨w.heap.size, 0, none⟩ = some (.bool p0) := blk_cell T4.P 0
        have c1 : w4.cell? ⟨w.heap.size, 1, none⟩ = some (.bool p1) := blk_cell T4.P 1
        have c2 : w4.cell? ⟨w.heap.size, 2, none⟩ = some (.slice ra rn' rc) := blk_cell T4.P 2
        have c3 : w4.cell? ⟨w.heap.size, 3, none⟩ = some (.slice sa sn' sc) := blk_cell T4.P 3
        have d0 : w4.cell? ⟨w.heap.size + 1, 0, none⟩ = some (.string p') := blk_cell T4.A 0
        have d1 : w4.cell? ⟨w.heap.size + 1, 1, none⟩ = some (.slice ao n' c) := blk_cell T4.A 1
        have d2 : w4.cell? ⟨w.heap.size + 1, 2, none⟩ = some (.string sv') := blk_cell T4.A 2
        have d3 : w4.cell? ⟨w.heap.size + 1, 3, none⟩ = some (.string rm') := blk_cell T4.A 3
        have q0 : w4.cell? ⟨w.heap.size + 1 + 1, 0, none⟩ = some (.int .u8 which) := blk_cell T4.Q 0
        have q1 : w4.cell? ⟨w.heap.size + 1 + 1, 1, none⟩ = some (.int .u16 k) := blk_cell T4.Q 1
        have q2 : w4.cell? ⟨w.heap.size + 1 + 1, 2, none⟩ = some (.int .u8 by_) := blk_cell T4.Q 2
        have h3 : which % 3 = 0 ∨ which % 3 = 1 ∨ which % 3 = 2 := by omega
        rcases h3 with h3 | h3 | h3
        · by_cases hin : k < p'.size
          · have hin' : (k : Int) < p'.size := by omega
            have hk2 : k < p'.size := hin
            obtain ⟨x0, hx0⟩ : ∃ x0, x0 = bt p' k := ⟨_, rfl⟩
            have x1 : ((p'[k]'hk2).toNat : Int) = x0 := (bt_eq p' k hk2).trans hx0.symm
            clear hx0
            have k1 : (0 : Int) ≤ (k : Int) := by omega
            have k2 : (k : Int) < p'.size := by omega
            have k3 : (k : Int) ≤ p'.size := by omega
            have k4 : (0 : Int) ≤ (k : Int) + 1 := by omega
            have k5 : (k : Int) + 1 ≤ p'.size := by omega
            have s1 : ¬ (9223372036854775807 < min k p'.size + 1) := by omega
            have s2 : ¬ (9223372036854775807 < min k p'.size + 1 + (p'.size - (k + 1))) := by omega
            have k6 : IntKind.i64.wrap ((k : Int) + 1) = k + 1 := by unfold IntKind.wrap; simp [IntKind.signed, IntKind.bits]; omega
            go_upto_region 7 with fail
            refine wp_region_noPanic ?_
            refine wp_region_held_drew (S := (fun w' => w'.cell? ⟨w.heap.size + 1, 0, none⟩ = some (.string p') ∧ w'.cell? ⟨w.heap.size + 1 + 1, 2, none⟩ = some (.int .u8 by_))) (by kernel_rfl) ⟨blk_cell T4.A 0, blk_cell T4.Q 2⟩ (fun hHeld => ?_)
            refine wpAnyH_take (i := 0) (oi := ⟨_, _, _, _, _, _⟩) (v := ?_) rfl (by kernel_rfl) (by kernel_rfl) (by kernel_rfl) (fun _ _ _ h => h) (Or.inl ⟨by rfl, ?_⟩) (by assumption) ?_
            rotate_left
            · (intro w hSw; (try dsimp only at hSw); go_simp); with_reducible rfl
            simp only [Act.put, List.setIfInBounds_toArray, List.set_cons_zero, List.set_cons_succ]
            refine wpAnyH_take (i := 1) (oi := ⟨_, _, _, _, _, _⟩) (v := ?_) rfl (by kernel_rfl) (by kernel_rfl) (by kernel_rfl) (fun _ _ _ h => h) (Or.inl ⟨by rfl, ?_⟩) (by assumption) ?_
            rotate_left
            · (intro w hSw; (try dsimp only at hSw); go_simp); with_reducible rfl
            simp only [Act.put, List.setIfInBounds_toArray, List.set_cons_zero, List.set_cons_succ]
            refine wpAnyH_take (i := 2) (oi := ⟨_, _, _, _, _, _⟩) (v := ?_) rfl (by kernel_rfl) (by kernel_rfl) (by kernel_rfl) (fun _ _ _ h => h) (Or.inl ⟨by rfl, ?_⟩) (by assumption) ?_
            rotate_left
            · (intro w hSw; (try dsimp only at hSw); go_simp); with_reducible rfl
            simp only [Act.put, List.setIfInBounds_toArray, List.set_cons_zero, List.set_cons_succ]
            refine wpAnyH_take (i := 3) (oi := ⟨_, _, _, _, _, _⟩) (v := ?_) rfl (by kernel_rfl) (by kernel_rfl) (by kernel_rfl) (fun _ _ _ h => h) (Or.inl ⟨by rfl, ?_⟩) (by assumption) ?_
            rotate_left
            · (intro w hSw; (try dsimp only at hSw); go_simp); with_reducible rfl
            simp only [Act.put, List.setIfInBounds_toArray, List.set_cons_zero, List.set_cons_succ]
            refine wpAnyH_take (i := 4) (oi := ⟨_, _, _, _, _, _⟩) (v := ?_) rfl (by kernel_rfl) (by kernel_rfl) (by kernel_rfl) (fun _ _ _ h => h) (Or.inl ⟨by rfl, ?_⟩) (by assumption) ?_
            rotate_left
            · (intro w hSw; (try dsimp only at hSw); go_simp); with_reducible rfl
            simp only [Act.put, List.setIfInBounds_toArray, List.set_cons_zero, List.set_cons_succ]
            refine wpAnyH_take (i := 5) (oi := ⟨_, _, _, _, _, _⟩) (v := ?_) rfl (by kernel_rfl) (by kernel_rfl) (by kernel_rfl) (fun _ _ _ h => h) (Or.inl ⟨by rfl, ?_⟩) (by assumption) ?_
            rotate_left
            · (intro w hSw; (try dsimp only at hSw); go_simp); with_reducible rfl
            simp only [Act.put, List.setIfInBounds_toArray, List.set_cons_zero, List.set_cons_succ]
            refine wpAnyH_take (i := 6) (oi := ⟨_, _, _, _, _, _⟩) (v := ?_) rfl (by kernel_rfl) (by kernel_rfl) (by kernel_rfl) (fun _ _ _ h => h) (Or.inl ⟨by rfl, ?_⟩) (by assumption) ?_
            rotate_left
            · (intro w hSw; (try dsimp only at hSw); go_simp); with_reducible rfl
            simp only [Act.put, List.setIfInBounds_toArray, List.set_cons_zero, List.set_cons_succ]
            refine wpAnyH_take (i := 7) (oi := ⟨_, _, _, _, _, _⟩) (v := ?_) rfl (by kernel_rfl) (by kernel_rfl) (by kernel_rfl) (fun _ _ _ h => h) (Or.inl ⟨by rfl, ?_⟩) (by assumption) ?_
            rotate_left
            · (intro w hSw; (try dsimp only at hSw); go_simp); with_reducible rfl
            simp only [Act.put, List.setIfInBounds_toArray, List.set_cons_zero, List.set_cons_succ]
            refine wpAnyH_take (i := 8) (oi := ⟨_, _, _, _, _, _⟩) (v := ?_) rfl (by kernel_rfl) (by kernel_rfl) (by kernel_rfl) (fun _ _ _ h => h) (Or.inl ⟨by rfl, ?_⟩) (by assumption) ?_
            rotate_left
            · (intro w hSw; (try dsimp only at hSw); go_simp); with_reducible rfl
            simp only [Act.put, List.setIfInBounds_toArray, List.set_cons_zero, List.set_cons_succ]
            refine wpAnyH_take (i := 9) (oi := ⟨_, _, _, _, _, _⟩) (v := ?_) rfl (by kernel_rfl) (by kernel_rfl) (by kernel_rfl) (fun _ _ _ h => h) (Or.inl ⟨by rfl, ?_⟩) (by assumption) ?_
            rotate_left
            · (intro w hSw; (try dsimp only at hSw); go_simp); with_reducible rfl
            simp only [Act.put, List.setIfInBounds_toArray, List.set_cons_zero, List.set_cons_succ]
            refine wpAnyH_take (i := 10) (oi := ⟨_, _, _, _, _, _⟩) (v := ?_) rfl (by kernel_rfl) (by kernel_rfl) (by kernel_rfl) (fun _ _ _ h => h) (Or.inl ⟨by rfl, ?_⟩) (by assumption) ?_
            rotate_left
            · (intro w hSw; (try dsimp only at hSw); go_simp); with_reducible rfl
            simp only [Act.put, List.setIfInBounds_toArray, List.set_cons_zero, List.set_cons_succ]
            refine wpAnyH_take (i := 14) (oi := ⟨_, _, _, _, _, _⟩) (v := ?_) rfl (by kernel_rfl) (by kernel_rfl) (by kernel_rfl) (fun _ _ _ h => h) (Or.inl ⟨by rfl, ?_⟩) (by assumption) ?_
            rotate_left
            · (intro w hSw; (try dsimp only at hSw); go_simp); with_reducible rfl
            simp only [Act.put, List.setIfInBounds_toArray, List.set_cons_zero, List.set_cons_succ]
            refine wpAnyH_take (i := 15) (oi := ⟨_, _, _, _, _, _⟩) (v := ?_) rfl (by kernel_rfl) (by kernel_rfl) (by kernel_rfl) (fun _ _ _ h => h) (Or.inl ⟨by rfl, ?_⟩) (by assumption) ?_
            rotate_left
            · (intro w hSw; (try dsimp only at hSw); go_simp); with_reducible rfl
            simp only [Act.put, List.setIfInBounds_toArray, List.set_cons_zero, List.set_cons_succ]
            refine wpAnyH_take (i := 16) (oi := ⟨_, _, _, _, _, _⟩) (v := ?_) rfl (by kernel_rfl) (by kernel_rfl) (by kernel_rfl) (fun _ _ _ h => h) (Or.inl ⟨by rfl, ?_⟩) (by assumption) ?_
            rotate_left
            · (intro w hSw; (try dsimp only at hSw); go_simp); with_reducible rfl
            simp only [Act.put, List.setIfInBounds_toArray, List.set_cons_zero, List.set_cons_succ]
            refine wpAnyH_take (i := 17) (oi := ⟨_, _, _, _, _, _⟩) (v := ?_) rfl (by kernel_rfl) (by kernel_rfl) (by kernel_rfl) (fun _ _ _ h => h) (Or.inl ⟨by rfl, ?_⟩) (by assumption) ?_
            rotate_left
            · (intro w hSw; (try dsimp only at hSw); go_simp); with_reducible rfl
            simp only [Act.put, List.setIfInBounds_toArray, List.set_cons_zero, List.set_cons_succ]
            refine wpAnyH_take (i := 18) (oi := ⟨_, _, _, _, _, _⟩) (v := ?_) rfl (by kernel_rfl) (by kernel_rfl) (by kernel_rfl) (fun _ _ _ h => h) (Or.inl ⟨by rfl, ?_⟩) (by assumption) ?_
            rotate_left
            · (intro w hSw; (try dsimp only at hSw); go_simp); with_reducible rfl
            simp only [Act.put, List.setIfInBounds_toArray, List.set_cons_zero, List.set_cons_succ]
            refine wpAnyH_ready (rs := [11]) (by kernel_rfl) (by simp) ?_
            refine AllReadyH.cons (o := ⟨_, _, _, _, _, _⟩) rfl (fun K hK => ?_) (AllReadyH.nil)
            go_simp
            have B5 := ((Below.refl w4.heap.size w4).alloc (Nat.le_refl _) (.cells #[.int .u8 (bits BinOp.xor IntKind.u8 x0 by_)] 5)).drew
            have T5 := T4.below B5
            have U5 := U4.below B5
            have n5 : (w4.alloc (.cells #[.int .u8 (bits BinOp.xor IntKind.u8 x0 by_)] 5)).drew.heap[w4.heap.size]? = some (.cells #[.int .u8 (bits BinOp.xor IntKind.u8 x0 by_)] 5 (0, 0)) := blk_new _ _
            refine hK.out _ _ ⟨blk_cell T5.A 0, blk_cell T5.Q 2⟩ (fun hHeld => ?_)
            have n6 : (w4.alloc (.cells #[.int .u8 (bits BinOp.xor IntKind.u8 x0 by_)] 5)).drew.cell? ⟨w4.heap.size, 0, none⟩ = some (.int .u8 (bits BinOp.xor IntKind.u8 x0 by_)) := blk_cell n5 0
            clear hK K
            refine wpAnyH_ready (rs := [12]) (by kernel_rfl) (by simp) ?_
            refine AllReadyH.cons (o := ⟨_, _, _, _, _, _⟩) rfl (fun K hK => ?_) (AllReadyH.nil)
            have hcv := conv1 _ _ _ n6
            obtain ⟨cc, hcc⟩ : ∃ cc, cc = strOfNums [bits BinOp.xor IntKind.u8 x0 by_] := ⟨_, rfl⟩
            rw [← hcc] at hcv
            have hc1 : cc.size = 1 := by rw [hcc]; rfl
            clear hcc
            go_simp
            refine hK.out _ _ hHeld (fun hHeld => ?_)
            clear hK K
            refine wpAnyH_take (i := 13) (oi := ⟨_, _, _, _, _, _⟩) (v := ?_) rfl (by kernel_rfl) (by kernel_rfl) (by kernel_rfl) (fun _ _ _ h => h) (Or.inl ⟨by rfl, ?_⟩) (by assumption) ?_
            rotate_left
            · (intro w hSw; (try dsimp only at hSw); go_simp); with_reducible rfl
            simp only [Act.put, List.setIfInBounds_toArray, List.set_cons_zero, List.set_cons_succ]
            refine wpAnyH_take (i := 19) (oi := ⟨_, _, _, _, _, _⟩) (v := ?_) rfl (by kernel_rfl) (by kernel_rfl) (by kernel_rfl) (fun _ _ _ h => h) (Or.inl ⟨by rfl, ?_⟩) (by assumption) ?_
            rotate_left
            · (intro w hSw; (try dsimp only at hSw); go_simp); with_reducible rfl
            simp only [Act.put, List.setIfInBounds_toArray, List.set_cons_zero, List.set_cons_succ]
            refine wpAnyH_take (i := 20) (oi := ⟨_, _, _, _, _, _⟩) (v := ?_) rfl (by kernel_rfl) (by kernel_rfl) (by kernel_rfl) (fun _ _ _ h => h) (Or.inl ⟨by rfl, ?_⟩) (by assumption) ?_
            rotate_left
            · (intro w hSw; (try dsimp only at hSw); go_simp); with_reducible rfl
            simp only [Act.put, List.setIfInBounds_toArray, List.set_cons_zero, List.set_cons_succ]
            refine wpAnyH_ready (rs := [21]) (by kernel_rfl) (by simp) ?_
            refine AllReadyH.cons (o := ⟨_, _, _, _, _, _⟩) rfl (fun K hK => ?_) (AllReadyH.nil)
            obtain ⟨yy, hyy⟩ : ∃ yy, yy = p'.extract 0 k ++ cc ++ p'.extract (k + 1) p'.size := ⟨_, rfl⟩
            have hch : Chg p' yy k := by rw [hyy]; exact chg_mk p' cc k hk2 hc1
            rw [← hyy]
            clear hyy hcv
            have z0 : (w4.alloc (.cells #[.int .u8 (bits BinOp.xor IntKind.u8 x0 by_)] 5)).drew.cell? ⟨g7, 0, none⟩ = some (.string p') := blk_cell U5 0
            have z1 : (w4.alloc (.cells #[.int .u8 (bits BinOp.xor IntKind.u8 x0 by_)] 5)).drew.frozen? ⟨g7, 0, none⟩ = false := blk_free U5 0
            have T6 := T5.put l0 0 (.string yy)
            have U6 : ScAt ((w4.alloc (.cells #[.int .u8 (bits BinOp.xor IntKind.u8 x0 by_)] 5)).drew.setCell ⟨g7, 0, none⟩ (.string yy)) g7 yy ao n' c sv' rm' := by
              have := blk_set U5 0 (.string yy)
              simpa [ScAt] using this
            go_simp
            refine hK.out _ _ ⟨blk_cell T6.A 0, blk_cell T6.Q 2⟩ (fun hHeld => ?_)
            clear hK K
            refine wpAnyH_done (by kernel_rfl) (NoPanic.normal ?_) _
            obtain ⟨w7, hw7⟩ : ∃ w7, w7 = ((w4.alloc (.cells #[.int .u8 (bits BinOp.xor IntKind.u8 x0 by_)] 5)).setCell ⟨g7, 0, none⟩ (.string yy)).drew := ⟨_, rfl⟩
            have T7 : Ch w w7 p0 p1 ra rn' rc sa sn' sc p' ao n' c sv' rm' which (k : Int) by_ := by rw [hw7]; exact T6
            have U7 : ScAt w7 g7 yy ao n' c sv' rm' := by rw [hw7]; exact U6
            rw [← hw7]
            clear hw7 T6 U6 T5 U5 B5 n5 n6 z0 z1 U4 T4
            clear c0 c1 c2 c3 d0 d1 d2 d3 q0 q1 q2
            have c0 : w7.cell? ⟨w.heap.size, 0, none⟩ = some (.bool p0) := blk_cell T7.P 0
            have c1 : w7.cell? ⟨w.heap.size, 1, none⟩ = some (.bool p1) := blk_cell T7.P 1
            have c2 : w7.cell? ⟨w.heap.size, 2, none⟩ = some (.slice ra rn' rc) := blk_cell T7.P 2
            have c3 : w7.cell? ⟨w.heap.size, 3, none⟩ = some (.slice sa sn' sc) := blk_cell T7.P 3
            have d0 : w7.cell? ⟨w.heap.size + 1, 0, none⟩ = some (.string p') := blk_cell T7.A 0
            have d1 : w7.cell? ⟨w.heap.size + 1, 1, none⟩ = some (.slice ao n' c) := blk_cell T7.A 1
            have d2 : w7.cell? ⟨w.heap.size + 1, 2, none⟩ = some (.string sv') := blk_cell T7.A 2
            have d3 : w7.cell? ⟨w.heap.size + 1, 3, none⟩ = some (.string rm') := blk_cell T7.A 3
            have q0 : w7.cell? ⟨w.heap.size + 1 + 1, 0, none⟩ = some (.int .u8 which) := blk_cell T7.Q 0
            have q1 : w7.cell? ⟨w.heap.size + 1 + 1, 1, none⟩ = some (.int .u16 k) := blk_cell T7.Q 1
            have q2 : w7.cell? ⟨w.heap.size + 1 + 1, 2, none⟩ = some (.int .u8 by_) := blk_cell T7.Q 2
            have u0 : w7.cell? ⟨g7, 0, none⟩ = some (.string yy) := blk_cell U7 0
            have u1 : w7.cell? ⟨g7, 1, none⟩ = some (.slice ao n' c) := blk_cell U7 1
            have u2 : w7.cell? ⟨g7, 2, none⟩ = some (.string sv') := blk_cell U7 2
            have u3 : w7.cell? ⟨g7, 3, none⟩ = some (.string rm') := blk_cell U7 3
            have hsz := hch.sz
            rcases Nat.mod_two_eq_zero_or_one k with hk2' | hk2'
            · have hki : (k : Int) % 2 = 0 := by omega
              go_wp2_with fail
              obtain ⟨sm, hsm⟩ : ∃ sm, sameB p' n' sv' rm' R yy n' sv' rm' R = sm := ⟨_, rfl⟩
              have ALK : Hid (alkB p0 p1 rn' sn' F T F' T' p' n' sv' rm' R yy n' sv' rm' R = (p0 || sm)) := by show _ = _; rw [← hsm]; exact (by rw [alk_p Q1.out Q2.out hch, hki]; simp [secB])
              have HSM := hidI hsm; clear hsm
              refine (alike_any p0 p1 ra rn' rc sa sn' sc F T F' T' p' ao n' c sv' rm' R yy ao n' c sv' rm' R _ (hPol.below T7.bl) (by omega) (by have := hsz; omega) (by omega) (by omega) (by omega) (by have := hsz; omega) (by omega) (by have := hsz; omega) (hI.below T7.bl) (hI.below T7.bl)).mono ?_
              rw [ALK.out]
              rintro e w8 ⟨rfl, b8⟩
              have T8 := T7.below b8
              have U8 := U7.below b8
              clear b8 c0 c1 c2 c3 d0 d1 d2 d3 q0 q1 q2 u0 u1 u2 u3
              have c0 : w8.cell? ⟨w.heap.size, 0, none⟩ = some (.bool p0) := blk_cell T8.P 0
              have c1 : w8.cell? ⟨w.heap.size, 1, none⟩ = some (.bool p1) := blk_cell T8.P 1
              have c2 : w8.cell? ⟨w.heap.size, 2, none⟩ = some (.slice ra rn' rc) := blk_cell T8.P 2
              have c3 : w8.cell? ⟨w.heap.size, 3, none⟩ = some (.slice sa sn' sc) := blk_cell T8.P 3
              have d0 : w8.cell? ⟨w.heap.size + 1, 0, none⟩ = some (.string p') := blk_cell T8.A 0
              have d1 : w8.cell? ⟨w.heap.size + 1, 1, none⟩ = some (.slice ao n' c) := blk_cell T8.A 1
              have d2 : w8.cell? ⟨w.heap.size + 1, 2, none⟩ = some (.string sv') := blk_cell T8.A 2
              have d3 : w8.cell? ⟨w.heap.size + 1, 3, none⟩ = some (.string rm') := blk_cell T8.A 3
              have q0 : w8.cell? ⟨w.heap.size + 1 + 1, 0, none⟩ = some (.int .u8 which) := blk_cell T8.Q 0
              have q1 : w8.cell? ⟨w.heap.size + 1 + 1, 1, none⟩ = some (.int .u16 k) := blk_cell T8.Q 1
              have q2 : w8.cell? ⟨w.heap.size + 1 + 1, 2, none⟩ = some (.int .u8 by_) := blk_cell T8.Q 2
              have u0 : w8.cell? ⟨g7, 0, none⟩ = some (.string yy) := blk_cell U8 0
              have u1 : w8.cell? ⟨g7, 1, none⟩ = some (.slice ao n' c) := blk_cell U8 1
              have u2 : w8.cell? ⟨g7, 2, none⟩ = some (.string sv') := blk_cell U8 2
              have u3 : w8.cell? ⟨g7, 3, none⟩ = some (.string rm') := blk_cell U8 3
              cases p0
              · simp only [Bool.false_or]
                go_wp2_with fail
                refine (same_any p' ao n' c sv' rm' R yy ao n' c sv' rm' R _ (by omega) (hI.below T8.bl) (hI.below T8.bl)).mono ?_
                rw [HSM.out]
                rintro e w9 ⟨rfl, b9⟩
                have T9 := T8.below b9
                go_wp2_with fail
                refine (awake_any _).mono ?_
                rintro e wA ⟨rfl, bA⟩
                go_wp2
                go_ret
                exact ⟨rfl, T9.bl.trans (bA.mono T9.bl.size)⟩
              · simp only [Bool.true_or]
                go_wp2_with fail
                refine (awake_any _).mono ?_
                rintro e wA ⟨rfl, bA⟩
                go_wp2
                go_ret
                exact ⟨rfl, T8.bl.trans (bA.mono T8.bl.size)⟩
            · have hki : (k : Int) % 2 = 1 := by omega
              go_wp2_with fail
              obtain ⟨sm, hsm⟩ : ∃ sm, sameB p' n' sv' rm' R yy n' sv' rm' R = sm := ⟨_, rfl⟩
              have ALK : Hid (alkB p0 p1 rn' sn' F T F' T' p' n' sv' rm' R yy n' sv' rm' R = (p1 || sm)) := by show _ = _; rw [← hsm]; exact (by rw [alk_p Q1.out Q2.out hch, hki]; simp [secB])
              have HSM := hidI hsm; clear hsm
              refine (alike_any p0 p1 ra rn' rc sa sn' sc F T F' T' p' ao n' c sv' rm' R yy ao n' c sv' rm' R _ (hPol.below T7.bl) (by omega) (by have := hsz; omega) (by omega) (by omega) (by omega) (by have := hsz; omega) (by omega) (by have := hsz; omega) (hI.below T7.bl) (hI.below T7.bl)).mono ?_
              rw [ALK.out]
              rintro e w8 ⟨rfl, b8⟩
              have T8 := T7.below b8
              have U8 := U7.below b8
              clear b8 c0 c1 c2 c3 d0 d1 d2 d3 q0 q1 q2 u0 u1 u2 u3
              have c0 : w8.cell? ⟨w.heap.size, 0, none⟩ = some (.bool p0) := blk_cell T8.P 0
              have c1 : w8.cell? ⟨w.heap.size, 1, none⟩ = some (.bool p1) := blk_cell T8.P 1
              have c2 : w8.cell? ⟨w.heap.size, 2, none⟩ = some (.slice ra rn' rc) := blk_cell T8.P 2
              have c3 : w8.cell? ⟨w.heap.size, 3, none⟩ = some (.slice sa sn' sc) := blk_cell T8.P 3
              have d0 : w8.cell? ⟨w.heap.size + 1, 0, none⟩ = some (.string p') := blk_cell T8.A 0
              have d1 : w8.cell? ⟨w.heap.size + 1, 1, none⟩ = some (.slice ao n' c) := blk_cell T8.A 1
              have d2 : w8.cell? ⟨w.heap.size + 1, 2, none⟩ = some (.string sv') := blk_cell T8.A 2
              have d3 : w8.cell? ⟨w.heap.size + 1, 3, none⟩ = some (.string rm') := blk_cell T8.A 3
              have q0 : w8.cell? ⟨w.heap.size + 1 + 1, 0, none⟩ = some (.int .u8 which) := blk_cell T8.Q 0
              have q1 : w8.cell? ⟨w.heap.size + 1 + 1, 1, none⟩ = some (.int .u16 k) := blk_cell T8.Q 1
              have q2 : w8.cell? ⟨w.heap.size + 1 + 1, 2, none⟩ = some (.int .u8 by_) := blk_cell T8.Q 2
              have u0 : w8.cell? ⟨g7, 0, none⟩ = some (.string yy) := blk_cell U8 0
              have u1 : w8.cell? ⟨g7, 1, none⟩ = some (.slice ao n' c) := blk_cell U8 1
              have u2 : w8.cell? ⟨g7, 2, none⟩ = some (.string sv') := blk_cell U8 2
              have u3 : w8.cell? ⟨g7, 3, none⟩ = some (.string rm') := blk_cell U8 3
              cases p1
              · simp only [Bool.false_or]
                go_wp2_with fail
                refine (same_any p' ao n' c sv' rm' R yy ao n' c sv' rm' R _ (by omega) (hI.below T8.bl) (hI.below T8.bl)).mono ?_
                rw [HSM.out]
                rintro e w9 ⟨rfl, b9⟩
                have T9 := T8.below b9
                go_wp2_with fail
                refine (awake_any _).mono ?_
                rintro e wA ⟨rfl, bA⟩
                go_wp2
                go_ret
                exact ⟨rfl, T9.bl.trans (bA.mono T9.bl.size)⟩
              · simp only [Bool.true_or]
                go_wp2_with fail
                refine (awake_any _).mono ?_
                rintro e wA ⟨rfl, bA⟩
                go_wp2
                go_ret
                exact ⟨rfl, T8.bl.trans (bA.mono T8.bl.size)⟩
          · have hin' : ¬ ((k : Int) < p'.size) := by omega
            have u0 : w4.cell? ⟨g7, 0, none⟩ = some (.string p') := blk_cell U4 0
            have u1 : w4.cell? ⟨g7, 1, none⟩ = some (.slice ao n' c) := blk_cell U4 1
            have u2 : w4.cell? ⟨g7, 2, none⟩ = some (.string sv') := blk_cell U4 2
            have u3 : w4.cell? ⟨g7, 3, none⟩ = some (.string rm') := blk_cell U4 3
            have hsz : True := trivial
            go_wp2_with fail
            obtain ⟨sm, hsm⟩ : ∃ sm, sameB p' n' sv' rm' R p' n' sv' rm' R = sm := ⟨_, rfl⟩
            have ALK : Hid (alkB p0 p1 rn' sn' F T F' T' p' n' sv' rm' R p' n' sv' rm' R = (false || sm)) := by show _ = _; rw [← hsm]; exact (by rw [alk_none Q1.out Q2.out, same_none]; simp)
            have HSM := hidI hsm; clear hsm
            refine (alike_any p0 p1 ra rn' rc sa sn' sc F T F' T' p' ao n' c sv' rm' R p' ao n' c sv' rm' R _ (hPol.below T4.bl) (by omega) (by have := hsz; omega) (by omega) (by omega) (by omega) (by have := hsz; omega) (by omega) (by have := hsz; omega) (hI.below T4.bl) (hI.below T4.bl)).mono ?_
            rw [ALK.out]
            rintro e w8 ⟨rfl, b8⟩
            have T8 := T4.below b8
            have U8 := U4.below b8
            clear b8 c0 c1 c2 c3 d0 d1 d2 d3 q0 q1 q2 u0 u1 u2 u3
            have c0 : w8.cell? ⟨w.heap.size, 0, none⟩ = some (.bool p0) := blk_cell T8.P 0
            have c1 : w8.cell? ⟨w.heap.size, 1, none⟩ = some (.bool p1) := blk_cell T8.P 1
            have c2 : w8.cell? ⟨w.heap.size, 2, none⟩ = some (.slice ra rn' rc) := blk_cell T8.P 2
            have c3 : w8.cell? ⟨w.heap.size, 3, none⟩ = some (.slice sa sn' sc) := blk_cell T8.P 3
            have d0 : w8.cell? ⟨w.heap.size + 1, 0, none⟩ = some (.string p') := blk_cell T8.A 0
            have d1 : w8.cell? ⟨w.heap.size + 1, 1, none⟩ = some (.slice ao n' c) := blk_cell T8.A 1
            have d2 : w8.cell? ⟨w.heap.size + 1, 2, none⟩ = some (.string sv') := blk_cell T8.A 2
            have d3 : w8.cell? ⟨w.heap.size + 1, 3, none⟩ = some (.string rm') := blk_cell T8.A 3
            have q0 : w8.cell? ⟨w.heap.size + 1 + 1, 0, none⟩ = some (.int .u8 which) := blk_cell T8.Q 0
            have q1 : w8.cell? ⟨w.heap.size + 1 + 1, 1, none⟩ = some (.int .u16 k) := blk_cell T8.Q 1
            have q2 : w8.cell? ⟨w.heap.size + 1 + 1, 2, none⟩ = some (.int .u8 by_) := blk_cell T8.Q 2
            have u0 : w8.cell? ⟨g7, 0, none⟩ = some (.string p') := blk_cell U8 0
            have u1 : w8.cell? ⟨g7, 1, none⟩ = some (.slice ao n' c) := blk_cell U8 1
            have u2 : w8.cell? ⟨g7, 2, none⟩ = some (.string sv') := blk_cell U8 2
            have u3 : w8.cell? ⟨g7, 3, none⟩ = some (.string rm') := blk_cell U8 3
            simp only [Bool.false_or]
            go_wp2_with fail
            refine (same_any p' ao n' c sv' rm' R p' ao n' c sv' rm' R _ (by omega) (hI.below T8.bl) (hI.below T8.bl)).mono ?_
            rw [HSM.out]
            rintro e w9 ⟨rfl, b9⟩
            have T9 := T8.below b9
            go_wp2_with fail
            refine (awake_any _).mono ?_
            rintro e wA ⟨rfl, bA⟩
            go_wp2
            go_ret
            exact ⟨rfl, T9.bl.trans (bA.mono T9.bl.size)⟩
        · by_cases hin : k < rm'.size
          · have hin' : (k : Int) < rm'.size := by omega
            have hk2 : k < rm'.size := hin
            obtain ⟨x0, hx0⟩ : ∃ x0, x0 = bt rm' k := ⟨_, rfl⟩
            have x1 : ((rm'[k]'hk2).toNat : Int) = x0 := (bt_eq rm' k hk2).trans hx0.symm
            clear hx0
            have k1 : (0 : Int) ≤ (k : Int) := by omega
            have k2 : (k : Int) < rm'.size := by omega
            have k3 : (k : Int) ≤ rm'.size := by omega
            have k4 : (0 : Int) ≤ (k : Int) + 1 := by omega
            have k5 : (k : Int) + 1 ≤ rm'.size := by omega
            have s1 : ¬ (9223372036854775807 < min k rm'.size + 1) := by omega
            have s2 : ¬ (9223372036854775807 < min k rm'.size + 1 + (rm'.size - (k + 1))) := by omega
            have k6 : IntKind.i64.wrap ((k : Int) + 1) = k + 1 := by unfold IntKind.wrap; simp [IntKind.signed, IntKind.bits]; omega
            go_upto_region 10 with fail
            refine wp_region_noPanic ?_
            refine wp_region_held_drew (S := (fun w' => w'.cell? ⟨w.heap.size + 1, 3, none⟩ = some (.string rm') ∧ w'.cell? ⟨w.heap.size + 1 + 1, 2, none⟩ = some (.int .u8 by_))) (by kernel_rfl) ⟨blk_cell T4.A 3, blk_cell T4.Q 2⟩ (fun hHeld => ?_)
            refine wpAnyH_take (i := 0) (oi := ⟨_, _, _, _, _, _⟩) (v := ?_) rfl (by kernel_rfl) (by kernel_rfl) (by kernel_rfl) (fun _ _ _ h => h) (Or.inl ⟨by rfl, ?_⟩) (by assumption) ?_
            rotate_left
            · (intro w hSw; (try dsimp only at hSw); go_simp); with_reducible rfl
            simp only [Act.put, List.setIfInBounds_toArray, List.set_cons_zero, List.set_cons_succ]
            refine wpAnyH_take (i := 1) (oi := ⟨_, _, _, _, _, _⟩) (v := ?_) rfl (by kernel_rfl) (by kernel_rfl) (by kernel_rfl) (fun _ _ _ h => h) (Or.inl ⟨by rfl, ?_⟩) (by assumption) ?_
            rotate_left
            · (intro w hSw; (try dsimp only at hSw); go_simp); with_reducible rfl
            simp only [Act.put, List.setIfInBounds_toArray, List.set_cons_zero, List.set_cons_succ]
            refine wpAnyH_take (i := 2) (oi := ⟨_, _, _, _, _, _⟩) (v := ?_) rfl (by kernel_rfl) (by kernel_rfl) (by kernel_rfl) (fun _ _ _ h => h) (Or.inl ⟨by rfl, ?_⟩) (by assumption) ?_
            rotate_left
            · (intro w hSw; (try dsimp only at hSw); go_simp); with_reducible rfl
            simp only [Act.put, List.setIfInBounds_toArray, List.set_cons_zero, List.set_cons_succ]
            refine wpAnyH_take (i := 3) (oi := ⟨_, _, _, _, _, _⟩) (v := ?_) rfl (by kernel_rfl) (by kernel_rfl) (by kernel_rfl) (fun _ _ _ h => h) (Or.inl ⟨by rfl, ?_⟩) (by assumption) ?_
            rotate_left
            · (intro w hSw; (try dsimp only at hSw); go_simp); with_reducible rfl
            simp only [Act.put, List.setIfInBounds_toArray, List.set_cons_zero, List.set_cons_succ]
            refine wpAnyH_take (i := 4) (oi := ⟨_, _, _, _, _, _⟩) (v := ?_) rfl (by kernel_rfl) (by kernel_rfl) (by kernel_rfl) (fun _ _ _ h => h) (Or.inl ⟨by rfl, ?_⟩) (by assumption) ?_
            rotate_left
            · (intro w hSw; (try dsimp only at hSw); go_simp); with_reducible rfl
            simp only [Act.put, List.setIfInBounds_toArray, List.set_cons_zero, List.set_cons_succ]
            refine wpAnyH_take (i := 5) (oi := ⟨_, _, _, _, _, _⟩) (v := ?_) rfl (by kernel_rfl) (by kernel_rfl) (by kernel_rfl) (fun _ _ _ h => h) (Or.inl ⟨by rfl, ?_⟩) (by assumption) ?_
            rotate_left
            · (intro w hSw; (try dsimp only at hSw); go_simp); with_reducible rfl
            simp only [Act.put, List.setIfInBounds_toArray, List.set_cons_zero, List.set_cons_succ]
            refine wpAnyH_take (i := 6) (oi := ⟨_, _, _, _, _, _⟩) (v := ?_) rfl (by kernel_rfl) (by kernel_rfl) (by kernel_rfl) (fun _ _ _ h => h) (Or.inl ⟨by rfl, ?_⟩) (by assumption) ?_
            rotate_left
            · (intro w hSw; (try dsimp only at hSw); go_simp); with_reducible rfl
            simp only [Act.put, List.setIfInBounds_toArray, List.set_cons_zero, List.set_cons_succ]
            refine wpAnyH_take (i := 7) (oi := ⟨_, _, _, _, _, _⟩) (v := ?_) rfl (by kernel_rfl) (by kernel_rfl) (by kernel_rfl) (fun _ _ _ h => h) (Or.inl ⟨by rfl, ?_⟩) (by assumption) ?_
            rotate_left
            · (intro w hSw; (try dsimp only at hSw); go_simp); with_reducible rfl
            simp only [Act.put, List.setIfInBounds_toArray, List.set_cons_zero, List.set_cons_succ]
            refine wpAnyH_take (i := 8) (oi := ⟨_, _, _, _, _, _⟩) (v := ?_) rfl (by kernel_rfl) (by kernel_rfl) (by kernel_rfl) (fun _ _ _ h => h) (Or.inl ⟨by rfl, ?_⟩) (by assumption) ?_
            rotate_left
            · (intro w hSw; (try dsimp only at hSw); go_simp); with_reducible rfl
            simp only [Act.put, List.setIfInBounds_toArray, List.set_cons_zero, List.set_cons_succ]
            refine wpAnyH_take (i := 9) (oi := ⟨_, _, _, _, _, _⟩) (v := ?_) rfl (by kernel_rfl) (by kernel_rfl) (by kernel_rfl) (fun _ _ _ h => h) (Or.inl ⟨by rfl, ?_⟩) (by assumption) ?_
            rotate_left
            · (intro w hSw; (try dsimp only at hSw); go_simp); with_reducible rfl
            simp only [Act.put, List.setIfInBounds_toArray, List.set_cons_zero, List.set_cons_succ]
            refine wpAnyH_take (i := 10) (oi := ⟨_, _, _, _, _, _⟩) (v := ?_) rfl (by kernel_rfl) (by kernel_rfl) (by kernel_rfl) (fun _ _ _ h => h) (Or.inl ⟨by rfl, ?_⟩) (by assumption) ?_
            rotate_left
            · (intro w hSw; (try dsimp only at hSw); go_simp); with_reducible rfl
            simp only [Act.put, List.setIfInBounds_toArray, List.set_cons_zero, List.set_cons_succ]
            refine wpAnyH_take (i := 14) (oi := ⟨_, _, _, _, _, _⟩) (v := ?_) rfl (by kernel_rfl) (by kernel_rfl) (by kernel_rfl) (fun _ _ _ h => h) (Or.inl ⟨by rfl, ?_⟩) (by assumption) ?_
            rotate_left
            · (intro w hSw; (try dsimp only at hSw); go_simp); with_reducible rfl
            simp only [Act.put, List.setIfInBounds_toArray, List.set_cons_zero, List.set_cons_succ]
            refine wpAnyH_take (i := 15) (oi := ⟨_, _, _, _, _, _⟩) (v := ?_) rfl (by kernel_rfl) (by kernel_rfl) (by kernel_rfl) (fun _ _ _ h => h) (Or.inl ⟨by rfl, ?_⟩) (by assumption) ?_
            rotate_left
            · (intro w hSw; (try dsimp only at hSw); go_simp); with_reducible rfl
            simp only [Act.put, List.setIfInBounds_toArray, List.set_cons_zero, List.set_cons_succ]
            refine wpAnyH_take (i := 16) (oi := ⟨_, _, _, _, _, _⟩) (v := ?_) rfl (by kernel_rfl) (by kernel_rfl) (by kernel_rfl) (fun _ _ _ h => h) (Or.inl ⟨by rfl, ?_⟩) (by assumption) ?_
            rotate_left
            · (intro w hSw; (try dsimp only at hSw); go_simp); with_reducible rfl
            simp only [Act.put, List.setIfInBounds_toArray, List.set_cons_zero, List.set_cons_succ]
            refine wpAnyH_take (i := 17) (oi := ⟨_, _, _, _, _, _⟩) (v := ?_) rfl (by kernel_rfl) (by kernel_rfl) (by kernel_rfl) (fun _ _ _ h => h) (Or.inl ⟨by rfl, ?_⟩) (by assumption) ?_
            rotate_left
            · (intro w hSw; (try dsimp only at hSw); go_simp); with_reducible rfl
            simp only [Act.put, List.setIfInBounds_toArray, List.set_cons_zero, List.set_cons_succ]
            refine wpAnyH_take (i := 18) (oi := ⟨_, _, _, _, _, _⟩) (v := ?_) rfl (by kernel_rfl) (by kernel_rfl) (by kernel_rfl) (fun _ _ _ h => h) (Or.inl ⟨by rfl, ?_⟩) (by assumption) ?_
            rotate_left
            · (intro w hSw; (try dsimp only at hSw); go_simp); with_reducible rfl
            simp only [Act.put, List.setIfInBounds_toArray, List.set_cons_zero, List.set_cons_succ]
            refine wpAnyH_ready (rs := [11]) (by kernel_rfl) (by simp) ?_
            refine AllReadyH.cons (o := ⟨_, _, _, _, _, _⟩) rfl (fun K hK => ?_) (AllReadyH.nil)
            go_simp
            have B5 := ((Below.refl w4.heap.size w4).alloc (Nat.le_refl _) (.cells #[.int .u8 (bits BinOp.xor IntKind.u8 x0 by_)] 5)).drew
            have T5 := T4.below B5
            have U5 := U4.below B5
            have n5 : (w4.alloc (.cells #[.int .u8 (bits BinOp.xor IntKind.u8 x0 by_)] 5)).drew.heap[w4.heap.size]? = some (.cells #[.int .u8 (bits BinOp.xor IntKind.u8 x0 by_)] 5 (0, 0)) := blk_new _ _
            refine hK.out _ _ ⟨blk_cell T5.A 3, blk_cell T5.Q 2⟩ (fun hHeld => ?_)
            have n6 : (w4.alloc (.cells #[.int .u8 (bits BinOp.xor IntKind.u8 x0 by_)] 5)).drew.cell? ⟨w4.heap.size, 0, none⟩ = some (.int .u8 (bits BinOp.xor IntKind.u8 x0 by_)) := blk_cell n5 0
            clear hK K
            refine wpAnyH_ready (rs := [12]) (by kernel_rfl) (by simp) ?_
            refine AllReadyH.cons (o := ⟨_, _, _, _, _, _⟩) rfl (fun K hK => ?_) (AllReadyH.nil)
            have hcv := conv1 _ _ _ n6
            obtain ⟨cc, hcc⟩ : ∃ cc, cc = strOfNums [bits BinOp.xor IntKind.u8 x0 by_] := ⟨_, rfl⟩
            rw [← hcc] at hcv
            have hc1 : cc.size = 1 := by rw [hcc]; rfl
            clear hcc
            go_simp
            refine hK.out _ _ hHeld (fun hHeld => ?_)
            clear hK K
            refine wpAnyH_take (i := 13) (oi := ⟨_, _, _, _, _, _⟩) (v := ?_) rfl (by kernel_rfl) (by kernel_rfl) (by kernel_rfl) (fun _ _ _ h => h) (Or.inl ⟨by rfl, ?_⟩) (by assumption) ?_
            rotate_left
            · (intro w hSw; (try dsimp only at hSw); go_simp); with_reducible rfl
            simp only [Act.put, List.setIfInBounds_toArray, List.set_cons_zero, List.set_cons_succ]
            refine wpAnyH_take (i := 19) (oi := ⟨_, _, _, _, _, _⟩) (v := ?_) rfl (by kernel_rfl) (by kernel_rfl) (by kernel_rfl) (fun _ _ _ h => h) (Or.inl ⟨by rfl, ?_⟩) (by assumption) ?_
            rotate_left
            · (intro w hSw; (try dsimp only at hSw); go_simp); with_reducible rfl
            simp only [Act.put, List.setIfInBounds_toArray, List.set_cons_zero, List.set_cons_succ]
            refine wpAnyH_take (i := 20) (oi := ⟨_, _, _, _, _, _⟩) (v := ?_) rfl (by kernel_rfl) (by kernel_rfl) (by kernel_rfl) (fun _ _ _ h => h) (Or.inl ⟨by rfl, ?_⟩) (by assumption) ?_
            rotate_left
            · (intro w hSw; (try dsimp only at hSw); go_simp); with_reducible rfl
            simp only [Act.put, List.setIfInBounds_toArray, List.set_cons_zero, List.set_cons_succ]
            refine wpAnyH_ready (rs := [21]) (by kernel_rfl) (by simp) ?_
            refine AllReadyH.cons (o := ⟨_, _, _, _, _, _⟩) rfl (fun K hK => ?_) (AllReadyH.nil)
            obtain ⟨yy, hyy⟩ : ∃ yy, yy = rm'.extract 0 k ++ cc ++ rm'.extract (k + 1) rm'.size := ⟨_, rfl⟩
            have hch : Chg rm' yy k := by rw [hyy]; exact chg_mk rm' cc k hk2 hc1
            rw [← hyy]
            clear hyy hcv
            have z0 : (w4.alloc (.cells #[.int .u8 (bits BinOp.xor IntKind.u8 x0 by_)] 5)).drew.cell? ⟨g7, 3, none⟩ = some (.string rm') := blk_cell U5 3
            have z1 : (w4.alloc (.cells #[.int .u8 (bits BinOp.xor IntKind.u8 x0 by_)] 5)).drew.frozen? ⟨g7, 3, none⟩ = false := blk_free U5 3
            have T6 := T5.put l0 3 (.string yy)
            have U6 : ScAt ((w4.alloc (.cells #[.int .u8 (bits BinOp.xor IntKind.u8 x0 by_)] 5)).drew.setCell ⟨g7, 3, none⟩ (.string yy)) g7 p' ao n' c sv' yy := by
              have := blk_set U5 3 (.string yy)
              simpa [ScAt] using this
            go_simp
            refine hK.out _ _ ⟨blk_cell T6.A 3, blk_cell T6.Q 2⟩ (fun hHeld => ?_)
            clear hK K
            refine wpAnyH_done (by kernel_rfl) (NoPanic.normal ?_) _
            obtain ⟨w7, hw7⟩ : ∃ w7, w7 = ((w4.alloc (.cells #[.int .u8 (bits BinOp.xor IntKind.u8 x0 by_)] 5)).setCell ⟨g7, 3, none⟩ (.string yy)).drew := ⟨_, rfl⟩
            have T7 : Ch w w7 p0 p1 ra rn' rc sa sn' sc p' ao n' c sv' rm' which (k : Int) by_ := by rw [hw7]; exact T6
            have U7 : ScAt w7 g7 p' ao n' c sv' yy := by rw [hw7]; exact U6
            rw [← hw7]
            clear hw7 T6 U6 T5 U5 B5 n5 n6 z0 z1 U4 T4
            clear c0 c1 c2 c3 d0 d1 d2 d3 q0 q1 q2
            have c0 : w7.cell? ⟨w.heap.size, 0, none⟩ = some (.bool p0) := blk_cell T7.P 0
            have c1 : w7.cell? ⟨w.heap.size, 1, none⟩ = some (.bool p1) := blk_cell T7.P 1
            have c2 : w7.cell? ⟨w.heap.size, 2, none⟩ = some (.slice ra rn' rc) := blk_cell T7.P 2
            have c3 : w7.cell? ⟨w.heap.size, 3, none⟩ = some (.slice sa sn' sc) := blk_cell T7.P 3
            have d0 : w7.cell? ⟨w.heap.size + 1, 0, none⟩ = some (.string p') := blk_cell T7.A 0
            have d1 : w7.cell? ⟨w.heap.size + 1, 1, none⟩ = some (.slice ao n' c) := blk_cell T7.A 1
            have d2 : w7.cell? ⟨w.heap.size + 1, 2, none⟩ = some (.string sv') := blk_cell T7.A 2
            have d3 : w7.cell? ⟨w.heap.size + 1, 3, none⟩ = some (.string rm') := blk_cell T7.A 3
            have q0 : w7.cell? ⟨w.heap.size + 1 + 1, 0, none⟩ = some (.int .u8 which) := blk_cell T7.Q 0
            have q1 : w7.cell? ⟨w.heap.size + 1 + 1, 1, none⟩ = some (.int .u16 k) := blk_cell T7.Q 1
            have q2 : w7.cell? ⟨w.heap.size + 1 + 1, 2, none⟩ = some (.int .u8 by_) := blk_cell T7.Q 2
            have u0 : w7.cell? ⟨g7, 0, none⟩ = some (.string p') := blk_cell U7 0
            have u1 : w7.cell? ⟨g7, 1, none⟩ = some (.slice ao n' c) := blk_cell U7 1
            have u2 : w7.cell? ⟨g7, 2, none⟩ = some (.string sv') := blk_cell U7 2
            have u3 : w7.cell? ⟨g7, 3, none⟩ = some (.string yy) := blk_cell U7 3
            have hsz := hch.sz
            go_wp2_with fail
            refine (rin_any ra rn' rc F T (k : Int) _ (by have := hPol.rl; omega) (hPol.below T7.bl).r).mono ?_
            obtain ⟨sec, hsec⟩ : ∃ sec, sec = inG F T rn' (k : Int) := ⟨_, rfl⟩
            rw [← hsec]
            have HSEC := hidI hsec; clear hsec
            rintro e w7' ⟨rfl, rfl⟩
            go_wp2_with fail
            obtain ⟨sm, hsm⟩ : ∃ sm, sameB p' n' sv' rm' R p' n' sv' yy R = sm := ⟨_, rfl⟩
            have ALK : Hid (alkB p0 p1 rn' sn' F T F' T' p' n' sv' rm' R p' n' sv' yy R = (sec || sm)) := by show _ = _; rw [← hsm]; exact (by rw [alk_m Q1.out Q2.out hch, HSEC.out]; simp [secB])
            have HSM := hidI hsm; clear hsm
            refine (alike_any p0 p1 ra rn' rc sa sn' sc F T F' T' p' ao n' c sv' rm' R p' ao n' c sv' yy R _ (hPol.below T7.bl) (by omega) (by have := hsz; omega) (by omega) (by omega) (by omega) (by have := hsz; omega) (by omega) (by have := hsz; omega) (hI.below T7.bl) (hI.below T7.bl)).mono ?_
            rw [ALK.out]
            rintro e w8 ⟨rfl, b8⟩
            have T8 := T7.below b8
            have U8 := U7.below b8
            clear b8 c0 c1 c2 c3 d0 d1 d2 d3 q0 q1 q2 u0 u1 u2 u3
            have c0 : w8.cell? ⟨w.heap.size, 0, none⟩ = some (.bool p0) := blk_cell T8.P 0
            have c1 : w8.cell? ⟨w.heap.size, 1, none⟩ = some (.bool p1) := blk_cell T8.P 1
            have c2 : w8.cell? ⟨w.heap.size, 2, none⟩ = some (.slice ra rn' rc) := blk_cell T8.P 2
            have c3 : w8.cell? ⟨w.heap.size, 3, none⟩ = some (.slice sa sn' sc) := blk_cell T8.P 3
            have d0 : w8.cell? ⟨w.heap.size + 1, 0, none⟩ = some (.string p') := blk_cell T8.A 0
            have d1 : w8.cell? ⟨w.heap.size + 1, 1, none⟩ = some (.slice ao n' c) := blk_cell T8.A 1
            have d2 : w8.cell? ⟨w.heap.size + 1, 2, none⟩ = some (.string sv') := blk_cell T8.A 2
            have d3 : w8.cell? ⟨w.heap.size + 1, 3, none⟩ = some (.string rm') := blk_cell T8.A 3
            have q0 : w8.cell? ⟨w.heap.size + 1 + 1, 0, none⟩ = some (.int .u8 which) := blk_cell T8.Q 0
            have q1 : w8.cell? ⟨w.heap.size + 1 + 1, 1, none⟩ = some (.int .u16 k) := blk_cell T8.Q 1
            have q2 : w8.cell? ⟨w.heap.size + 1 + 1, 2, none⟩ = some (.int .u8 by_) := blk_cell T8.Q 2
            have u0 : w8.cell? ⟨g7, 0, none⟩ = some (.string p') := blk_cell U8 0
            have u1 : w8.cell? ⟨g7, 1, none⟩ = some (.slice ao n' c) := blk_cell U8 1
            have u2 : w8.cell? ⟨g7, 2, none⟩ = some (.string sv') := blk_cell U8 2
            have u3 : w8.cell? ⟨g7, 3, none⟩ = some (.string yy) := blk_cell U8 3
            cases sec
            · simp only [Bool.false_or]
              go_wp2_with fail
              refine (same_any p' ao n' c sv' rm' R p' ao n' c sv' yy R _ (by omega) (hI.below T8.bl) (hI.below T8.bl)).mono ?_
              rw [HSM.out]
              rintro e w9 ⟨rfl, b9⟩
              have T9 := T8.below b9
              go_wp2_with fail
              refine (awake_any _).mono ?_
              rintro e wA ⟨rfl, bA⟩
              go_wp2
              go_ret
              exact ⟨rfl, T9.bl.trans (bA.mono T9.bl.size)⟩
            · simp only [Bool.true_or]
              go_wp2_with fail
              refine (awake_any _).mono ?_
              rintro e wA ⟨rfl, bA⟩
              go_wp2
              go_ret
              exact ⟨rfl, T8.bl.trans (bA.mono T8.bl.size)⟩
          · have hin' : ¬ ((k : Int) < rm'.size) := by omega
            have u0 : w4.cell? ⟨g7, 0, none⟩ = some (.string p') := blk_cell U4 0
            have u1 : w4.cell? ⟨g7, 1, none⟩ = some (.slice ao n' c) := blk_cell U4 1
            have u2 : w4.cell? ⟨g7, 2, none⟩ = some (.string sv') := blk_cell U4 2
            have u3 : w4.cell? ⟨g7, 3, none⟩ = some (.string rm') := blk_cell U4 3
            have hsz : True := trivial
            go_wp2_with fail
            obtain ⟨sm, hsm⟩ : ∃ sm, sameB p' n' sv' rm' R p' n' sv' rm' R = sm := ⟨_, rfl⟩
            have ALK : Hid (alkB p0 p1 rn' sn' F T F' T' p' n' sv' rm' R p' n' sv' rm' R = (false || sm)) := by show _ = _; rw [← hsm]; exact (by rw [alk_none Q1.out Q2.out, same_none]; simp)
            have HSM := hidI hsm; clear hsm
            refine (alike_any p0 p1 ra rn' rc sa sn' sc F T F' T' p' ao n' c sv' rm' R p' ao n' c sv' rm' R _ (hPol.below T4.bl) (by omega) (by have := hsz; omega) (by omega) (by omega) (by omega) (by have := hsz; omega) (by omega) (by have := hsz; omega) (hI.below T4.bl) (hI.below T4.bl)).mono ?_
            rw [ALK.out]
            rintro e w8 ⟨rfl, b8⟩
            have T8 := T4.below b8
            have U8 := U4.below b8
            clear b8 c0 c1 c2 c3 d0 d1 d2 d3 q0 q1 q2 u0 u1 u2 u3
            have c0 : w8.cell? ⟨w.heap.size, 0, none⟩ = some (.bool p0) := blk_cell T8.P 0
            have c1 : w8.cell? ⟨w.heap.size, 1, none⟩ = some (.bool p1) := blk_cell T8.P 1
            have c2 : w8.cell? ⟨w.heap.size, 2, none⟩ = some (.slice ra rn' rc) := blk_cell T8.P 2
            have c3 : w8.cell? ⟨w.heap.size, 3, none⟩ = some (.slice sa sn' sc) := blk_cell T8.P 3
            have d0 : w8.cell? ⟨w.heap.size + 1, 0, none⟩ = some (.string p') := blk_cell T8.A 0
            have d1 : w8.cell? ⟨w.heap.size + 1, 1, none⟩ = some (.slice ao n' c) := blk_cell T8.A 1
            have d2 : w8.cell? ⟨w.heap.size + 1, 2, none⟩ = some (.string sv') := blk_cell T8.A 2
            have d3 : w8.cell? ⟨w.heap.size + 1, 3, none⟩ = some (.string rm') := blk_cell T8.A 3
            have q0 : w8.cell? ⟨w.heap.size + 1 + 1, 0, none⟩ = some (.int .u8 which) := blk_cell T8.Q 0
            have q1 : w8.cell? ⟨w.heap.size + 1 + 1, 1, none⟩ = some (.int .u16 k) := blk_cell T8.Q 1
            have q2 : w8.cell? ⟨w.heap.size + 1 + 1, 2, none⟩ = some (.int .u8 by_) := blk_cell T8.Q 2
            have u0 : w8.cell? ⟨g7, 0, none⟩ = some (.string p') := blk_cell U8 0
            have u1 : w8.cell? ⟨g7, 1, none⟩ = some (.slice ao n' c) := blk_cell U8 1
            have u2 : w8.cell? ⟨g7, 2, none⟩ = some (.string sv') := blk_cell U8 2
            have u3 : w8.cell? ⟨g7, 3, none⟩ = some (.string rm') := blk_cell U8 3
            simp only [Bool.false_or]
            go_wp2_with fail
            refine (same_any p' ao n' c sv' rm' R p' ao n' c sv' rm' R _ (by omega) (hI.below T8.bl) (hI.below T8.bl)).mono ?_
            rw [HSM.out]
            rintro e w9 ⟨rfl, b9⟩
            have T9 := T8.below b9
            go_wp2_with fail
            refine (awake_any _).mono ?_
            rintro e wA ⟨rfl, bA⟩
            go_wp2
            go_ret
            exact ⟨rfl, T9.bl.trans (bA.mono T9.bl.size)⟩
        · by_cases hin : k < sv'.size
          · have hin' : (k : Int) < sv'.size := by omega
            have hk2 : k < sv'.size := hin
            obtain ⟨x0, hx0⟩ : ∃ x0, x0 = bt sv' k := ⟨_, rfl⟩
            have x1 : ((sv'[k]'hk2).toNat : Int) = x0 := (bt_eq sv' k hk2).trans hx0.symm
            clear hx0
            have k1 : (0 : Int) ≤ (k : Int) := by omega
            have k2 : (k : Int) < sv'.size := by omega
            have k3 : (k : Int) ≤ sv'.size := by omega
            have k4 : (0 : Int) ≤ (k : Int) + 1 := by omega
            have k5 : (k : Int) + 1 ≤ sv'.size := by omega
            have s1 : ¬ (9223372036854775807 < min k sv'.size + 1) := by omega
            have s2 : ¬ (9223372036854775807 < min k sv'.size + 1 + (sv'.size - (k + 1))) := by omega
            have k6 : IntKind.i64.wrap ((k : Int) + 1) = k + 1 := by unfold IntKind.wrap; simp [IntKind.signed, IntKind.bits]; omega
            go_upto_region 13 with fail
            refine wp_region_noPanic ?_
            refine wp_region_held_drew (S := (fun w' => w'.cell? ⟨w.heap.size + 1, 2, none⟩ = some (.string sv') ∧ w'.cell? ⟨w.heap.size + 1 + 1, 2, none⟩ = some (.int .u8 by_))) (by kernel_rfl) ⟨blk_cell T4.A 2, blk_cell T4.Q 2⟩ (fun hHeld => ?_)
            refine wpAnyH_take (i := 0) (oi := ⟨_, _, _, _, _, _⟩) (v := ?_) rfl (by kernel_rfl) (by kernel_rfl) (by kernel_rfl) (fun _ _ _ h => h) (Or.inl ⟨by rfl, ?_⟩) (by assumption) ?_
            rotate_left
            · (intro w hSw; (try dsimp only at hSw); go_simp); with_reducible rfl
            simp only [Act.put, List.setIfInBounds_toArray, List.set_cons_zero, List.set_cons_succ]
            refine wpAnyH_take (i := 1) (oi := ⟨_, _, _, _, _, _⟩) (v := ?_) rfl (by kernel_rfl) (by kernel_rfl) (by kernel_rfl) (fun _ _ _ h => h) (Or.inl ⟨by rfl, ?_⟩) (by assumption) ?_
            rotate_left
            · (intro w hSw; (try dsimp only at hSw); go_simp); with_reducible rfl
            simp only [Act.put, List.setIfInBounds_toArray, List.set_cons_zero, List.set_cons_succ]
            refine wpAnyH_take (i := 2) (oi := ⟨_, _, _, _, _, _⟩) (v := ?_) rfl (by kernel_rfl) (by kernel_rfl) (by kernel_rfl) (fun _ _ _ h => h) (Or.inl ⟨by rfl, ?_⟩) (by assumption) ?_
            rotate_left
            · (intro w hSw; (try dsimp only at hSw); go_simp); with_reducible rfl
            simp only [Act.put, List.setIfInBounds_toArray, List.set_cons_zero, List.set_cons_succ]
            refine wpAnyH_take (i := 3) (oi := ⟨_, _, _, _, _, _⟩) (v := ?_) rfl (by kernel_rfl) (by kernel_rfl) (by kernel_rfl) (fun _ _ _ h => h) (Or.inl ⟨by rfl, ?_⟩) (by assumption) ?_
            rotate_left
            · (intro w hSw; (try dsimp only at hSw); go_simp); with_reducible rfl
            simp only [Act.put, List.setIfInBounds_toArray, List.set_cons_zero, List.set_cons_succ]
            refine wpAnyH_take (i := 4) (oi := ⟨_, _, _, _, _, _⟩) (v := ?_) rfl (by kernel_rfl) (by kernel_rfl) (by kernel_rfl) (fun _ _ _ h => h) (Or.inl ⟨by rfl, ?_⟩) (by assumption) ?_
            rotate_left
            · (intro w hSw; (try dsimp only at hSw); go_simp); with_reducible rfl
            simp only [Act.put, List.setIfInBounds_toArray, List.set_cons_zero, List.set_cons_succ]
            refine wpAnyH_take (i := 5) (oi := ⟨_, _, _, _, _, _⟩) (v := ?_) rfl (by kernel_rfl) (by kernel_rfl) (by kernel_rfl) (fun _ _ _ h => h) (Or.inl ⟨by rfl, ?_⟩) (by assumption) ?_
            rotate_left
            · (intro w hSw; (try dsimp only at hSw); go_simp); with_reducible rfl
            simp only [Act.put, List.setIfInBounds_toArray, List.set_cons_zero, List.set_cons_succ]
            refine wpAnyH_take (i := 6) (oi := ⟨_, _, _, _, _, _⟩) (v := ?_) rfl (by kernel_rfl) (by kernel_rfl) (by kernel_rfl) (fun _ _ _ h => h) (Or.inl ⟨by rfl, ?_⟩) (by assumption) ?_
            rotate_left
            · (intro w hSw; (try dsimp only at hSw); go_simp); with_reducible rfl
            simp only [Act.put, List.setIfInBounds_toArray, List.set_cons_zero, List.set_cons_succ]
            refine wpAnyH_take (i := 7) (oi := ⟨_, _, _, _, _, _⟩) (v := ?_) rfl (by kernel_rfl) (by kernel_rfl) (by kernel_rfl) (fun _ _ _ h => h) (Or.inl ⟨by rfl, ?_⟩) (by assumption) ?_
            rotate_left
            · (intro w hSw; (try dsimp only at hSw); go_simp); with_reducible rfl
            simp only [Act.put, List.setIfInBounds_toArray, List.set_cons_zero, List.set_cons_succ]
            refine wpAnyH_take (i := 8) (oi := ⟨_, _, _, _, _, _⟩) (v := ?_) rfl (by kernel_rfl) (by kernel_rfl) (by kernel_rfl) (fun _ _ _ h => h) (Or.inl ⟨by rfl, ?_⟩) (by assumption) ?_
            rotate_left
            · (intro w hSw; (try dsimp only at hSw); go_simp); with_reducible rfl
            simp only [Act.put, List.setIfInBounds_toArray, List.set_cons_zero, List.set_cons_succ]
            refine wpAnyH_take (i := 9) (oi := ⟨_, _, _, _, _, _⟩) (v := ?_) rfl (by kernel_rfl) (by kernel_rfl) (by kernel_rfl) (fun _ _ _ h => h) (Or.inl ⟨by rfl, ?_⟩) (by assumption) ?_
            rotate_left
            · (intro w hSw; (try dsimp only at hSw); go_simp); with_reducible rfl
            simp only [Act.put, List.setIfInBounds_toArray, List.set_cons_zero, List.set_cons_succ]
            refine wpAnyH_take (i := 10) (oi := ⟨_, _, _, _, _, _⟩) (v := ?_) rfl (by kernel_rfl) (by kernel_rfl) (by kernel_rfl) (fun _ _ _ h => h) (Or.inl ⟨by rfl, ?_⟩) (by assumption) ?_
            rotate_left
            · (intro w hSw; (try dsimp only at hSw); go_simp); with_reducible rfl
            simp only [Act.put, List.setIfInBounds_toArray, List.set_cons_zero, List.set_cons_succ]
            refine wpAnyH_take (i := 14) (oi := ⟨_, _, _, _, _, _⟩) (v := ?_) rfl (by kernel_rfl) (by kernel_rfl) (by kernel_rfl) (fun _ _ _ h => h) (Or.inl ⟨by rfl, ?_⟩) (by assumption) ?_
            rotate_left
            · (intro w hSw; (try dsimp only at hSw); go_simp); with_reducible rfl
            simp only [Act.put, List.setIfInBounds_toArray, List.set_cons_zero, List.set_cons_succ]
            refine wpAnyH_take (i := 15) (oi := ⟨_, _, _, _, _, _⟩) (v := ?_) rfl (by kernel_rfl) (by kernel_rfl) (by kernel_rfl) (fun _ _ _ h => h) (Or.inl ⟨by rfl, ?_⟩) (by assumption) ?_
            rotate_left
            · (intro w hSw; (try dsimp only at hSw); go_simp); with_reducible rfl
            simp only [Act.put, List.setIfInBounds_toArray, List.set_cons_zero, List.set_cons_succ]
            refine wpAnyH_take (i := 16) (oi := ⟨_, _, _, _, _, _⟩) (v := ?_) rfl (by kernel_rfl) (by kernel_rfl) (by kernel_rfl) (fun _ _ _ h => h) (Or.inl ⟨by rfl, ?_⟩) (by assumption) ?_
            rotate_left
            · (intro w hSw; (try dsimp only at hSw); go_simp); with_reducible rfl
            simp only [Act.put, List.setIfInBounds_toArray, List.set_cons_zero, List.set_cons_succ]
            refine wpAnyH_take (i := 17) (oi := ⟨_, _, _, _, _, _⟩) (v := ?_) rfl (by kernel_rfl) (by kernel_rfl) (by kernel_rfl) (fun _ _ _ h => h) (Or.inl ⟨by rfl, ?_⟩) (by assumption) ?_
            rotate_left
            · (intro w hSw; (try dsimp only at hSw); go_simp); with_reducible rfl
            simp only [Act.put, List.setIfInBounds_toArray, List.set_cons_zero, List.set_cons_succ]
            refine wpAnyH_take (i := 18) (oi := ⟨_, _, _, _, _, _⟩) (v := ?_) rfl (by kernel_rfl) (by kernel_rfl) (by kernel_rfl) (fun _ _ _ h => h) (Or.inl ⟨by rfl, ?_⟩) (by assumption) ?_
            rotate_left
            · (intro w hSw; (try dsimp only at hSw); go_simp); with_reducible rfl
            simp only [Act.put, List.setIfInBounds_toArray, List.set_cons_zero, List.set_cons_succ]
            refine wpAnyH_ready (rs := [11]) (by kernel_rfl) (by simp) ?_
            refine AllReadyH.cons (o := ⟨_, _, _, _, _, _⟩) rfl (fun K hK => ?_) (AllReadyH.nil)
            go_simp
            have B5 := ((Below.refl w4.heap.size w4).alloc (Nat.le_refl _) (.cells #[.int .u8 (bits BinOp.xor IntKind.u8 x0 by_)] 5)).drew
            have T5 := T4.below B5
            have U5 := U4.below B5
            have n5 : (w4.alloc (.cells #[.int .u8 (bits BinOp.xor IntKind.u8 x0 by_)] 5)).drew.heap[w4.heap.size]? = some (.cells #[.int .u8 (bits BinOp.xor IntKind.u8 x0 by_)] 5 (0, 0)) := blk_new _ _
            refine hK.out _ _ ⟨blk_cell T5.A 2, blk_cell T5.Q 2⟩ (fun hHeld => ?_)
            have n6 : (w4.alloc (.cells #[.int .u8 (bits BinOp.xor IntKind.u8 x0 by_)] 5)).drew.cell? ⟨w4.heap.size, 0, none⟩ = some (.int .u8 (bits BinOp.xor IntKind.u8 x0 by_)) := blk_cell n5 0
            clear hK K
            refine wpAnyH_ready (rs := [12]) (by kernel_rfl) (by simp) ?_
            refine AllReadyH.cons (o := ⟨_, _, _, _, _, _⟩) rfl (fun K hK => ?_) (AllReadyH.nil)
            have hcv := conv1 _ _ _ n6
            obtain ⟨cc, hcc⟩ : ∃ cc, cc = strOfNums [bits BinOp.xor IntKind.u8 x0 by_] := ⟨_, rfl⟩
            rw [← hcc] at hcv
            have hc1 : cc.size = 1 := by rw [hcc]; rfl
            clear hcc
            go_simp
            refine hK.out _ _ hHeld (fun hHeld => ?_)
            clear hK K
            refine wpAnyH_take (i := 13) (oi := ⟨_, _, _, _, _, _⟩) (v := ?_) rfl (by kernel_rfl) (by kernel_rfl) (by kernel_rfl) (fun _ _ _ h => h) (Or.inl ⟨by rfl, ?_⟩) (by assumption) ?_
            rotate_left
            · (intro w hSw; (try dsimp only at hSw); go_simp); with_reducible rfl
            simp only [Act.put, List.setIfInBounds_toArray, List.set_cons_zero, List.set_cons_succ]
            refine wpAnyH_take (i := 19) (oi := ⟨_, _, _, _, _, _⟩) (v := ?_) rfl (by kernel_rfl) (by kernel_rfl) (by kernel_rfl) (fun _ _ _ h => h) (Or.inl ⟨by rfl, ?_⟩) (by assumption) ?_
            rotate_left
            · (intro w hSw; (try dsimp only at hSw); go_simp); with_reducible rfl
            simp only [Act.put, List.setIfInBounds_toArray, List.set_cons_zero, List.set_cons_succ]
            refine wpAnyH_take (i := 20) (oi := ⟨_, _, _, _, _, _⟩) (v := ?_) rfl (by kernel_rfl) (by kernel_rfl) (by kernel_rfl) (fun _ _ _ h => h) (Or.inl ⟨by rfl, ?_⟩) (by assumption) ?_
            rotate_left
            · (intro w hSw; (try dsimp only at hSw); go_simp); with_reducible rfl
            simp only [Act.put, List.setIfInBounds_toArray, List.set_cons_zero, List.set_cons_succ]
            refine wpAnyH_ready (rs := [21]) (by kernel_rfl) (by simp) ?_
            refine AllReadyH.cons (o := ⟨_, _, _, _, _, _⟩) rfl (fun K hK => ?_) (AllReadyH.nil)
            obtain ⟨yy, hyy⟩ : ∃ yy, yy = sv'.extract 0 k ++ cc ++ sv'.extract (k + 1) sv'.size := ⟨_, rfl⟩
            have hch : Chg sv' yy k := by rw [hyy]; exact chg_mk sv' cc k hk2 hc1
            rw [← hyy]
            clear hyy hcv
            have z0 : (w4.alloc (.cells #[.int .u8 (bits BinOp.xor IntKind.u8 x0 by_)] 5)).drew.cell? ⟨g7, 2, none⟩ = some (.string sv') := blk_cell U5 2
            have z1 : (w4.alloc (.cells #[.int .u8 (bits BinOp.xor IntKind.u8 x0 by_)] 5)).drew.frozen? ⟨g7, 2, none⟩ = false := blk_free U5 2
            have T6 := T5.put l0 2 (.string yy)
            have U6 : ScAt ((w4.alloc (.cells #[.int .u8 (bits BinOp.xor IntKind.u8 x0 by_)] 5)).drew.setCell ⟨g7, 2, none⟩ (.string yy)) g7 p' ao n' c yy rm' := by
              have := blk_set U5 2 (.string yy)
              simpa [ScAt] using this
            go_simp
            refine hK.out _ _ ⟨blk_cell T6.A 2, blk_cell T6.Q 2⟩ (fun hHeld => ?_)
            clear hK K
            refine wpAnyH_done (by kernel_rfl) (NoPanic.normal ?_) _
            obtain ⟨w7, hw7⟩ : ∃ w7, w7 = ((w4.alloc (.cells #[.int .u8 (bits BinOp.xor IntKind.u8 x0 by_)] 5)).setCell ⟨g7, 2, none⟩ (.string yy)).drew := ⟨_, rfl⟩
            have T7 : Ch w w7 p0 p1 ra rn' rc sa sn' sc p' ao n' c sv' rm' which (k : Int) by_ := by rw [hw7]; exact T6
            have U7 : ScAt w7 g7 p' ao n' c yy rm' := by rw [hw7]; exact U6
            rw [← hw7]
            clear hw7 T6 U6 T5 U5 B5 n5 n6 z0 z1 U4 T4
            clear c0 c1 c2 c3 d0 d1 d2 d3 q0 q1 q2
            have c0 : w7.cell? ⟨w.heap.size, 0, none⟩ = some (.bool p0) := blk_cell T7.P 0
            have c1 : w7.cell? ⟨w.heap.size, 1, none⟩ = some (.bool p1) := blk_cell T7.P 1
            have c2 : w7.cell? ⟨w.heap.size, 2, none⟩ = some (.slice ra rn' rc) := blk_cell T7.P 2
            have c3 : w7.cell? ⟨w.heap.size, 3, none⟩ = some (.slice sa sn' sc) := blk_cell T7.P 3
            have d0 : w7.cell? ⟨w.heap.size + 1, 0, none⟩ = some (.string p') := blk_cell T7.A 0
            have d1 : w7.cell? ⟨w.heap.size + 1, 1, none⟩ = some (.slice ao n' c) := blk_cell T7.A 1
            have d2 : w7.cell? ⟨w.heap.size + 1, 2, none⟩ = some (.string sv') := blk_cell T7.A 2
            have d3 : w7.cell? ⟨w.heap.size + 1, 3, none⟩ = some (.string rm') := blk_cell T7.A 3
            have q0 : w7.cell? ⟨w.heap.size + 1 + 1, 0, none⟩ = some (.int .u8 which) := blk_cell T7.Q 0
            have q1 : w7.cell? ⟨w.heap.size + 1 + 1, 1, none⟩ = some (.int .u16 k) := blk_cell T7.Q 1
            have q2 : w7.cell? ⟨w.heap.size + 1 + 1, 2, none⟩ = some (.int .u8 by_) := blk_cell T7.Q 2
            have u0 : w7.cell? ⟨g7, 0, none⟩ = some (.string p') := blk_cell U7 0
            have u1 : w7.cell? ⟨g7, 1, none⟩ = some (.slice ao n' c) := blk_cell U7 1
            have u2 : w7.cell? ⟨g7, 2, none⟩ = some (.string yy) := blk_cell U7 2
            have u3 : w7.cell? ⟨g7, 3, none⟩ = some (.string rm') := blk_cell U7 3
            have hsz := hch.sz
            go_wp2_with fail
            refine (rin_any sa sn' sc F' T' (k : Int) _ (by have := hPol.sl; omega) (hPol.below T7.bl).s).mono ?_
            obtain ⟨sec, hsec⟩ : ∃ sec, sec = inG F' T' sn' (k : Int) := ⟨_, rfl⟩
            rw [← hsec]
            have HSEC := hidI hsec; clear hsec
            rintro e w7' ⟨rfl, rfl⟩
            go_wp2_with fail
            obtain ⟨sm, hsm⟩ : ∃ sm, sameB p' n' sv' rm' R p' n' yy rm' R = sm := ⟨_, rfl⟩
            have ALK : Hid (alkB p0 p1 rn' sn' F T F' T' p' n' sv' rm' R p' n' yy rm' R = (sec || sm)) := by show _ = _; rw [← hsm]; exact (by rw [alk_v Q1.out Q2.out hch, HSEC.out]; simp [secB])
            have HSM := hidI hsm; clear hsm
            refine (alike_any p0 p1 ra rn' rc sa sn' sc F T F' T' p' ao n' c sv' rm' R p' ao n' c yy rm' R _ (hPol.below T7.bl) (by omega) (by have := hsz; omega) (by omega) (by omega) (by omega) (by have := hsz; omega) (by omega) (by have := hsz; omega) (hI.below T7.bl) (hI.below T7.bl)).mono ?_
            rw [ALK.out]
            rintro e w8 ⟨rfl, b8⟩
            have T8 := T7.below b8
            have U8 := U7.below b8
            clear b8 c0 c1 c2 c3 d0 d1 d2 d3 q0 q1 q2 u0 u1 u2 u3
            have c0 : w8.cell? ⟨w.heap.size, 0, none⟩ = some (.bool p0) := blk_cell T8.P 0
            have c1 : w8.cell? ⟨w.heap.size, 1, none⟩ = some (.bool p1) := blk_cell T8.P 1
            have c2 : w8.cell? ⟨w.heap.size, 2, none⟩ = some (.slice ra rn' rc) := blk_cell T8.P 2
            have c3 : w8.cell? ⟨w.heap.size, 3, none⟩ = some (.slice sa sn' sc) := blk_cell T8.P 3
            have d0 : w8.cell? ⟨w.heap.size + 1, 0, none⟩ = some (.string p') := blk_cell T8.A 0
            have d1 : w8.cell? ⟨w.heap.size + 1, 1, none⟩ = some (.slice ao n' c) := blk_cell T8.A 1
            have d2 : w8.cell? ⟨w.heap.size + 1, 2, none⟩ = some (.string sv') := blk_cell T8.A 2
            have d3 : w8.cell? ⟨w.heap.size + 1, 3, none⟩ = some (.string rm') := blk_cell T8.A 3
            have q0 : w8.cell? ⟨w.heap.size + 1 + 1, 0, none⟩ = some (.int .u8 which) := blk_cell T8.Q 0
            have q1 : w8.cell? ⟨w.heap.size + 1 + 1, 1, none⟩ = some (.int .u16 k) := blk_cell T8.Q 1
            have q2 : w8.cell? ⟨w.heap.size + 1 + 1, 2, none⟩ = some (.int .u8 by_) := blk_cell T8.Q 2
            have u0 : w8.cell? ⟨g7, 0, none⟩ = some (.string p') := blk_cell U8 0
            have u1 : w8.cell? ⟨g7, 1, none⟩ = some (.slice ao n' c) := blk_cell U8 1
            have u2 : w8.cell? ⟨g7, 2, none⟩ = some (.string yy) := blk_cell U8 2
            have u3 : w8.cell? ⟨g7, 3, none⟩ = some (.string rm') := blk_cell U8 3
            cases sec
            · simp only [Bool.false_or]
              go_wp2_with fail
              refine (same_any p' ao n' c sv' rm' R p' ao n' c yy rm' R _ (by omega) (hI.below T8.bl) (hI.below T8.bl)).mono ?_
              rw [HSM.out]
              rintro e w9 ⟨rfl, b9⟩
              have T9 := T8.below b9
              go_wp2_with fail
              refine (awake_any _).mono ?_
              rintro e wA ⟨rfl, bA⟩
              go_wp2
              go_ret
              exact ⟨rfl, T9.bl.trans (bA.mono T9.bl.size)⟩
            · simp only [Bool.true_or]
              go_wp2_with fail
              refine (awake_any _).mono ?_
              rintro e wA ⟨rfl, bA⟩
              go_wp2
              go_ret
              exact ⟨rfl, T8.bl.trans (bA.mono T8.bl.size)⟩
          · have hin' : ¬ ((k : Int) < sv'.size) := by omega
            have u0 : w4.cell? ⟨g7, 0, none⟩ = some (.string p') := blk_cell U4 0
            have u1 : w4.cell? ⟨g7, 1, none⟩ = some (.slice ao n' c) := blk_cell U4 1
            have u2 : w4.cell? ⟨g7, 2, none⟩ = some (.string sv') := blk_cell U4 2
            have u3 : w4.cell? ⟨g7, 3, none⟩ = some (.string rm') := blk_cell U4 3
            have hsz : True := trivial
            go_wp2_with fail
            obtain ⟨sm, hsm⟩ : ∃ sm, sameB p' n' sv' rm' R p' n' sv' rm' R = sm := ⟨_, rfl⟩
            have ALK : Hid (alkB p0 p1 rn' sn' F T F' T' p' n' sv' rm' R p' n' sv' rm' R = (false || sm)) := by show _ = _; rw [← hsm]; exact (by rw [alk_none Q1.out Q2.out, same_none]; simp)
            have HSM := hidI hsm; clear hsm
            refine (alike_any p0 p1 ra rn' rc sa sn' sc F T F' T' p' ao n' c sv' rm' R p' ao n' c sv' rm' R _ (hPol.below T4.bl) (by omega) (by have := hsz; omega) (by omega) (by omega) (by omega) (by have := hsz; omega) (by omega) (by have := hsz; omega) (hI.below T4.bl) (hI.below T4.bl)).mono ?_
            rw [ALK.out]
            rintro e w8 ⟨rfl, b8⟩
            have T8 := T4.below b8
            have U8 := U4.below b8
            clear b8 c0 c1 c2 c3 d0 d1 d2 d3 q0 q1 q2 u0 u1 u2 u3
            have c0 : w8.cell? ⟨w.heap.size, 0, none⟩ = some (.bool p0) := blk_cell T8.P 0
            have c1 : w8.cell? ⟨w.heap.size, 1, none⟩ = some (.bool p1) := blk_cell T8.P 1
            have c2 : w8.cell? ⟨w.heap.size, 2, none⟩ = some (.slice ra rn' rc) := blk_cell T8.P 2
            have c3 : w8.cell? ⟨w.heap.size, 3, none⟩ = some (.slice sa sn' sc) := blk_cell T8.P 3
            have d0 : w8.cell? ⟨w.heap.size + 1, 0, none⟩ = some (.string p') := blk_cell T8.A 0
            have d1 : w8.cell? ⟨w.heap.size + 1, 1, none⟩ = some (.slice ao n' c) := blk_cell T8.A 1
            have d2 : w8.cell? ⟨w.heap.size + 1, 2, none⟩ = some (.string sv') := blk_cell T8.A 2
            have d3 : w8.cell? ⟨w.heap.size + 1, 3, none⟩ = some (.string rm') := blk_cell T8.A 3
            have q0 : w8.cell? ⟨w.heap.size + 1 + 1, 0, none⟩ = some (.int .u8 which) := blk_cell T8.Q 0
            have q1 : w8.cell? ⟨w.heap.size + 1 + 1, 1, none⟩ = some (.int .u16 k) := blk_cell T8.Q 1
            have q2 : w8.cell? ⟨w.heap.size + 1 + 1, 2, none⟩ = some (.int .u8 by_) := blk_cell T8.Q 2
            have u0 : w8.cell? ⟨g7, 0, none⟩ = some (.string p') := blk_cell U8 0
            have u1 : w8.cell? ⟨g7, 1, none⟩ = some (.slice ao n' c) := blk_cell U8 1
            have u2 : w8.cell? ⟨g7, 2, none⟩ = some (.string sv') := blk_cell U8 2
            have u3 : w8.cell? ⟨g7, 3, none⟩ = some (.string rm') := blk_cell U8 3
            simp only [Bool.false_or]
            go_wp2_with fail
            refine (same_any p' ao n' c sv' rm' R p' ao n' c sv' rm' R _ (by omega) (hI.below T8.bl) (hI.below T8.bl)).mono ?_
            rw [HSM.out]
            rintro e w9 ⟨rfl, b9⟩
            have T9 := T8.below b9
            go_wp2_with fail
            refine (awake_any _).mono ?_
            rintro e wA ⟨rfl, bA⟩
            go_wp2
            go_ret
            exact ⟨rfl, T9.bl.trans (bA.mono T9.bl.size)⟩
end Go.Proofs.Ytkhjfcbloahjeaa
