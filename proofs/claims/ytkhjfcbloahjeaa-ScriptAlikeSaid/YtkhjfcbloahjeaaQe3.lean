import Derived.Test.YtkhjfcbloahjeaaQe2
namespace Go.Proofs.Ytkhjfcbloahjeaa
open Go.RowKit Go.Sx
theorem PoAt.put3 {w : World} {g : Nat} {p0 p1 q0 q1 : Bool} {ra ra' sa sa' : Option Addr} {rn rc sn sc rn' rc' sn' sc' : Nat} (h : PoAt w g p0 p1 ra rn rc sa sn sc) :
    PoAt ((((w.setCell ⟨g, 0, none⟩ (.bool q0)).setCell ⟨g, 1, none⟩ (.bool q1)).setCell ⟨g, 2, none⟩ (.slice ra' rn' rc')).setCell ⟨g, 3, none⟩ (.slice sa' sn' sc')) g q0 q1 ra' rn' rc' sa' sn' sc' := by
  have := blk_set (blk_set (blk_set (blk_set h 0 (.bool q0)) 1 (.bool q1)) 2 (.slice ra' rn' rc')) 3 (.slice sa' sn' sc')
  simpa [PoAt] using this
theorem oth43 {w : World} {g B : Nat} (h : B ≠ g) (v0 v1 v2 v3 : Value) : ((((w.setCell ⟨B, 0, none⟩ v0).setCell ⟨B, 1, none⟩ v1).setCell ⟨B, 2, none⟩ v2).setCell ⟨B, 3, none⟩ v3).heap[g]? = w.heap[g]? :=
  (blk_other (by exact h) _).trans ((blk_other (by exact h) _).trans ((blk_other (by exact h) _).trans (blk_other (by exact h) _)))
theorem Tri.few {w wk : World} {p0 p1 : Bool} {ra : Option Addr} {rn rc : Nat} {sa : Option Addr} {sn sc : Nat} {pa : ByteArray} {aa : Option Addr} {na ca : Nat} {va ma : ByteArray} {pb : ByteArray} {ab : Option Addr} {nb cb : Nat} {vb mb : ByteArray} (h : Tri w wk p0 p1 ra rn rc sa sn sc pa aa na ca va ma pb ab nb cb vb mb)
    {rn' sn' : Nat} {pa' : ByteArray} {na' : Nat} {va' ma' pb' : ByteArray} {nb' : Nat} {vb' mb' : ByteArray} :
    Tri w ((((((((((((wk.setCell ⟨w.heap.size, 0, none⟩ (.bool p0)).setCell ⟨w.heap.size, 1, none⟩ (.bool p1)).setCell ⟨w.heap.size, 2, none⟩ (.slice ra rn' rc)).setCell ⟨w.heap.size, 3, none⟩ (.slice sa sn' sc)).setCell ⟨w.heap.size + 1, 0, none⟩ (.string pa')).setCell ⟨w.heap.size + 1, 1, none⟩ (.slice aa na' ca)).setCell ⟨w.heap.size + 1, 2, none⟩ (.string va')).setCell ⟨w.heap.size + 1, 3, none⟩ (.string ma')).setCell ⟨w.heap.size + 1 + 1, 0, none⟩ (.string pb')).setCell ⟨w.heap.size + 1 + 1, 1, none⟩ (.slice ab nb' cb)).setCell ⟨w.heap.size + 1 + 1, 2, none⟩ (.string vb')).setCell ⟨w.heap.size + 1 + 1, 3, none⟩ (.string mb')) p0 p1 ra rn' rc sa sn' sc pa' aa na' ca va' ma' pb' ab nb' cb vb' mb' := by
  have hA : ScAt ((((wk.setCell ⟨w.heap.size, 0, none⟩ (.bool p0)).setCell ⟨w.heap.size, 1, none⟩ (.bool p1)).setCell ⟨w.heap.size, 2, none⟩ (.slice ra rn' rc)).setCell ⟨w.heap.size, 3, none⟩ (.slice sa sn' sc)) (w.heap.size + 1) pa aa na ca va ma := (oth43 (by omega) _ _ _ _).trans h.A
  have hB : ScAt ((((((((wk.setCell ⟨w.heap.size, 0, none⟩ (.bool p0)).setCell ⟨w.heap.size, 1, none⟩ (.bool p1)).setCell ⟨w.heap.size, 2, none⟩ (.slice ra rn' rc)).setCell ⟨w.heap.size, 3, none⟩ (.slice sa sn' sc)).setCell ⟨w.heap.size + 1, 0, none⟩ (.string pa')).setCell ⟨w.heap.size + 1, 1, none⟩ (.slice aa na' ca)).setCell ⟨w.heap.size + 1, 2, none⟩ (.string va')).setCell ⟨w.heap.size + 1, 3, none⟩ (.string ma')) (w.heap.size + 1 + 1) pb ab nb cb vb mb := (oth43 (by omega) _ _ _ _).trans ((oth43 (by omega) _ _ _ _).trans h.B)
  exact ⟨(oth43 (by omega) _ _ _ _).trans ((oth43 (by omega) _ _ _ _).trans h.P.put3), (oth43 (by omega) _ _ _ _).trans hA.set, hB.set, b4 (b4 (b4 h.bl (Nat.le_refl _) _ _ _ _) (by omega) _ _ _ _) (by omega) _ _ _ _⟩
theorem sec_same {x y : ByteArray} {sec : Nat → Bool} (h : secAll sec x y x.size = true) (hs : x.size = y.size) (i : Nat) : sec i = true ∨ bt x i = bt y i := by
  by_cases hi : i < x.size
  · unfold secAll at h
    rw [List.all_eq_true] at h
    have := h i (by simpa using hi)
    simpa using this
  · exact .inr (by rw [bt_out (by omega), bt_out (by omega)])
theorem pad_get {p0 p1 : Bool} {pa pb : ByteArray} {n : Nat} (h : padAll p0 p1 pa pb n = true) {i j : Nat} (hi : i < n) (hj : j < 2) : padOk p0 p1 pa pb i j = true := by
  unfold padAll at h
  rw [List.all_eq_true] at h
  have := h i (by simpa using hi)
  rw [Bool.and_eq_true] at this
  have hh : j = 0 ∨ j = 1 := by omega
  rcases hh with rfl | rfl
  · exact this.1
  · exact this.2
set_option maxRecDepth 100000 in
set_option maxHeartbeats 25600000 in
theorem salike_law (p0 p1 : Bool) (ra : Option Addr) (rn rc : Nat) (sa : Option Addr) (sn sc : Nat) (F T F' T' : Nat → Int) (pa : ByteArray) (aa : Option Addr) (na ca : Nat) (va ma : ByteArray) (A : Nat → Int) (pb : ByteArray) (ab : Option Addr) (nb cb : Nat) (vb mb : ByteArray) (B : Nat → Int) (w : World)
    (hrc : rn ≤ rc) (hsc : sn ≤ sc) (hca : na ≤ ca) (hcb : nb ≤ cb) (hRa : RgAt w ra rn F T) (hSa : RgAt w sa sn F' T') (hA : IntsAt w aa na A) (hB : IntsAt w ab nb B) (hAR : IntsR A na) (hBR : IntsR B nb) :
    Calls Try.prog 7 #[poV p0 p1 ra rn rc sa sn sc, scV pa aa na ca va ma, scV pb ab nb cb vb mb] w fun e w' => e = .returned (.bool true) ∧ Below w.heap.size w w' := by
  have Tk := (Tri.new w p0 p1 ra rn rc sa sn sc pa aa na ca va ma pb ab nb cb vb mb).below (Below.refl _ _).drew
  go_enter Try.func7, Try.ntmps7
  go_upto_region 1 with fail
  go_cut [6] (fun z wx => z = .bool false ∧ ∃ pa' na' va' ma' pb' nb' vb' mb', (pa'.size ≤ 1201 ∧ na' ≤ 20 ∧ na' ≤ na ∧ va'.size ≤ 8193 ∧ ma'.size ≤ 2049) ∧ (pb'.size ≤ 1201 ∧ nb' ≤ 20 ∧ nb' ≤ nb ∧ vb'.size ≤ 8193 ∧ mb'.size ≤ 2049) ∧ Tri w wx p0 p1 ra (min rn 20) rc sa (min sn 20) sc pa' aa na' ca va' ma' pb' ab nb' cb vb' mb')
  case first =>
    have c0 : World.cell? _ ⟨w.heap.size, 0, none⟩ = some (.bool p0) := blk_cell Tk.P 0
    have f0 : World.frozen? _ ⟨w.heap.size, 0, none⟩ = false := blk_free Tk.P 0
    have c1 : World.cell? _ ⟨w.heap.size, 1, none⟩ = some (.bool p1) := blk_cell Tk.P 1
    have f1 : World.frozen? _ ⟨w.heap.size, 1, none⟩ = false := blk_free Tk.P 1
    have c2 : World.cell? _ ⟨w.heap.size, 2, none⟩ = some (.slice ra rn rc) := blk_cell Tk.P 2
    have f2 : World.frozen? _ ⟨w.heap.size, 2, none⟩ = false := blk_free Tk.P 2
    have c3 : World.cell? _ ⟨w.heap.size, 3, none⟩ = some (.slice sa sn sc) := blk_cell Tk.P 3
    have f3 : World.frozen? _ ⟨w.heap.size, 3, none⟩ = false := blk_free Tk.P 3
    have d0 : World.cell? _ ⟨w.heap.size + 1, 0, none⟩ = some (.string pa) := blk_cell Tk.A 0
    have g0 : World.frozen? _ ⟨w.heap.size + 1, 0, none⟩ = false := blk_free Tk.A 0
    have d1 : World.cell? _ ⟨w.heap.size + 1, 1, none⟩ = some (.slice aa na ca) := blk_cell Tk.A 1
    have g1 : World.frozen? _ ⟨w.heap.size + 1, 1, none⟩ = false := blk_free Tk.A 1
    have d2 : World.cell? _ ⟨w.heap.size + 1, 2, none⟩ = some (.string va) := blk_cell Tk.A 2
    have g2 : World.frozen? _ ⟨w.heap.size + 1, 2, none⟩ = false := blk_free Tk.A 2
    have d3 : World.cell? _ ⟨w.heap.size + 1, 3, none⟩ = some (.string ma) := blk_cell Tk.A 3
    have g3 : World.frozen? _ ⟨w.heap.size + 1, 3, none⟩ = false := blk_free Tk.A 3
    have u0 : World.cell? _ ⟨w.heap.size + 1 + 1, 0, none⟩ = some (.string pb) := blk_cell Tk.B 0
    have h0 : World.frozen? _ ⟨w.heap.size + 1 + 1, 0, none⟩ = false := blk_free Tk.B 0
    have u1 : World.cell? _ ⟨w.heap.size + 1 + 1, 1, none⟩ = some (.slice ab nb cb) := blk_cell Tk.B 1
    have h1 : World.frozen? _ ⟨w.heap.size + 1 + 1, 1, none⟩ = false := blk_free Tk.B 1
    have u2 : World.cell? _ ⟨w.heap.size + 1 + 1, 2, none⟩ = some (.string vb) := blk_cell Tk.B 2
    have h2 : World.frozen? _ ⟨w.heap.size + 1 + 1, 2, none⟩ = false := blk_free Tk.B 2
    have u3 : World.cell? _ ⟨w.heap.size + 1 + 1, 3, none⟩ = some (.string mb) := blk_cell Tk.B 3
    have h3 : World.frozen? _ ⟨w.heap.size + 1 + 1, 3, none⟩ = false := blk_free Tk.B 3
    refine wp_region_noPanic ?_
    refine wp_region_held_drew (S := (fun _ => True)) (by kernel_rfl) trivial (fun hHeld => ?_)
    refine wpAnyH_ready (rs := [0, 2, 4]) (by kernel_rfl) (by simp) ?_
    refine AllReadyH.cons (o := ⟨_, _, _, _, _, _⟩) rfl (fun K hK => ?_) (AllReadyH.cons (o := ⟨_, _, _, _, _, _⟩) rfl (fun K hK => ?_) (AllReadyH.cons (o := ⟨_, _, _, _, _, _⟩) rfl (fun K hK => ?_) (AllReadyH.nil)))
    · go_simp
      refine hK.out _ _ trivial (fun hHeld => ?_)
      clear hK K
      refine wpAnyH_ready (rs := [1, 2, 4]) (by kernel_rfl) (by simp) ?_
      refine AllReadyH.cons (o := ⟨_, _, _, _, _, _⟩) rfl (fun K hK => ?_) (AllReadyH.cons (o := ⟨_, _, _, _, _, _⟩) rfl (fun K hK => ?_) (AllReadyH.cons (o := ⟨_, _, _, _, _, _⟩) rfl (fun K hK => ?_) (AllReadyH.nil)))
      · go_simp
        refine (few3_any p0 p1 ra rn rc sa sn sc _ hrc hsc).mono ?_
        rintro e wa ⟨rfl, ba⟩
        have T1 := Tk.below ba
        clear Tk ba c0 c1 c2 c3 f0 f1 f2 f3 d0 d1 d2 d3 g0 g1 g2 g3 u0 u1 u2 u3 h0 h1 h2 h3
        rename Tri w wa _ _ _ _ _ _ _ _ _ _ _ _ _ _ _ _ _ _ _ _ => Tk
        have c0 : wa.cell? ⟨w.heap.size, 0, none⟩ = some (.bool p0) := blk_cell Tk.P 0
        have f0 : wa.frozen? ⟨w.heap.size, 0, none⟩ = false := blk_free Tk.P 0
        have c1 : wa.cell? ⟨w.heap.size, 1, none⟩ = some (.bool p1) := blk_cell Tk.P 1
        have f1 : wa.frozen? ⟨w.heap.size, 1, none⟩ = false := blk_free Tk.P 1
        have c2 : wa.cell? ⟨w.heap.size, 2, none⟩ = some (.slice ra rn rc) := blk_cell Tk.P 2
        have f2 : wa.frozen? ⟨w.heap.size, 2, none⟩ = false := blk_free Tk.P 2
        have c3 : wa.cell? ⟨w.heap.size, 3, none⟩ = some (.slice sa sn sc) := blk_cell Tk.P 3
        have f3 : wa.frozen? ⟨w.heap.size, 3, none⟩ = false := blk_free Tk.P 3
        have d0 : wa.cell? ⟨w.heap.size + 1, 0, none⟩ = some (.string pa) := blk_cell Tk.A 0
        have g0 : wa.frozen? ⟨w.heap.size + 1, 0, none⟩ = false := blk_free Tk.A 0
        have d1 : wa.cell? ⟨w.heap.size + 1, 1, none⟩ = some (.slice aa na ca) := blk_cell Tk.A 1
        have g1 : wa.frozen? ⟨w.heap.size + 1, 1, none⟩ = false := blk_free Tk.A 1
        have d2 : wa.cell? ⟨w.heap.size + 1, 2, none⟩ = some (.string va) := blk_cell Tk.A 2
        have g2 : wa.frozen? ⟨w.heap.size + 1, 2, none⟩ = false := blk_free Tk.A 2
        have d3 : wa.cell? ⟨w.heap.size + 1, 3, none⟩ = some (.string ma) := blk_cell Tk.A 3
        have g3 : wa.frozen? ⟨w.heap.size + 1, 3, none⟩ = false := blk_free Tk.A 3
        have u0 : wa.cell? ⟨w.heap.size + 1 + 1, 0, none⟩ = some (.string pb) := blk_cell Tk.B 0
        have h0 : wa.frozen? ⟨w.heap.size + 1 + 1, 0, none⟩ = false := blk_free Tk.B 0
        have u1 : wa.cell? ⟨w.heap.size + 1 + 1, 1, none⟩ = some (.slice ab nb cb) := blk_cell Tk.B 1
        have h1 : wa.frozen? ⟨w.heap.size + 1 + 1, 1, none⟩ = false := blk_free Tk.B 1
        have u2 : wa.cell? ⟨w.heap.size + 1 + 1, 2, none⟩ = some (.string vb) := blk_cell Tk.B 2
        have h2 : wa.frozen? ⟨w.heap.size + 1 + 1, 2, none⟩ = false := blk_free Tk.B 2
        have u3 : wa.cell? ⟨w.heap.size + 1 + 1, 3, none⟩ = some (.string mb) := blk_cell Tk.B 3
        have h3 : wa.frozen? ⟨w.heap.size + 1 + 1, 3, none⟩ = false := blk_free Tk.B 3
        refine hK.out _ _ trivial (fun hHeld => ?_)
        clear hK K
        refine wpAnyH_ready (rs := [2, 4]) (by kernel_rfl) (by simp) ?_
        refine AllReadyH.cons (o := ⟨_, _, _, _, _, _⟩) rfl (fun K hK => ?_) (AllReadyH.cons (o := ⟨_, _, _, _, _, _⟩) rfl (fun K hK => ?_) (AllReadyH.nil))
        · go_simp
          refine hK.out _ _ trivial (fun hHeld => ?_)
          clear hK K
          refine wpAnyH_ready (rs := [3, 4]) (by kernel_rfl) (by simp) ?_
          refine AllReadyH.cons (o := ⟨_, _, _, _, _, _⟩) rfl (fun K hK => ?_) (AllReadyH.cons (o := ⟨_, _, _, _, _, _⟩) rfl (fun K hK => ?_) (AllReadyH.nil))
          · go_simp
            refine (few_any pa aa na ca va ma _ hca).mono ?_
            rintro e wb ⟨⟨pa', na', va', ma', rfl, hpa', hna', hnaa', hva', hma'⟩, bb⟩
            have T1 := Tk.below bb
            clear Tk bb c0 c1 c2 c3 f0 f1 f2 f3 d0 d1 d2 d3 g0 g1 g2 g3 u0 u1 u2 u3 h0 h1 h2 h3
            rename Tri w wb _ _ _ _ _ _ _ _ _ _ _ _ _ _ _ _ _ _ _ _ => Tk
            have c0 : wb.cell? ⟨w.heap.size, 0, none⟩ = some (.bool p0) := blk_cell Tk.P 0
            have f0 : wb.frozen? ⟨w.heap.size, 0, none⟩ = false := blk_free Tk.P 0
            have c1 : wb.cell? ⟨w.heap.size, 1, none⟩ = some (.bool p1) := blk_cell Tk.P 1
            have f1 : wb.frozen? ⟨w.heap.size, 1, none⟩ = false := blk_free Tk.P 1
            have c2 : wb.cell? ⟨w.heap.size, 2, none⟩ = some (.slice ra rn rc) := blk_cell Tk.P 2
            have f2 : wb.frozen? ⟨w.heap.size, 2, none⟩ = false := blk_free Tk.P 2
            have c3 : wb.cell? ⟨w.heap.size, 3, none⟩ = some (.slice sa sn sc) := blk_cell Tk.P 3
            have f3 : wb.frozen? ⟨w.heap.size, 3, none⟩ = false := blk_free Tk.P 3
            have d0 : wb.cell? ⟨w.heap.size + 1, 0, none⟩ = some (.string pa) := blk_cell Tk.A 0
            have g0 : wb.frozen? ⟨w.heap.size + 1, 0, none⟩ = false := blk_free Tk.A 0
            have d1 : wb.cell? ⟨w.heap.size + 1, 1, none⟩ = some (.slice aa na ca) := blk_cell Tk.A 1
            have g1 : wb.frozen? ⟨w.heap.size + 1, 1, none⟩ = false := blk_free Tk.A 1
            have d2 : wb.cell? ⟨w.heap.size + 1, 2, none⟩ = some (.string va) := blk_cell Tk.A 2
            have g2 : wb.frozen? ⟨w.heap.size + 1, 2, none⟩ = false := blk_free Tk.A 2
            have d3 : wb.cell? ⟨w.heap.size + 1, 3, none⟩ = some (.string ma) := blk_cell Tk.A 3
            have g3 : wb.frozen? ⟨w.heap.size + 1, 3, none⟩ = false := blk_free Tk.A 3
            have u0 : wb.cell? ⟨w.heap.size + 1 + 1, 0, none⟩ = some (.string pb) := blk_cell Tk.B 0
            have h0 : wb.frozen? ⟨w.heap.size + 1 + 1, 0, none⟩ = false := blk_free Tk.B 0
            have u1 : wb.cell? ⟨w.heap.size + 1 + 1, 1, none⟩ = some (.slice ab nb cb) := blk_cell Tk.B 1
            have h1 : wb.frozen? ⟨w.heap.size + 1 + 1, 1, none⟩ = false := blk_free Tk.B 1
            have u2 : wb.cell? ⟨w.heap.size + 1 + 1, 2, none⟩ = some (.string vb) := blk_cell Tk.B 2
            have h2 : wb.frozen? ⟨w.heap.size + 1 + 1, 2, none⟩ = false := blk_free Tk.B 2
            have u3 : wb.cell? ⟨w.heap.size + 1 + 1, 3, none⟩ = some (.string mb) := blk_cell Tk.B 3
            have h3 : wb.frozen? ⟨w.heap.size + 1 + 1, 3, none⟩ = false := blk_free Tk.B 3
            refine hK.out _ _ trivial (fun hHeld => ?_)
            clear hK K
            refine wpAnyH_ready (rs := [4]) (by kernel_rfl) (by simp) ?_
            refine AllReadyH.cons (o := ⟨_, _, _, _, _, _⟩) rfl (fun K hK => ?_) (AllReadyH.nil)
            go_simp
            refine hK.out _ _ trivial (fun hHeld => ?_)
            clear hK K
            refine wpAnyH_ready (rs := [5]) (by kernel_rfl) (by simp) ?_
            refine AllReadyH.cons (o := ⟨_, _, _, _, _, _⟩) rfl (fun K hK => ?_) (AllReadyH.nil)
            go_simp
            refine (few_any pb ab nb cb vb mb _ hcb).mono ?_
            rintro e wc2 ⟨⟨pb', nb', vb', mb', rfl, hpb', hnb', hnbb', hvb', hmb'⟩, bc⟩
            have T1 := Tk.below bc
            clear Tk bc c0 c1 c2 c3 f0 f1 f2 f3 d0 d1 d2 d3 g0 g1 g2 g3 u0 u1 u2 u3 h0 h1 h2 h3
            rename Tri w wc2 _ _ _ _ _ _ _ _ _ _ _ _ _ _ _ _ _ _ _ _ => Tk
            have c0 : wc2.cell? ⟨w.heap.size, 0, none⟩ = some (.bool p0) := blk_cell Tk.P 0
            have f0 : wc2.frozen? ⟨w.heap.size, 0, none⟩ = false := blk_free Tk.P 0
            have c1 : wc2.cell? ⟨w.heap.size, 1, none⟩ = some (.bool p1) := blk_cell Tk.P 1
            have f1 : wc2.frozen? ⟨w.heap.size, 1, none⟩ = false := blk_free Tk.P 1
            have c2 : wc2.cell? ⟨w.heap.size, 2, none⟩ = some (.slice ra rn rc) := blk_cell Tk.P 2
            have f2 : wc2.frozen? ⟨w.heap.size, 2, none⟩ = false := blk_free Tk.P 2
            have c3 : wc2.cell? ⟨w.heap.size, 3, none⟩ = some (.slice sa sn sc) := blk_cell Tk.P 3
            have f3 : wc2.frozen? ⟨w.heap.size, 3, none⟩ = false := blk_free Tk.P 3
            have d0 : wc2.cell? ⟨w.heap.size + 1, 0, none⟩ = some (.string pa) := blk_cell Tk.A 0
            have g0 : wc2.frozen? ⟨w.heap.size + 1, 0, none⟩ = false := blk_free Tk.A 0
            have d1 : wc2.cell? ⟨w.heap.size + 1, 1, none⟩ = some (.slice aa na ca) := blk_cell Tk.A 1
            have g1 : wc2.frozen? ⟨w.heap.size + 1, 1, none⟩ = false := blk_free Tk.A 1
            have d2 : wc2.cell? ⟨w.heap.size + 1, 2, none⟩ = some (.string va) := blk_cell Tk.A 2
            have g2 : wc2.frozen? ⟨w.heap.size + 1, 2, none⟩ = false := blk_free Tk.A 2
            have d3 : wc2.cell? ⟨w.heap.size + 1, 3, none⟩ = some (.string ma) := blk_cell Tk.A 3
            have g3 : wc2.frozen? ⟨w.heap.size + 1, 3, none⟩ = false := blk_free Tk.A 3
            have u0 : wc2.cell? ⟨w.heap.size + 1 + 1, 0, none⟩ = some (.string pb) := blk_cell Tk.B 0
            have h0 : wc2.frozen? ⟨w.heap.size + 1 + 1, 0, none⟩ = false := blk_free Tk.B 0
            have u1 : wc2.cell? ⟨w.heap.size + 1 + 1, 1, none⟩ = some (.slice ab nb cb) := blk_cell Tk.B 1
            have h1 : wc2.frozen? ⟨w.heap.size + 1 + 1, 1, none⟩ = false := blk_free Tk.B 1
            have u2 : wc2.cell? ⟨w.heap.size + 1 + 1, 2, none⟩ = some (.string vb) := blk_cell Tk.B 2
            have h2 : wc2.frozen? ⟨w.heap.size + 1 + 1, 2, none⟩ = false := blk_free Tk.B 2
            have u3 : wc2.cell? ⟨w.heap.size + 1 + 1, 3, none⟩ = some (.string mb) := blk_cell Tk.B 3
            have h3 : wc2.frozen? ⟨w.heap.size + 1 + 1, 3, none⟩ = false := blk_free Tk.B 3
            refine hK.out _ _ trivial (fun hHeld => ?_)
            clear hK K
            refine wpAnyH_ready (rs := [6]) (by kernel_rfl) (by simp) ?_
            refine AllReadyH.cons (o := ⟨_, _, _, _, _, _⟩) rfl (fun K hK => ?_) (AllReadyH.nil)
            go_simp
            refine hK.out _ _ trivial (fun hHeld => ?_)
            clear hK K
            refine wpAnyH_ready (rs := [7]) (by kernel_rfl) (by simp) ?_
            refine AllReadyH.cons (o := ⟨_, _, _, _, _, _⟩) rfl (fun K hK => ?_) (AllReadyH.nil)
            go_simp
            refine hK.out _ _ trivial (fun hHeld => ?_)
            clear hK K
            refine wpAnyH_ready (rs := [8]) (by kernel_rfl) (by simp) ?_
            refine AllReadyH.cons (o := ⟨_, _, _, _, _, _⟩) rfl (fun K hK => ?_) (AllReadyH.nil)
            go_simp
            refine hK.out _ _ trivial (fun hHeld => ?_)
            clear hK K
            refine wpAnyH_done (by kernel_rfl) (NoPanic.normal ?_) _
            go_wp2_with fail
            go_meet
            exact ⟨rfl, pa', na', va', ma', pb', nb', vb', mb', ⟨hpa', hna', hnaa', hva', hma'⟩, ⟨hpb', hnb', hnbb', hvb', hmb'⟩, Tk.few⟩
          · go_simp
            refine hK.out _ _ trivial (fun hHeld => ?_)
            clear hK K
            refine wpAnyH_ready (rs := [3]) (by kernel_rfl) (by simp) ?_
            refine AllReadyH.cons (o := ⟨_, _, _, _, _, _⟩) rfl (fun K hK => ?_) (AllReadyH.nil)
            go_simp
            refine (few_any pa aa na ca va ma _ hca).mono ?_
            rintro e wb ⟨⟨pa', na', va', ma', rfl, hpa', hna', hnaa', hva', hma'⟩, bb⟩
            have T1 := Tk.below bb
            clear Tk bb c0 c1 c2 c3 f0 f1 f2 f3 d0 d1 d2 d3 g0 g1 g2 g3 u0 u1 u2 u3 h0 h1 h2 h3
            rename Tri w wb _ _ _ _ _ _ _ _ _ _ _ _ _ _ _ _ _ _ _ _ => Tk
            have c0 : wb.cell? ⟨w.heap.size, 0, none⟩ = some (.bool p0) := blk_cell Tk.P 0
            have f0 : wb.frozen? ⟨w.heap.size, 0, none⟩ = false := blk_free Tk.P 0
            have c1 : wb.cell? ⟨w.heap.size, 1, none⟩ = some (.bool p1) := blk_cell Tk.P 1
            have f1 : wb.frozen? ⟨w.heap.size, 1, none⟩ = false := blk_free Tk.P 1
            have c2 : wb.cell? ⟨w.heap.size, 2, none⟩ = some (.slice ra rn rc) := blk_cell Tk.P 2
            have f2 : wb.frozen? ⟨w.heap.size, 2, none⟩ = false := blk_free Tk.P 2
            have c3 : wb.cell? ⟨w.heap.size, 3, none⟩ = some (.slice sa sn sc) := blk_cell Tk.P 3
            have f3 : wb.frozen? ⟨w.heap.size, 3, none⟩ = false := blk_free Tk.P 3
            have d0 : wb.cell? ⟨w.heap.size + 1, 0, none⟩ = some (.string pa) := blk_cell Tk.A 0
            have g0 : wb.frozen? ⟨w.heap.size + 1, 0, none⟩ = false := blk_free Tk.A 0
            have d1 : wb.cell? ⟨w.heap.size + 1, 1, none⟩ = some (.slice aa na ca) := blk_cell Tk.A 1
            have g1 : wb.frozen? ⟨w.heap.size + 1, 1, none⟩ = false := blk_free Tk.A 1
            have d2 : wb.cell? ⟨w.heap.size + 1, 2, none⟩ = some (.string va) := blk_cell Tk.A 2
            have g2 : wb.frozen? ⟨w.heap.size + 1, 2, none⟩ = false := blk_free Tk.A 2
            have d3 : wb.cell? ⟨w.heap.size + 1, 3, none⟩ = some (.string ma) := blk_cell Tk.A 3
            have g3 : wb.frozen? ⟨w.heap.size + 1, 3, none⟩ = false := blk_free Tk.A 3
            have u0 : wb.cell? ⟨w.heap.size + 1 + 1, 0, none⟩ = some (.string pb) := blk_cell Tk.B 0
            have h0 : wb.frozen? ⟨w.heap.size + 1 + 1, 0, none⟩ = false := blk_free Tk.B 0
            have u1 : wb.cell? ⟨w.heap.size + 1 + 1, 1, none⟩ = some (.slice ab nb cb) := blk_cell Tk.B 1
            have h1 : wb.frozen? ⟨w.heap.size + 1 + 1, 1, none⟩ = false := blk_free Tk.B 1
            have u2 : wb.cell? ⟨w.heap.size + 1 + 1, 2, none⟩ = some (.string vb) := blk_cell Tk.B 2
            have h2 : wb.frozen? ⟨w.heap.size + 1 + 1, 2, none⟩ = false := blk_free Tk.B 2
            have u3 : wb.cell? ⟨w.heap.size + 1 + 1, 3, none⟩ = some (.string mb) := blk_cell Tk.B 3
            have h3 : wb.frozen? ⟨w.heap.size + 1 + 1, 3, none⟩ = false := blk_free Tk.B 3
            refine hK.out _ _ trivial (fun hHeld => ?_)
            clear hK K
            refine wpAnyH_ready (rs := [5]) (by kernel_rfl) (by simp) ?_
            refine AllReadyH.cons (o := ⟨_, _, _, _, _, _⟩) rfl (fun K hK => ?_) (AllReadyH.nil)
            go_simp
            refine (few_any pb ab nb cb vb mb _ hcb).mono ?_
            rintro e wc2 ⟨⟨pb', nb', vb', mb', rfl, hpb', hnb', hnbb', hvb', hmb'⟩, bc⟩
            have T1 := Tk.below bc
            clear Tk bc c0 c1 c2 c3 f0 f1 f2 f3 d0 d1 d2 d3 g0 g1 g2 g3 u0 u1 u2 u3 h0 h1 h2 h3
            rename Tri w wc2 _ _ _ _ _ _ _ _ _ _ _ _ _ _ _ _ _ _ _ _ => Tk
            have c0 : wc2.cell? ⟨w.heap.size, 0, none⟩ = some (.bool p0) := blk_cell Tk.P 0
            have f0 : wc2.frozen? ⟨w.heap.size, 0, none⟩ = false := blk_free Tk.P 0
            have c1 : wc2.cell? ⟨w.heap.size, 1, none⟩ = some (.bool p1) := blk_cell Tk.P 1
            have f1 : wc2.frozen? ⟨w.heap.size, 1, none⟩ = false := blk_free Tk.P 1
            have c2 : wc2.cell? ⟨w.heap.size, 2, none⟩ = some (.slice ra rn rc) := blk_cell Tk.P 2
            have f2 : wc2.frozen? ⟨w.heap.size, 2, none⟩ = false := blk_free Tk.P 2
            have c3 : wc2.cell? ⟨w.heap.size, 3, none⟩ = some (.slice sa sn sc) := blk_cell Tk.P 3
            have f3 : wc2.frozen? ⟨w.heap.size, 3, none⟩ = false := blk_free Tk.P 3
            have d0 : wc2.cell? ⟨w.heap.size + 1, 0, none⟩ = some (.string pa) := blk_cell Tk.A 0
            have g0 : wc2.frozen? ⟨w.heap.size + 1, 0, none⟩ = false := blk_free Tk.A 0
            have d1 : wc2.cell? ⟨w.heap.size + 1, 1, none⟩ = some (.slice aa na ca) := blk_cell Tk.A 1
            have g1 : wc2.frozen? ⟨w.heap.size + 1, 1, none⟩ = false := blk_free Tk.A 1
            have d2 : wc2.cell? ⟨w.heap.size + 1, 2, none⟩ = some (.string va) := blk_cell Tk.A 2
            have g2 : wc2.frozen? ⟨w.heap.size + 1, 2, none⟩ = false := blk_free Tk.A 2
            have d3 : wc2.cell? ⟨w.heap.size + 1, 3, none⟩ = some (.string ma) := blk_cell Tk.A 3
            have g3 : wc2.frozen? ⟨w.heap.size + 1, 3, none⟩ = false := blk_free Tk.A 3
            have u0 : wc2.cell? ⟨w.heap.size + 1 + 1, 0, none⟩ = some (.string pb) := blk_cell Tk.B 0
            have h0 : wc2.frozen? ⟨w.heap.size + 1 + 1, 0, none⟩ = false := blk_free Tk.B 0
            have u1 : wc2.cell? ⟨w.heap.size + 1 + 1, 1, none⟩ = some (.slice ab nb cb) := blk_cell Tk.B 1
            have h1 : wc2.frozen? ⟨w.heap.size + 1 + 1, 1, none⟩ = false := blk_free Tk.B 1
            have u2 : wc2.cell? ⟨w.heap.size + 1 + 1, 2, none⟩ = some (.string vb) := blk_cell Tk.B 2
            have h2 : wc2.frozen? ⟨w.heap.size + 1 + 1, 2, none⟩ = false := blk_free Tk.B 2
            have u3 : wc2.cell? ⟨w.heap.size + 1 + 1, 3, none⟩ = some (.string mb) := blk_cell Tk.B 3
            have h3 : wc2.frozen? ⟨w.heap.size + 1 + 1, 3, none⟩ = false := blk_free Tk.B 3
            refine hK.out _ _ trivial (fun hHeld => ?_)
            clear hK K
            refine wpAnyH_ready (rs := [6]) (by kernel_rfl) (by simp) ?_
            refine AllReadyH.cons (o := ⟨_, _, _, _, _, _⟩) rfl (fun K hK => ?_) (AllReadyH.nil)
            go_simp
            refine hK.out _ _ trivial (fun hHeld => ?_)
            clear hK K
            refine wpAnyH_ready (rs := [7]) (by kernel_rfl) (by simp) ?_
            refine AllReadyH.cons (o := ⟨_, _, _, _, _, _⟩) rfl (fun K hK => ?_) (AllReadyH.nil)
            go_simp
            refine hK.out _ _ trivial (fun hHeld => ?_)
            clear hK K
            refine wpAnyH_ready (rs := [8]) (by kernel_rfl) (by simp) ?_
            refine AllReadyH.cons (o := ⟨_, _, _, _, _, _⟩) rfl (fun K hK => ?_) (AllReadyH.nil)
            go_simp
            refine hK.out _ _ trivial (fun hHeld => ?_)
            clear hK K
            refine wpAnyH_done (by kernel_rfl) (NoPanic.normal ?_) _
            go_wp2_with fail
            go_meet
            exact ⟨rfl, pa', na', va', ma', pb', nb', vb', mb', ⟨hpa', hna', hnaa', hva', hma'⟩, ⟨hpb', hnb', hnbb', hvb', hmb'⟩, Tk.few⟩
        · go_simp
          refine hK.out _ _ trivial (fun hHeld => ?_)
          clear hK K
          refine wpAnyH_ready (rs := [2]) (by kernel_rfl) (by simp) ?_
          refine AllReadyH.cons (o := ⟨_, _, _, _, _, _⟩) rfl (fun K hK => ?_) (AllReadyH.nil)
          go_simp
          refine hK.out _ _ trivial (fun hHeld => ?_)
          clear hK K
          refine wpAnyH_ready (rs := [3]) (by kernel_rfl) (by simp) ?_
          refine AllReadyH.cons (o := ⟨_, _, _, _, _, _⟩) rfl (fun K hK => ?_) (AllReadyH.nil)
          go_simp
          refine (few_any pa aa na ca va ma _ hca).mono ?_
          rintro e wb ⟨⟨pa', na', va', ma', rfl, hpa', hna', hnaa', hva', hma'⟩, bb⟩
          have T1 := Tk.below bb
          clear Tk bb c0 c1 c2 c3 f0 f1 f2 f3 d0 d1 d2 d3 g0 g1 g2 g3 u0 u1 u2 u3 h0 h1 h2 h3
          rename Tri w wb _ _ _ _ _ _ _ _ _ _ _ _ _ _ _ _ _ _ _ _ => Tk
          have c0 : wb.cell? ⟨w.heap.size, 0, none⟩ = some (.bool p0) := blk_cell Tk.P 0
          have f0 : wb.frozen? ⟨w.heap.size, 0, none⟩ = false := blk_free Tk.P 0
          have c1 : wb.cell? ⟨w.heap.size, 1, none⟩ = some (.bool p1) := blk_cell Tk.P 1
          have f1 : wb.frozen? ⟨w.heap.size, 1, none⟩ = false := blk_free Tk.P 1
          have c2 : wb.cell? ⟨w.heap.size, 2, none⟩ = some (.slice ra rn rc) := blk_cell Tk.P 2
          have f2 : wb.frozen? ⟨w.heap.size, 2, none⟩ = false := blk_free Tk.P 2
          have c3 : wb.cell? ⟨w.heap.size, 3, none⟩ = some (.slice sa sn sc) := blk_cell Tk.P 3
          have f3 : wb.frozen? ⟨w.heap.size, 3, none⟩ = false := blk_free Tk.P 3
          have d0 : wb.cell? ⟨w.heap.size + 1, 0, none⟩ = some (.string pa) := blk_cell Tk.A 0
          have g0 : wb.frozen? ⟨w.heap.size + 1, 0, none⟩ = false := blk_free Tk.A 0
          have d1 : wb.cell? ⟨w.heap.size + 1, 1, none⟩ = some (.slice aa na ca) := blk_cell Tk.A 1
          have g1 : wb.frozen? ⟨w.heap.size + 1, 1, none⟩ = false := blk_free Tk.A 1
          have d2 : wb.cell? ⟨w.heap.size + 1, 2, none⟩ = some (.string va) := blk_cell Tk.A 2
          have g2 : wb.frozen? ⟨w.heap.size + 1, 2, none⟩ = false := blk_free Tk.A 2
          have d3 : wb.cell? ⟨w.heap.size + 1, 3, none⟩ = some (.string ma) := blk_cell Tk.A 3
          have g3 : wb.frozen? ⟨w.heap.size + 1, 3, none⟩ = false := blk_free Tk.A 3
          have u0 : wb.cell? ⟨w.heap.size + 1 + 1, 0, none⟩ = some (.string pb) := blk_cell Tk.B 0
          have h0 : wb.frozen? ⟨w.heap.size + 1 + 1, 0, none⟩ = false := blk_free Tk.B 0
          have u1 : wb.cell? ⟨w.heap.size + 1 + 1, 1, none⟩ = some (.slice ab nb cb) := blk_cell Tk.B 1
          have h1 : wb.frozen? ⟨w.heap.size + 1 + 1, 1, none⟩ = false := blk_free Tk.B 1
          have u2 : wb.cell? ⟨w.heap.size + 1 + 1, 2, none⟩ = some (.string vb) := blk_cell Tk.B 2
          have h2 : wb.frozen? ⟨w.heap.size + 1 + 1, 2, none⟩ = false := blk_free Tk.B 2
          have u3 : wb.cell? ⟨w.heap.size + 1 + 1, 3, none⟩ = some (.string mb) := blk_cell Tk.B 3
          have h3 : wb.frozen? ⟨w.heap.size + 1 + 1, 3, none⟩ = false := blk_free Tk.B 3
          refine hK.out _ _ trivial (fun hHeld => ?_)
          clear hK K
          refine wpAnyH_ready (rs := [5]) (by kernel_rfl) (by simp) ?_
          refine AllReadyH.cons (o := ⟨_, _, _, _, _, _⟩) rfl (fun K hK => ?_) (AllReadyH.nil)
          go_simp
          refine (few_any pb ab nb cb vb mb _ hcb).mono ?_
          rintro e wc2 ⟨⟨pb', nb', vb', mb', rfl, hpb', hnb', hnbb', hvb', hmb'⟩, bc⟩
          have T1 := Tk.below bc
          clear Tk bc c0 c1 c2 c3 f0 f1 f2 f3 d0 d1 d2 d3 g0 g1 g2 g3 u0 u1 u2 u3 h0 h1 h2 h3
          rename Tri w wc2 _ _ _ _ _ _ _ _ _ _ _ _ _ _ _ _ _ _ _ _ => Tk
          have c0 : wc2.cell? ⟨w.heap.size, 0, none⟩ = some (.bool p0) := blk_cell Tk.P 0
          have f0 : wc2.frozen? ⟨w.heap.size, 0, none⟩ = false := blk_free Tk.P 0
          have c1 : wc2.cell? ⟨w.heap.size, 1, none⟩ = some (.bool p1) := blk_cell Tk.P 1
          have f1 : wc2.frozen? ⟨w.heap.size, 1, none⟩ = false := blk_free Tk.P 1
          have c2 : wc2.cell? ⟨w.heap.size, 2, none⟩ = some (.slice ra rn rc) := blk_cell Tk.P 2
          have f2 : wc2.frozen? ⟨w.heap.size, 2, none⟩ = false := blk_free Tk.P 2
          have c3 : wc2.cell? ⟨w.heap.size, 3, none⟩ = some (.slice sa sn sc) := blk_cell Tk.P 3
          have f3 : wc2.frozen? ⟨w.heap.size, 3, none⟩ = false := blk_free Tk.P 3
          have d0 : wc2.cell? ⟨w.heap.size + 1, 0, none⟩ = some (.string pa) := blk_cell Tk.A 0
          have g0 : wc2.frozen? ⟨w.heap.size + 1, 0, none⟩ = false := blk_free Tk.A 0
          have d1 : wc2.cell? ⟨w.heap.size + 1, 1, none⟩ = some (.slice aa na ca) := blk_cell Tk.A 1
          have g1 : wc2.frozen? ⟨w.heap.size + 1, 1, none⟩ = false := blk_free Tk.A 1
          have d2 : wc2.cell? ⟨w.heap.size + 1, 2, none⟩ = some (.string va) := blk_cell Tk.A 2
          have g2 : wc2.frozen? ⟨w.heap.size + 1, 2, none⟩ = false := blk_free Tk.A 2
          have d3 : wc2.cell? ⟨w.heap.size + 1, 3, none⟩ = some (.string ma) := blk_cell Tk.A 3
          have g3 : wc2.frozen? ⟨w.heap.size + 1, 3, none⟩ = false := blk_free Tk.A 3
          have u0 : wc2.cell? ⟨w.heap.size + 1 + 1, 0, none⟩ = some (.string pb) := blk_cell Tk.B 0
          have h0 : wc2.frozen? ⟨w.heap.size + 1 + 1, 0, none⟩ = false := blk_free Tk.B 0
          have u1 : wc2.cell? ⟨w.heap.size + 1 + 1, 1, none⟩ = some (.slice ab nb cb) := blk_cell Tk.B 1
          have h1 : wc2.frozen? ⟨w.heap.size + 1 + 1, 1, none⟩ = false := blk_free Tk.B 1
          have u2 : wc2.cell? ⟨w.heap.size + 1 + 1, 2, none⟩ = some (.string vb) := blk_cell Tk.B 2
          have h2 : wc2.frozen? ⟨w.heap.size + 1 + 1, 2, none⟩ = false := blk_free Tk.B 2
          have u3 : wc2.cell? ⟨w.heap.size + 1 + 1, 3, none⟩ = some (.string mb) := blk_cell Tk.B 3
          have h3 : wc2.frozen? ⟨w.heap.size + 1 + 1, 3, none⟩ = false := blk_free Tk.B 3
          refine hK.out _ _ trivial (fun hHeld => ?_)
          clear hK K
          refine wpAnyH_ready (rs := [6]) (by kernel_rfl) (by simp) ?_
          refine AllReadyH.cons (o := ⟨_, _, _, _, _, _⟩) rfl (fun K hK => ?_) (AllReadyH.nil)
          go_simp
          refine hK.out _ _ trivial (fun hHeld => ?_)
          clear hK K
          refine wpAnyH_ready (rs := [7]) (by kernel_rfl) (by simp) ?_
          refine AllReadyH.cons (o := ⟨_, _, _, _, _, _⟩) rfl (fun K hK => ?_) (AllReadyH.nil)
          go_simp
          refine hK.out _ _ trivial (fun hHeld => ?_)
          clear hK K
          refine wpAnyH_ready (rs := [8]) (by kernel_rfl) (by simp) ?_
          refine AllReadyH.cons (o := ⟨_, _, _, _, _, _⟩) rfl (fun K hK => ?_) (AllReadyH.nil)
          go_simp
          refine hK.out _ _ trivial (fun hHeld => ?_)
          clear hK K
          refine wpAnyH_done (by kernel_rfl) (NoPanic.normal ?_) _
          go_wp2_with fail
          go_meet
          exact ⟨rfl, pa', na', va', ma', pb', nb', vb', mb', ⟨hpa', hna', hnaa', hva', hma'⟩, ⟨hpb', hnb', hnbb', hvb', hmb'⟩, Tk.few⟩
      · go_simp
        refine hK.out _ _ trivial (fun hHeld => ?_)
        clear hK K
        refine wpAnyH_ready (rs := [1, 4]) (by kernel_rfl) (by simp) ?_
        refine AllReadyH.cons (o := ⟨_, _, _, _, _, _⟩) rfl (fun K hK => ?_) (AllReadyH.cons (o := ⟨_, _, _, _, _, _⟩) rfl (fun K hK => ?_) (AllReadyH.nil))
        · go_simp
          refine (few3_any p0 p1 ra rn rc sa sn sc _ hrc hsc).mono ?_
          rintro e wa ⟨rfl, ba⟩
          have T1 := Tk.below ba
          clear Tk ba c0 c1 c2 c3 f0 f1 f2 f3 d0 d1 d2 d3 g0 g1 g2 g3 u0 u1 u2 u3 h0 h1 h2 h3
          rename Tri w wa _ _ _ _ _ _ _ _ _ _ _ _ _ _ _ _ _ _ _ _ => Tk
          have c0 : wa.cell? ⟨w.heap.size, 0, none⟩ = some (.bool p0) := blk_cell Tk.P 0
          have f0 : wa.frozen? ⟨w.heap.size, 0, none⟩ = false := blk_free Tk.P 0
          have c1 : wa.cell? ⟨w.heap.size, 1, none⟩ = some (.bool p1) := blk_cell Tk.P 1
          have f1 : wa.frozen? ⟨w.heap.size, 1, none⟩ = false := blk_free Tk.P 1
          have c2 : wa.cell? ⟨w.heap.size, 2, none⟩ = some (.slice ra rn rc) := blk_cell Tk.P 2
          have f2 : wa.frozen? ⟨w.heap.size, 2, none⟩ = false := blk_free Tk.P 2
          have c3 : wa.cell? ⟨w.heap.size, 3, none⟩ = some (.slice sa sn sc) := blk_cell Tk.P 3
          have f3 : wa.frozen? ⟨w.heap.size, 3, none⟩ = false := blk_free Tk.P 3
          have d0 : wa.cell? ⟨w.heap.size + 1, 0, none⟩ = some (.string pa) := blk_cell Tk.A 0
          have g0 : wa.frozen? ⟨w.heap.size + 1, 0, none⟩ = false := blk_free Tk.A 0
          have d1 : wa.cell? ⟨w.heap.size + 1, 1, none⟩ = some (.slice aa na ca) := blk_cell Tk.A 1
          have g1 : wa.frozen? ⟨w.heap.size + 1, 1, none⟩ = false := blk_free Tk.A 1
          have d2 : wa.cell? ⟨w.heap.size + 1, 2, none⟩ = some (.string va) := blk_cell Tk.A 2
          have g2 : wa.frozen? ⟨w.heap.size + 1, 2, none⟩ = false := blk_free Tk.A 2
          have d3 : wa.cell? ⟨w.heap.size + 1, 3, none⟩ = some (.string ma) := blk_cell Tk.A 3
          have g3 : wa.frozen? ⟨w.heap.size + 1, 3, none⟩ = false := blk_free Tk.A 3
          have u0 : wa.cell? ⟨w.heap.size + 1 + 1, 0, none⟩ = some (.string pb) := blk_cell Tk.B 0
          have h0 : wa.frozen? ⟨w.heap.size + 1 + 1, 0, none⟩ = false := blk_free Tk.B 0
          have u1 : wa.cell? ⟨w.heap.size + 1 + 1, 1, none⟩ = some (.slice ab nb cb) := blk_cell Tk.B 1
          have h1 : wa.frozen? ⟨w.heap.size + 1 + 1, 1, none⟩ = false := blk_free Tk.B 1
          have u2 : wa.cell? ⟨w.heap.size + 1 + 1, 2, none⟩ = some (.string vb) := blk_cell Tk.B 2
          have h2 : wa.frozen? ⟨w.heap.size + 1 + 1, 2, none⟩ = false := blk_free Tk.B 2
          have u3 : wa.cell? ⟨w.heap.size + 1 + 1, 3, none⟩ = some (.string mb) := blk_cell Tk.B 3
          have h3 : wa.frozen? ⟨w.heap.size + 1 + 1, 3, none⟩ = false := blk_free Tk.B 3
          refine hK.out _ _ trivial (fun hHeld => ?_)
          clear hK K
          refine wpAnyH_ready (rs := [3, 4]) (by kernel_rfl) (by simp) ?_
          refine AllReadyH.cons (o := ⟨_, _, _, _, _, _⟩) rfl (fun K hK => ?_) (AllReadyH.cons (o := ⟨_, _, _, _, _, _⟩) rfl (fun K hK => ?_) (AllReadyH.nil))
          · go_simp
            refine (few_any pa aa na ca va ma _ hca).mono ?_
            rintro e wb ⟨⟨pa', na', va', ma', rfl, hpa', hna', hnaa', hva', hma'⟩, bb⟩
            have T1 := Tk.below bb
            clear Tk bb c0 c1 c2 c3 f0 f1 f2 f3 d0 d1 d2 d3 g0 g1 g2 g3 u0 u1 u2 u3 h0 h1 h2 h3
            rename Tri w wb _ _ _ _ _ _ _ _ _ _ _ _ _ _ _ _ _ _ _ _ => Tk
            have c0 : wb.cell? ⟨w.heap.size, 0, none⟩ = some (.bool p0) := blk_cell Tk.P 0
            have f0 : wb.frozen? ⟨w.heap.size, 0, none⟩ = false := blk_free Tk.P 0
            have c1 : wb.cell? ⟨w.heap.size, 1, none⟩ = some (.bool p1) := blk_cell Tk.P 1
            have f1 : wb.frozen? ⟨w.heap.size, 1, none⟩ = false := blk_free Tk.P 1
            have c2 : wb.cell? ⟨w.heap.size, 2, none⟩ = some (.slice ra rn rc) := blk_cell Tk.P 2
            have f2 : wb.frozen? ⟨w.heap.size, 2, none⟩ = false := blk_free Tk.P 2
            have c3 : wb.cell? ⟨w.heap.size, 3, none⟩ = some (.slice sa sn sc) := blk_cell Tk.P 3
            have f3 : wb.frozen? ⟨w.heap.size, 3, none⟩ = false := blk_free Tk.P 3
            have d0 : wb.cell? ⟨w.heap.size + 1, 0, none⟩ = some (.string pa) := blk_cell Tk.A 0
            have g0 : wb.frozen? ⟨w.heap.size + 1, 0, none⟩ = false := blk_free Tk.A 0
            have d1 : wb.cell? ⟨w.heap.size + 1, 1, none⟩ = some (.slice aa na ca) := blk_cell Tk.A 1
            have g1 : wb.frozen? ⟨w.heap.size + 1, 1, none⟩ = false := blk_free Tk.A 1
            have d2 : wb.cell? ⟨w.heap.size + 1, 2, none⟩ = some (.string va) := blk_cell Tk.A 2
            have g2 : wb.frozen? ⟨w.heap.size + 1, 2, none⟩ = false := blk_free Tk.A 2
            have d3 : wb.cell? ⟨w.heap.size + 1, 3, none⟩ = some (.string ma) := blk_cell Tk.A 3
            have g3 : wb.frozen? ⟨w.heap.size + 1, 3, none⟩ = false := blk_free Tk.A 3
            have u0 : wb.cell? ⟨w.heap.size + 1 + 1, 0, none⟩ = some (.string pb) := blk_cell Tk.B 0
            have h0 : wb.frozen? ⟨w.heap.size + 1 + 1, 0, none⟩ = false := blk_free Tk.B 0
            have u1 : wb.cell? ⟨w.heap.size + 1 + 1, 1, none⟩ = some (.slice ab nb cb) := blk_cell Tk.B 1
            have h1 : wb.frozen? ⟨w.heap.size + 1 + 1, 1, none⟩ = false := blk_free Tk.B 1
            have u2 : wb.cell? ⟨w.heap.size + 1 + 1, 2, none⟩ = some (.string vb) := blk_cell Tk.B 2
            have h2 : wb.frozen? ⟨w.heap.size + 1 + 1, 2, none⟩ = false := blk_free Tk.B 2
            have u3 : wb.cell? ⟨w.heap.size + 1 + 1, 3, none⟩ = some (.string mb) := blk_cell Tk.B 3
            have h3 : wb.frozen? ⟨w.heap.size + 1 + 1, 3, none⟩ = false := blk_free Tk.B 3
            refine hK.out _ _ trivial (fun hHeld => ?_)
            clear hK K
            refine wpAnyH_ready (rs := [4]) (by kernel_rfl) (by simp) ?_
            refine AllReadyH.cons (o := ⟨_, _, _, _, _, _⟩) rfl (fun K hK => ?_) (AllReadyH.nil)
            go_simp
            refine hK.out _ _ trivial (fun hHeld => ?_)
            clear hK K
            refine wpAnyH_ready (rs := [5]) (by kernel_rfl) (by simp) ?_
            refine AllReadyH.cons (o := ⟨_, _, _, _, _, _⟩) rfl (fun K hK => ?_) (AllReadyH.nil)
            go_simp
            refine (few_any pb ab nb cb vb mb _ hcb).mono ?_
            rintro e wc2 ⟨⟨pb', nb', vb', mb', rfl, hpb', hnb', hnbb', hvb', hmb'⟩, bc⟩
            have T1 := Tk.below bc
            clear Tk bc c0 c1 c2 c3 f0 f1 f2 f3 d0 d1 d2 d3 g0 g1 g2 g3 u0 u1 u2 u3 h0 h1 h2 h3
            rename Tri w wc2 _ _ _ _ _ _ _ _ _ _ _ _ _ _ _ _ _ _ _ _ => Tk
            have c0 : wc2.cell? ⟨w.heap.size, 0, none⟩ = some (.bool p0) := blk_cell Tk.P 0
            have f0 : wc2.frozen? ⟨w.heap.size, 0, none⟩ = false := blk_free Tk.P 0
            have c1 : wc2.cell? ⟨w.heap.size, 1, none⟩ = some (.bool p1) := blk_cell Tk.P 1
            have f1 : wc2.frozen? ⟨w.heap.size, 1, none⟩ = false := blk_free Tk.P 1
            have c2 : wc2.cell? ⟨w.heap.size, 2, none⟩ = some (.slice ra rn rc) := blk_cell Tk.P 2
            have f2 : wc2.frozen? ⟨w.heap.size, 2, none⟩ = false := blk_free Tk.P 2
            have c3 : wc2.cell? ⟨w.heap.size, 3, none⟩ = some (.slice sa sn sc) := blk_cell Tk.P 3
            have f3 : wc2.frozen? ⟨w.heap.size, 3, none⟩ = false := blk_free Tk.P 3
            have d0 : wc2.cell? ⟨w.heap.size + 1, 0, none⟩ = some (.string pa) := blk_cell Tk.A 0
            have g0 : wc2.frozen? ⟨w.heap.size + 1, 0, none⟩ = false := blk_free Tk.A 0
            have d1 : wc2.cell? ⟨w.heap.size + 1, 1, none⟩ = some (.slice aa na ca) := blk_cell Tk.A 1
            have g1 : wc2.frozen? ⟨w.heap.size + 1, 1, none⟩ = false := blk_free Tk.A 1
            have d2 : wc2.cell? ⟨w.heap.size + 1, 2, none⟩ = some (.string va) := blk_cell Tk.A 2
            have g2 : wc2.frozen? ⟨w.heap.size + 1, 2, none⟩ = false := blk_free Tk.A 2
            have d3 : wc2.cell? ⟨w.heap.size + 1, 3, none⟩ = some (.string ma) := blk_cell Tk.A 3
            have g3 : wc2.frozen? ⟨w.heap.size + 1, 3, none⟩ = false := blk_free Tk.A 3
            have u0 : wc2.cell? ⟨w.heap.size + 1 + 1, 0, none⟩ = some (.string pb) := blk_cell Tk.B 0
            have h0 : wc2.frozen? ⟨w.heap.size + 1 + 1, 0, none⟩ = false := blk_free Tk.B 0
            have u1 : wc2.cell? ⟨w.heap.size + 1 + 1, 1, none⟩ = some (.slice ab nb cb) := blk_cell Tk.B 1
            have h1 : wc2.frozen? ⟨w.heap.size + 1 + 1, 1, none⟩ = false := blk_free Tk.B 1
            have u2 : wc2.cell? ⟨w.heap.size + 1 + 1, 2, none⟩ = some (.string vb) := blk_cell Tk.B 2
            have h2 : wc2.frozen? ⟨w.heap.size + 1 + 1, 2, none⟩ = false := blk_free Tk.B 2
            have u3 : wc2.cell? ⟨w.heap.size + 1 + 1, 3, none⟩ = some (.string mb) := blk_cell Tk.B 3
            have h3 : wc2.frozen? ⟨w.heap.size + 1 + 1, 3, none⟩ = false := blk_free Tk.B 3
            refine hK.out _ _ trivial (fun hHeld => ?_)
            clear hK K
            refine wpAnyH_ready (rs := [6]) (by kernel_rfl) (by simp) ?_
            refine AllReadyH.cons (o := ⟨_, _, _, _, _, _⟩) rfl (fun K hK => ?_) (AllReadyH.nil)
            go_simp
            refine hK.out _ _ trivial (fun hHeld => ?_)
            clear hK K
            refine wpAnyH_ready (rs := [7]) (by kernel_rfl) (by simp) ?_
            refine AllReadyH.cons (o := ⟨_, _, _, _, _, _⟩) rfl (fun K hK => ?_) (AllReadyH.nil)
            go_simp
            refine hK.out _ _ trivial (fun hHeld => ?_)
            clear hK K
            refine wpAnyH_ready (rs := [8]) (by kernel_rfl) (by simp) ?_
            refine AllReadyH.cons (o := ⟨_, _, _, _, _, _⟩) rfl (fun K hK => ?_) (AllReadyH.nil)
            go_simp
            refine hK.out _ _ trivial (fun hHeld => ?_)
            clear hK K
            refine wpAnyH_done (by kernel_rfl) (NoPanic.normal ?_) _
            go_wp2_with fail
            go_meet
            exact ⟨rfl, pa', na', va', ma', pb', nb', vb', mb', ⟨hpa', hna', hnaa', hva', hma'⟩, ⟨hpb', hnb', hnbb', hvb', hmb'⟩, Tk.few⟩
          · go_simp
            refine hK.out _ _ trivial (fun hHeld => ?_)
            clear hK K
            refine wpAnyH_ready (rs := [3]) (by kernel_rfl) (by simp) ?_
            refine AllReadyH.cons (o := ⟨_, _, _, _, _, _⟩) rfl (fun K hK => ?_) (AllReadyH.nil)
            go_simp
            refine (few_any pa aa na ca va ma _ hca).mono ?_
            rintro e wb ⟨⟨pa', na', va', ma', rfl, hpa', hna', hnaa', hva', hma'⟩, bb⟩
            have T1 := Tk.below bb
            clear Tk bb c0 c1 c2 c3 f0 f1 f2 f3 d0 d1 d2 d3 g0 g1 g2 g3 u0 u1 u2 u3 h0 h1 h2 h3
            rename Tri w wb _ _ _ _ _ _ _ _ _ _ _ _ _ _ _ _ _ _ _ _ => Tk
            have c0 : wb.cell? ⟨w.heap.size, 0, none⟩ = some (.bool p0) := blk_cell Tk.P 0
            have f0 : wb.frozen? ⟨w.heap.size, 0, none⟩ = false := blk_free Tk.P 0
            have c1 : wb.cell? ⟨w.heap.size, 1, none⟩ = some (.bool p1) := blk_cell Tk.P 1
            have f1 : wb.frozen? ⟨w.heap.size, 1, none⟩ = false := blk_free Tk.P 1
            have c2 : wb.cell? ⟨w.heap.size, 2, none⟩ = some (.slice ra rn rc) := blk_cell Tk.P 2
            have f2 : wb.frozen? ⟨w.heap.size, 2, none⟩ = false := blk_free Tk.P 2
            have c3 : wb.cell? ⟨w.heap.size, 3, none⟩ = some (.slice sa sn sc) := blk_cell Tk.P 3
            have f3 : wb.frozen? ⟨w.heap.size, 3, none⟩ = false := blk_free Tk.P 3
            have d0 : wb.cell? ⟨w.heap.size + 1, 0, none⟩ = some (.string pa) := blk_cell Tk.A 0
            have g0 : wb.frozen? ⟨w.heap.size + 1, 0, none⟩ = false := blk_free Tk.A 0
            have d1 : wb.cell? ⟨w.heap.size + 1, 1, none⟩ = some (.slice aa na ca) := blk_cell Tk.A 1
            have g1 : wb.frozen? ⟨w.heap.size + 1, 1, none⟩ = false := blk_free Tk.A 1
            have d2 : wb.cell? ⟨w.heap.size + 1, 2, none⟩ = some (.string va) := blk_cell Tk.A 2
            have g2 : wb.frozen? ⟨w.heap.size + 1, 2, none⟩ = false := blk_free Tk.A 2
            have d3 : wb.cell? ⟨w.heap.size + 1, 3, none⟩ = some (.string ma) := blk_cell Tk.A 3
            have g3 : wb.frozen? ⟨w.heap.size + 1, 3, none⟩ = false := blk_free Tk.A 3
            have u0 : wb.cell? ⟨w.heap.size + 1 + 1, 0, none⟩ = some (.string pb) := blk_cell Tk.B 0
            have h0 : wb.frozen? ⟨w.heap.size + 1 + 1, 0, none⟩ = false := blk_free Tk.B 0
            have u1 : wb.cell? ⟨w.heap.size + 1 + 1, 1, none⟩ = some (.slice ab nb cb) := blk_cell Tk.B 1
            have h1 : wb.frozen? ⟨w.heap.size + 1 + 1, 1, none⟩ = false := blk_free Tk.B 1
            have u2 : wb.cell? ⟨w.heap.size + 1 + 1, 2, none⟩ = some (.string vb) := blk_cell Tk.B 2
            have h2 : wb.frozen? ⟨w.heap.size + 1 + 1, 2, none⟩ = false := blk_free Tk.B 2
            have u3 : wb.cell? ⟨w.heap.size + 1 + 1, 3, none⟩ = some (.string mb) := blk_cell Tk.B 3
            have h3 : wb.frozen? ⟨w.heap.size + 1 + 1, 3, none⟩ = false := blk_free Tk.B 3
            refine hK.out _ _ trivial (fun hHeld => ?_)
            clear hK K
            refine wpAnyH_ready (rs := [5]) (by kernel_rfl) (by simp) ?_
            refine AllReadyH.cons (o := ⟨_, _, _, _, _, _⟩) rfl (fun K hK => ?_) (AllReadyH.nil)
            go_simp
            refine (few_any pb ab nb cb vb mb _ hcb).mono ?_
            rintro e wc2 ⟨⟨pb', nb', vb', mb', rfl, hpb', hnb', hnbb', hvb', hmb'⟩, bc⟩
            have T1 := Tk.below bc
            clear Tk bc c0 c1 c2 c3 f0 f1 f2 f3 d0 d1 d2 d3 g0 g1 g2 g3 u0 u1 u2 u3 h0 h1 h2 h3
            rename Tri w wc2 _ _ _ _ _ _ _ _ _ _ _ _ _ _ _ _ _ _ _ _ => Tk
            have c0 : wc2.cell? ⟨w.heap.size, 0, none⟩ = some (.bool p0) := blk_cell Tk.P 0
            have f0 : wc2.frozen? ⟨w.heap.size, 0, none⟩ = false := blk_free Tk.P 0
            have c1 : wc2.cell? ⟨w.heap.size, 1, none⟩ = some (.bool p1) := blk_cell Tk.P 1
            have f1 : wc2.frozen? ⟨w.heap.size, 1, none⟩ = false := blk_free Tk.P 1
            have c2 : wc2.cell? ⟨w.heap.size, 2, none⟩ = some (.slice ra rn rc) := blk_cell Tk.P 2
            have f2 : wc2.frozen? ⟨w.heap.size, 2, none⟩ = false := blk_free Tk.P 2
            have c3 : wc2.cell? ⟨w.heap.size, 3, none⟩ = some (.slice sa sn sc) := blk_cell Tk.P 3
            have f3 : wc2.frozen? ⟨w.heap.size, 3, none⟩ = false := blk_free Tk.P 3
            have d0 : wc2.cell? ⟨w.heap.size + 1, 0, none⟩ = some (.string pa) := blk_cell Tk.A 0
            have g0 : wc2.frozen? ⟨w.heap.size + 1, 0, none⟩ = false := blk_free Tk.A 0
            have d1 : wc2.cell? ⟨w.heap.size + 1, 1, none⟩ = some (.slice aa na ca) := blk_cell Tk.A 1
            have g1 : wc2.frozen? ⟨w.heap.size + 1, 1, none⟩ = false := blk_free Tk.A 1
            have d2 : wc2.cell? ⟨w.heap.size + 1, 2, none⟩ = some (.string va) := blk_cell Tk.A 2
            have g2 : wc2.frozen? ⟨w.heap.size + 1, 2, none⟩ = false := blk_free Tk.A 2
            have d3 : wc2.cell? ⟨w.heap.size + 1, 3, none⟩ = some (.string ma) := blk_cell Tk.A 3
            have g3 : wc2.frozen? ⟨w.heap.size + 1, 3, none⟩ = false := blk_free Tk.A 3
            have u0 : wc2.cell? ⟨w.heap.size + 1 + 1, 0, none⟩ = some (.string pb) := blk_cell Tk.B 0
            have h0 : wc2.frozen? ⟨w.heap.size + 1 + 1, 0, none⟩ = false := blk_free Tk.B 0
            have u1 : wc2.cell? ⟨w.heap.size + 1 + 1, 1, none⟩ = some (.slice ab nb cb) := blk_cell Tk.B 1
            have h1 : wc2.frozen? ⟨w.heap.size + 1 + 1, 1, none⟩ = false := blk_free Tk.B 1
            have u2 : wc2.cell? ⟨w.heap.size + 1 + 1, 2, none⟩ = some (.string vb) := blk_cell Tk.B 2
            have h2 : wc2.frozen? ⟨w.heap.size + 1 + 1, 2, none⟩ = false := blk_free Tk.B 2
            have u3 : wc2.cell? ⟨w.heap.size + 1 + 1, 3, none⟩ = some (.string mb) := blk_cell Tk.B 3
            have h3 : wc2.frozen? ⟨w.heap.size + 1 + 1, 3, none⟩ = false := blk_free Tk.B 3
            refine hK.out _ _ trivial (fun hHeld => ?_)
            clear hK K
            refine wpAnyH_ready (rs := [6]) (by kernel_rfl) (by simp) ?_
            refine AllReadyH.cons (o := ⟨_, _, _, _, _, _⟩) rfl (fun K hK => ?_) (AllReadyH.nil)
            go_simp
            refine hK.out _ _ trivial (fun hHeld => ?_)
            clear hK K
            refine wpAnyH_ready (rs := [7]) (by kernel_rfl) (by simp) ?_
            refine AllReadyH.cons (o := ⟨_, _, _, _, _, _⟩) rfl (fun K hK => ?_) (AllReadyH.nil)
            go_simp
            refine hK.out _ _ trivial (fun hHeld => ?_)
            clear hK K
            refine wpAnyH_ready (rs := [8]) (by kernel_rfl) (by simp) ?_
            refine AllReadyH.cons (o := ⟨_, _, _, _, _, _⟩) rfl (fun K hK => ?_) (AllReadyH.nil)
            go_simp
            refine hK.out _ _ trivial (fun hHeld => ?_)
            clear hK K
            refine wpAnyH_done (by kernel_rfl) (NoPanic.normal ?_) _
            go_wp2_with fail
            go_meet
            exact ⟨rfl, pa', na', va', ma', pb', nb', vb', mb', ⟨hpa', hna', hnaa', hva', hma'⟩, ⟨hpb', hnb', hnbb', hvb', hmb'⟩, Tk.few⟩
        · go_simp
          refine hK.out _ _ trivial (fun hHeld => ?_)
          clear hK K
          refine wpAnyH_ready (rs := [1]) (by kernel_rfl) (by simp) ?_
          refine AllReadyH.cons (o := ⟨_, _, _, _, _, _⟩) rfl (fun K hK => ?_) (AllReadyH.nil)
          go_simp
          refine (few3_any p0 p1 ra rn rc sa sn sc _ hrc hsc).mono ?_
          rintro e wa ⟨rfl, ba⟩
          have T1 := Tk.below ba
          clear Tk ba c0 c1 c2 c3 f0 f1 f2 f3 d0 d1 d2 d3 g0 g1 g2 g3 u0 u1 u2 u3 h0 h1 h2 h3
          rename Tri w wa _ _ _ _ _ _ _ _ _ _ _ _ _ _ _ _ _ _ _ _ => Tk
          have c0 : wa.cell? ⟨w.heap.size, 0, none⟩ = some (.bool p0) := blk_cell Tk.P 0
          have f0 : wa.frozen? ⟨w.heap.size, 0, none⟩ = false := blk_free Tk.P 0
          have c1 : wa.cell? ⟨w.heap.size, 1, none⟩ = some (.bool p1) := blk_cell Tk.P 1
          have f1 : wa.frozen? ⟨w.heap.size, 1, none⟩ = false := blk_free Tk.P 1
          have c2 : wa.cell? ⟨w.heap.size, 2, none⟩ = some (.slice ra rn rc) := blk_cell Tk.P 2
          have f2 : wa.frozen? ⟨w.heap.size, 2, none⟩ = false := blk_free Tk.P 2
          have c3 : wa.cell? ⟨w.heap.size, 3, none⟩ = some (.slice sa sn sc) := blk_cell Tk.P 3
          have f3 : wa.frozen? ⟨w.heap.size, 3, none⟩ = false := blk_free Tk.P 3
          have d0 : wa.cell? ⟨w.heap.size + 1, 0, none⟩ = some (.string pa) := blk_cell Tk.A 0
          have g0 : wa.frozen? ⟨w.heap.size + 1, 0, none⟩ = false := blk_free Tk.A 0
          have d1 : wa.cell? ⟨w.heap.size + 1, 1, none⟩ = some (.slice aa na ca) := blk_cell Tk.A 1
          have g1 : wa.frozen? ⟨w.heap.size + 1, 1, none⟩ = false := blk_free Tk.A 1
          have d2 : wa.cell? ⟨w.heap.size + 1, 2, none⟩ = some (.string va) := blk_cell Tk.A 2
          have g2 : wa.frozen? ⟨w.heap.size + 1, 2, none⟩ = false := blk_free Tk.A 2
          have d3 : wa.cell? ⟨w.heap.size + 1, 3, none⟩ = some (.string ma) := blk_cell Tk.A 3
          have g3 : wa.frozen? ⟨w.heap.size + 1, 3, none⟩ = false := blk_free Tk.A 3
          have u0 : wa.cell? ⟨w.heap.size + 1 + 1, 0, none⟩ = some (.string pb) := blk_cell Tk.B 0
          have h0 : wa.frozen? ⟨w.heap.size + 1 + 1, 0, none⟩ = false := blk_free Tk.B 0
          have u1 : wa.cell? ⟨w.heap.size + 1 + 1, 1, none⟩ = some (.slice ab nb cb) := blk_cell Tk.B 1
          have h1 : wa.frozen? ⟨w.heap.size + 1 + 1, 1, none⟩ = false := blk_free Tk.B 1
          have u2 : wa.cell? ⟨w.heap.size + 1 + 1, 2, none⟩ = some (.string vb) := blk_cell Tk.B 2
          have h2 : wa.frozen? ⟨w.heap.size + 1 + 1, 2, none⟩ = false := blk_free Tk.B 2
          have u3 : wa.cell? ⟨w.heap.size + 1 + 1, 3, none⟩ = some (.string mb) := blk_cell Tk.B 3
          have h3 : wa.frozen? ⟨w.heap.size + 1 + 1, 3, none⟩ = false := blk_free Tk.B 3
          refine hK.out _ _ trivial (fun hHeld => ?_)
          clear hK K
          refine wpAnyH_ready (rs := [3]) (by kernel_rfl) (by simp) ?_
          refine AllReadyH.cons (o := ⟨_, _, _, _, _, _⟩) rfl (fun K hK => ?_) (AllReadyH.nil)
          go_simp
          refine (few_any pa aa na ca va ma _ hca).mono ?_
          rintro e wb ⟨⟨pa', na', va', ma', rfl, hpa', hna', hnaa', hva', hma'⟩, bb⟩
          have T1 := Tk.below bb
          clear Tk bb c0 c1 c2 c3 f0 f1 f2 f3 d0 d1 d2 d3 g0 g1 g2 g3 u0 u1 u2 u3 h0 h1 h2 h3
          rename Tri w wb _ _ _ _ _ _ _ _ _ _ _ _ _ _ _ _ _ _ _ _ => Tk
          have c0 : wb.cell? ⟨w.heap.size, 0, none⟩ = some (.bool p0) := blk_cell Tk.P 0
          have f0 : wb.frozen? ⟨w.heap.size, 0, none⟩ = false := blk_free Tk.P 0
          have c1 : wb.cell? ⟨w.heap.size, 1, none⟩ = some (.bool p1) := blk_cell Tk.P 1
          have f1 : wb.frozen? ⟨w.heap.size, 1, none⟩ = false := blk_free Tk.P 1
          have c2 : wb.cell? ⟨w.heap.size, 2, none⟩ = some (.slice ra rn rc) := blk_cell Tk.P 2
          have f2 : wb.frozen? ⟨w.heap.size, 2, none⟩ = false := blk_free Tk.P 2
          have c3 : wb.cell? ⟨w.heap.size, 3, none⟩ = some (.slice sa sn sc) := blk_cell Tk.P 3
          have f3 : wb.frozen? ⟨w.heap.size, 3, none⟩ = false := blk_free Tk.P 3
          have d0 : wb.cell? ⟨w.heap.size + 1, 0, none⟩ = some (.string pa) := blk_cell Tk.A 0
          have g0 : wb.frozen? ⟨w.heap.size + 1, 0, none⟩ = false := blk_free Tk.A 0
          have d1 : wb.cell? ⟨w.heap.size + 1, 1, none⟩ = some (.slice aa na ca) := blk_cell Tk.A 1
          have g1 : wb.frozen? ⟨w.heap.size + 1, 1, none⟩ = false := blk_free Tk.A 1
          have d2 : wb.cell? ⟨w.heap.size + 1, 2, none⟩ = some (.string va) := blk_cell Tk.A 2
          have g2 : wb.frozen? ⟨w.heap.size + 1, 2, none⟩ = false := blk_free Tk.A 2
          have d3 : wb.cell? ⟨w.heap.size + 1, 3, none⟩ = some (.string ma) := blk_cell Tk.A 3
          have g3 : wb.frozen? ⟨w.heap.size + 1, 3, none⟩ = false := blk_free Tk.A 3
          have u0 : wb.cell? ⟨w.heap.size + 1 + 1, 0, none⟩ = some (.string pb) := blk_cell Tk.B 0
          have h0 : wb.frozen? ⟨w.heap.size + 1 + 1, 0, none⟩ = false := blk_free Tk.B 0
          have u1 : wb.cell? ⟨w.heap.size + 1 + 1, 1, none⟩ = some (.slice ab nb cb) := blk_cell Tk.B 1
          have h1 : wb.frozen? ⟨w.heap.size + 1 + 1, 1, none⟩ = false := blk_free Tk.B 1
          have u2 : wb.cell? ⟨w.heap.size + 1 + 1, 2, none⟩ = some (.string vb) := blk_cell Tk.B 2
          have h2 : wb.frozen? ⟨w.heap.size + 1 + 1, 2, none⟩ = false := blk_free Tk.B 2
          have u3 : wb.cell? ⟨w.heap.size + 1 + 1, 3, none⟩ = some (.string mb) := blk_cell Tk.B 3
          have h3 : wb.frozen? ⟨w.heap.size + 1 + 1, 3, none⟩ = false := blk_free Tk.B 3
          refine hK.out _ _ trivial (fun hHeld => ?_)
          clear hK K
          refine wpAnyH_ready (rs := [5]) (by kernel_rfl) (by simp) ?_
          refine AllReadyH.cons (o := ⟨_, _, _, _, _, _⟩) rfl (fun K hK => ?_) (AllReadyH.nil)
          go_simp
          refine (few_any pb ab nb cb vb mb _ hcb).mono ?_
          rintro e wc2 ⟨⟨pb', nb', vb', mb', rfl, hpb', hnb', hnbb', hvb', hmb'⟩, bc⟩
          have T1 := Tk.below bc
          clear Tk bc c0 c1 c2 c3 f0 f1 f2 f3 d0 d1 d2 d3 g0 g1 g2 g3 u0 u1 u2 u3 h0 h1 h2 h3
          rename Tri w wc2 _ _ _ _ _ _ _ _ _ _ _ _ _ _ _ _ _ _ _ _ => Tk
          have c0 : wc2.cell? ⟨w.heap.size, 0, none⟩ = some (.bool p0) := blk_cell Tk.P 0
          have f0 : wc2.frozen? ⟨w.heap.size, 0, none⟩ = false := blk_free Tk.P 0
          have c1 : wc2.cell? ⟨w.heap.size, 1, none⟩ = some (.bool p1) := blk_cell Tk.P 1
          have f1 : wc2.frozen? ⟨w.heap.size, 1, none⟩ = false := blk_free Tk.P 1
          have c2 : wc2.cell? ⟨w.heap.size, 2, none⟩ = some (.slice ra rn rc) := blk_cell Tk.P 2
          have f2 : wc2.frozen? ⟨w.heap.size, 2, none⟩ = false := blk_free Tk.P 2
          have c3 : wc2.cell? ⟨w.heap.size, 3, none⟩ = some (.slice sa sn sc) := blk_cell Tk.P 3
          have f3 : wc2.frozen? ⟨w.heap.size, 3, none⟩ = false := blk_free Tk.P 3
          have d0 : wc2.cell? ⟨w.heap.size + 1, 0, none⟩ = some (.string pa) := blk_cell Tk.A 0
          have g0 : wc2.frozen? ⟨w.heap.size + 1, 0, none⟩ = false := blk_free Tk.A 0
          have d1 : wc2.cell? ⟨w.heap.size + 1, 1, none⟩ = some (.slice aa na ca) := blk_cell Tk.A 1
          have g1 : wc2.frozen? ⟨w.heap.size + 1, 1, none⟩ = false := blk_free Tk.A 1
          have d2 : wc2.cell? ⟨w.heap.size + 1, 2, none⟩ = some (.string va) := blk_cell Tk.A 2
          have g2 : wc2.frozen? ⟨w.heap.size + 1, 2, none⟩ = false := blk_free Tk.A 2
          have d3 : wc2.cell? ⟨w.heap.size + 1, 3, none⟩ = some (.string ma) := blk_cell Tk.A 3
          have g3 : wc2.frozen? ⟨w.heap.size + 1, 3, none⟩ = false := blk_free Tk.A 3
          have u0 : wc2.cell? ⟨w.heap.size + 1 + 1, 0, none⟩ = some (.string pb) := blk_cell Tk.B 0
          have h0 : wc2.frozen? ⟨w.heap.size + 1 + 1, 0, none⟩ = false := blk_free Tk.B 0
          have u1 : wc2.cell? ⟨w.heap.size + 1 + 1, 1, none⟩ = some (.slice ab nb cb) := blk_cell Tk.B 1
          have h1 : wc2.frozen? ⟨w.heap.size + 1 + 1, 1, none⟩ = false := blk_free Tk.B 1
          have u2 : wc2.cell? ⟨w.heap.size + 1 + 1, 2, none⟩ = some (.string vb) := blk_cell Tk.B 2
          have h2 : wc2.frozen? ⟨w.heap.size + 1 + 1, 2, none⟩ = false := blk_free Tk.B 2
          have u3 : wc2.cell? ⟨w.heap.size + 1 + 1, 3, none⟩ = some (.string mb) := blk_cell Tk.B 3
          have h3 : wc2.frozen? ⟨w.heap.size + 1 + 1, 3, none⟩ = false := blk_free Tk.B 3
          refine hK.out _ _ trivial (fun hHeld => ?_)
          clear hK K
          refine wpAnyH_ready (rs := [6]) (by kernel_rfl) (by simp) ?_
          refine AllReadyH.cons (o := ⟨_, _, _, _, _, _⟩) rfl (fun K hK => ?_) (AllReadyH.nil)
          go_simp
          refine hK.out _ _ trivial (fun hHeld => ?_)
          clear hK K
          refine wpAnyH_ready (rs := [7]) (by kernel_rfl) (by simp) ?_
          refine AllReadyH.cons (o := ⟨_, _, _, _, _, _⟩) rfl (fun K hK => ?_) (AllReadyH.nil)
          go_simp
          refine hK.out _ _ trivial (fun hHeld => ?_)
          clear hK K
          refine wpAnyH_ready (rs := [8]) (by kernel_rfl) (by simp) ?_
          refine AllReadyH.cons (o := ⟨_, _, _, _, _, _⟩) rfl (fun K hK => ?_) (AllReadyH.nil)
          go_simp
          refine hK.out _ _ trivial (fun hHeld => ?_)
          clear hK K
          refine wpAnyH_done (by kernel_rfl) (NoPanic.normal ?_) _
          go_wp2_with fail
          go_meet
          exact ⟨rfl, pa', na', va', ma', pb', nb', vb', mb', ⟨hpa', hna', hnaa', hva', hma'⟩, ⟨hpb', hnb', hnbb', hvb', hmb'⟩, Tk.few⟩
      · go_simp
        refine hK.out _ _ trivial (fun hHeld => ?_)
        clear hK K
        refine wpAnyH_ready (rs := [1, 2]) (by kernel_rfl) (by simp) ?_
        refine AllReadyH.cons (o := ⟨_, _, _, _, _, _⟩) rfl (fun K hK => ?_) (AllReadyH.cons (o := ⟨_, _, _, _, _, _⟩) rfl (fun K hK => ?_) (AllReadyH.nil))
        · go_simp
          refine (few3_any p0 p1 ra rn rc sa sn sc _ hrc hsc).mono ?_
          rintro e wa ⟨rfl, ba⟩
          have T1 := Tk.below ba
          clear Tk ba c0 c1 c2 c3 f0 f1 f2 f3 d0 d1 d2 d3 g0 g1 g2 g3 u0 u1 u2 u3 h0 h1 h2 h3
          rename Tri w wa _ _ _ _ _ _ _ _ _ _ _ _ _ _ _ _ _ _ _ _ => Tk
          have c0 : wa.cell? ⟨w.heap.size, 0, none⟩ = some (.bool p0) := blk_cell Tk.P 0
          have f0 : wa.frozen? ⟨w.heap.size, 0, none⟩ = false := blk_free Tk.P 0
          have c1 : wa.cell? ⟨w.heap.size, 1, none⟩ = some (.bool p1) := blk_cell Tk.P 1
          have f1 : wa.frozen? ⟨w.heap.size, 1, none⟩ = false := blk_free Tk.P 1
          have c2 : wa.cell? ⟨w.heap.size, 2, none⟩ = some (.slice ra rn rc) := blk_cell Tk.P 2
          have f2 : wa.frozen? ⟨w.heap.size, 2, none⟩ = false := blk_free Tk.P 2
          have c3 : wa.cell? ⟨w.heap.size, 3, none⟩ = some (.slice sa sn sc) := blk_cell Tk.P 3
          have f3 : wa.frozen? ⟨w.heap.size, 3, none⟩ = false := blk_free Tk.P 3
          have d0 : wa.cell? ⟨w.heap.size + 1, 0, none⟩ = some (.string pa) := blk_cell Tk.A 0
          have g0 : wa.frozen? ⟨w.heap.size + 1, 0, none⟩ = false := blk_free Tk.A 0
          have d1 : wa.cell? ⟨w.heap.size + 1, 1, none⟩ = some (.slice aa na ca) := blk_cell Tk.A 1
          have g1 : wa.frozen? ⟨w.heap.size + 1, 1, none⟩ = false := blk_free Tk.A 1
          have d2 : wa.cell? ⟨w.heap.size + 1, 2, none⟩ = some (.string va) := blk_cell Tk.A 2
          have g2 : wa.frozen? ⟨w.heap.size + 1, 2, none⟩ = false := blk_free Tk.A 2
          have d3 : wa.cell? ⟨w.heap.size + 1, 3, none⟩ = some (.string ma) := blk_cell Tk.A 3
          have g3 : wa.frozen? ⟨w.heap.size + 1, 3, none⟩ = false := blk_free Tk.A 3
          have u0 : wa.cell? ⟨w.heap.size + 1 + 1, 0, none⟩ = some (.string pb) := blk_cell Tk.B 0
          have h0 : wa.frozen? ⟨w.heap.size + 1 + 1, 0, none⟩ = false := blk_free Tk.B 0
          have u1 : wa.cell? ⟨w.heap.size + 1 + 1, 1, none⟩ = some (.slice ab nb cb) := blk_cell Tk.B 1
          have h1 : wa.frozen? ⟨w.heap.size + 1 + 1, 1, none⟩ = false := blk_free Tk.B 1
          have u2 : wa.cell? ⟨w.heap.size + 1 + 1, 2, none⟩ = some (.string vb) := blk_cell Tk.B 2
          have h2 : wa.frozen? ⟨w.heap.size + 1 + 1, 2, none⟩ = false := blk_free Tk.B 2
          have u3 : wa.cell? ⟨w.heap.size + 1 + 1, 3, none⟩ = some (.string mb) := blk_cell Tk.B 3
          have h3 : wa.frozen? ⟨w.heap.size + 1 + 1, 3, none⟩ = false := blk_free Tk.B 3
          refine hK.out _ _ trivial (fun hHeld => ?_)
          clear hK K
          refine wpAnyH_ready (rs := [2]) (by kernel_rfl) (by simp) ?_
          refine AllReadyH.cons (o := ⟨_, _, _, _, _, _⟩) rfl (fun K hK => ?_) (AllReadyH.nil)
          go_simp
          refine hK.out _ _ trivial (fun hHeld => ?_)
          clear hK K
          refine wpAnyH_ready (rs := [3]) (by kernel_rfl) (by simp) ?_
          refine AllReadyH.cons (o := ⟨_, _, _, _, _, _⟩) rfl (fun K hK => ?_) (AllReadyH.nil)
          go_simp
          refine (few_any pa aa na ca va ma _ hca).mono ?_
          rintro e wb ⟨⟨pa', na', va', ma', rfl, hpa', hna', hnaa', hva', hma'⟩, bb⟩
          have T1 := Tk.below bb
          clear Tk bb c0 c1 c2 c3 f0 f1 f2 f3 d0 d1 d2 d3 g0 g1 g2 g3 u0 u1 u2 u3 h0 h1 h2 h3
          rename Tri w wb _ _ _ _ _ _ _ _ _ _ _ _ _ _ _ _ _ _ _ _ => Tk
          have c0 : wb.cell? ⟨w.heap.size, 0, none⟩ = some (.bool p0) := blk_cell Tk.P 0
          have f0 : wb.frozen? ⟨w.heap.size, 0, none⟩ = false := blk_free Tk.P 0
          have c1 : wb.cell? ⟨w.heap.size, 1, none⟩ = some (.bool p1) := blk_cell Tk.P 1
          have f1 : wb.frozen? ⟨w.heap.size, 1, none⟩ = false := blk_free Tk.P 1
          have c2 : wb.cell? ⟨w.heap.size, 2, none⟩ = some (.slice ra rn rc) := blk_cell Tk.P 2
          have f2 : wb.frozen? ⟨w.heap.size, 2, none⟩ = false := blk_free Tk.P 2
          have c3 : wb.cell? ⟨w.heap.size, 3, none⟩ = some (.slice sa sn sc) := blk_cell Tk.P 3
          have f3 : wb.frozen? ⟨w.heap.size, 3, none⟩ = false := blk_free Tk.P 3
          have d0 : wb.cell? ⟨w.heap.size + 1, 0, none⟩ = some (.string pa) := blk_cell Tk.A 0
          have g0 : wb.frozen? ⟨w.heap.size + 1, 0, none⟩ = false := blk_free Tk.A 0
          have d1 : wb.cell? ⟨w.heap.size + 1, 1, none⟩ = some (.slice aa na ca) := blk_cell Tk.A 1
          have g1 : wb.frozen? ⟨w.heap.size + 1, 1, none⟩ = false := blk_free Tk.A 1
          have d2 : wb.cell? ⟨w.heap.size + 1, 2, none⟩ = some (.string va) := blk_cell Tk.A 2
          have g2 : wb.frozen? ⟨w.heap.size + 1, 2, none⟩ = false := blk_free Tk.A 2
          have d3 : wb.cell? ⟨w.heap.size + 1, 3, none⟩ = some (.string ma) := blk_cell Tk.A 3
          have g3 : wb.frozen? ⟨w.heap.size + 1, 3, none⟩ = false := blk_free Tk.A 3
          have u0 : wb.cell? ⟨w.heap.size + 1 + 1, 0, none⟩ = some (.string pb) := blk_cell Tk.B 0
          have h0 : wb.frozen? ⟨w.heap.size + 1 + 1, 0, none⟩ = false := blk_free Tk.B 0
          have u1 : wb.cell? ⟨w.heap.size + 1 + 1, 1, none⟩ = some (.slice ab nb cb) := blk_cell Tk.B 1
          have h1 : wb.frozen? ⟨w.heap.size + 1 + 1, 1, none⟩ = false := blk_free Tk.B 1
          have u2 : wb.cell? ⟨w.heap.size + 1 + 1, 2, none⟩ = some (.string vb) := blk_cell Tk.B 2
          have h2 : wb.frozen? ⟨w.heap.size + 1 + 1, 2, none⟩ = false := blk_free Tk.B 2
          have u3 : wb.cell? ⟨w.heap.size + 1 + 1, 3, none⟩ = some (.string mb) := blk_cell Tk.B 3
          have h3 : wb.frozen? ⟨w.heap.size + 1 + 1, 3, none⟩ = false := blk_free Tk.B 3
          refine hK.out _ _ trivial (fun hHeld => ?_)
          clear hK K
          refine wpAnyH_ready (rs := [5]) (by kernel_rfl) (by simp) ?_
          refine AllReadyH.cons (o := ⟨_, _, _, _, _, _⟩) rfl (fun K hK => ?_) (AllReadyH.nil)
          go_simp
          refine (few_any pb ab nb cb vb mb _ hcb).mono ?_
          rintro e wc2 ⟨⟨pb', nb', vb', mb', rfl, hpb', hnb', hnbb', hvb', hmb'⟩, bc⟩
          have T1 := Tk.below bc
          clear Tk bc c0 c1 c2 c3 f0 f1 f2 f3 d0 d1 d2 d3 g0 g1 g2 g3 u0 u1 u2 u3 h0 h1 h2 h3
          rename Tri w wc2 _ _ _ _ _ _ _ _ _ _ _ _ _ _ _ _ _ _ _ _ => Tk
          have c0 : wc2.cell? ⟨w.heap.size, 0, none⟩ = some (.bool p0) := blk_cell Tk.P 0
          have f0 : wc2.frozen? ⟨w.heap.size, 0, none⟩ = false := blk_free Tk.P 0
          have c1 : wc2.cell? ⟨w.heap.size, 1, none⟩ = some (.bool p1) := blk_cell Tk.P 1
          have f1 : wc2.frozen? ⟨w.heap.size, 1, none⟩ = false := blk_free Tk.P 1
          have c2 : wc2.cell? ⟨w.heap.size, 2, none⟩ = some (.slice ra rn rc) := blk_cell Tk.P 2
          have f2 : wc2.frozen? ⟨w.heap.size, 2, none⟩ = false := blk_free Tk.P 2
          have c3 : wc2.cell? ⟨w.heap.size, 3, none⟩ = some (.slice sa sn sc) := blk_cell Tk.P 3
          have f3 : wc2.frozen? ⟨w.heap.size, 3, none⟩ = false := blk_free Tk.P 3
          have d0 : wc2.cell? ⟨w.heap.size + 1, 0, none⟩ = some (.string pa) := blk_cell Tk.A 0
          have g0 : wc2.frozen? ⟨w.heap.size + 1, 0, none⟩ = false := blk_free Tk.A 0
          have d1 : wc2.cell? ⟨w.heap.size + 1, 1, none⟩ = some (.slice aa na ca) := blk_cell Tk.A 1
          have g1 : wc2.frozen? ⟨w.heap.size + 1, 1, none⟩ = false := blk_free Tk.A 1
          have d2 : wc2.cell? ⟨w.heap.size + 1, 2, none⟩ = some (.string va) := blk_cell Tk.A 2
          have g2 : wc2.frozen? ⟨w.heap.size + 1, 2, none⟩ = false := blk_free Tk.A 2
          have d3 : wc2.cell? ⟨w.heap.size + 1, 3, none⟩ = some (.string ma) := blk_cell Tk.A 3
          have g3 : wc2.frozen? ⟨w.heap.size + 1, 3, none⟩ = false := blk_free Tk.A 3
          have u0 : wc2.cell? ⟨w.heap.size + 1 + 1, 0, none⟩ = some (.string pb) := blk_cell Tk.B 0
          have h0 : wc2.frozen? ⟨w.heap.size + 1 + 1, 0, none⟩ = false := blk_free Tk.B 0
          have u1 : wc2.cell? ⟨w.heap.size + 1 + 1, 1, none⟩ = some (.slice ab nb cb) := blk_cell Tk.B 1
          have h1 : wc2.frozen? ⟨w.heap.size + 1 + 1, 1, none⟩ = false := blk_free Tk.B 1
          have u2 : wc2.cell? ⟨w.heap.size + 1 + 1, 2, none⟩ = some (.string vb) := blk_cell Tk.B 2
          have h2 : wc2.frozen? ⟨w.heap.size + 1 + 1, 2, none⟩ = false := blk_free Tk.B 2
          have u3 : wc2.cell? ⟨w.heap.size + 1 + 1, 3, none⟩ = some (.string mb) := blk_cell Tk.B 3
          have h3 : wc2.frozen? ⟨w.heap.size + 1 + 1, 3, none⟩ = false := blk_free Tk.B 3
          refine hK.out _ _ trivial (fun hHeld => ?_)
          clear hK K
          refine wpAnyH_ready (rs := [6]) (by kernel_rfl) (by simp) ?_
          refine AllReadyH.cons (o := ⟨_, _, _, _, _, _⟩) rfl (fun K hK => ?_) (AllReadyH.nil)
          go_simp
          refine hK.out _ _ trivial (fun hHeld => ?_)
          clear hK K
          refine wpAnyH_ready (rs := [7]) (by kernel_rfl) (by simp) ?_
          refine AllReadyH.cons (o := ⟨_, _, _, _, _, _⟩) rfl (fun K hK => ?_) (AllReadyH.nil)
          go_simp
          refine hK.out _ _ trivial (fun hHeld => ?_)
          clear hK K
          refine wpAnyH_ready (rs := [8]) (by kernel_rfl) (by simp) ?_
          refine AllReadyH.cons (o := ⟨_, _, _, _, _, _⟩) rfl (fun K hK => ?_) (AllReadyH.nil)
          go_simp
          refine hK.out _ _ trivial (fun hHeld => ?_)
          clear hK K
          refine wpAnyH_done (by kernel_rfl) (NoPanic.normal ?_) _
          go_wp2_with fail
          go_meet
          exact ⟨rfl, pa', na', va', ma', pb', nb', vb', mb', ⟨hpa', hna', hnaa', hva', hma'⟩, ⟨hpb', hnb', hnbb', hvb', hmb'⟩, Tk.few⟩
        · go_simp
          refine hK.out _ _ trivial (fun hHeld => ?_)
          clear hK K
          refine wpAnyH_ready (rs := [1]) (by kernel_rfl) (by simp) ?_
          refine AllReadyH.cons (o := ⟨_, _, _, _, _, _⟩) rfl (fun K hK => ?_) (AllReadyH.nil)
          go_simp
          refine (few3_any p0 p1 ra rn rc sa sn sc _ hrc hsc).mono ?_
          rintro e wa ⟨rfl, ba⟩
          have T1 := Tk.below ba
          clear Tk ba c0 c1 c2 c3 f0 f1 f2 f3 d0 d1 d2 d3 g0 g1 g2 g3 u0 u1 u2 u3 h0 h1 h2 h3
          rename Tri w wa _ _ _ _ _ _ _ _ _ _ _ _ _ _ _ _ _ _ _ _ => Tk
          have c0 : wa.cell? ⟨w.heap.size, 0, none⟩ = some (.bool p0) := blk_cell Tk.P 0
          have f0 : wa.frozen? ⟨w.heap.size, 0, none⟩ = false := blk_free Tk.P 0
          have c1 : wa.cell? ⟨w.heap.size, 1, none⟩ = some (.bool p1) := blk_cell Tk.P 1
          have f1 : wa.frozen? ⟨w.heap.size, 1, none⟩ = false := blk_free Tk.P 1
          have c2 : wa.cell? ⟨w.heap.size, 2, none⟩ = some (.slice ra rn rc) := blk_cell Tk.P 2
          have f2 : wa.frozen? ⟨w.heap.size, 2, none⟩ = false := blk_free Tk.P 2
          have c3 : wa.cell? ⟨w.heap.size, 3, none⟩ = some (.slice sa sn sc) := blk_cell Tk.P 3
          have f3 : wa.frozen? ⟨w.heap.size, 3, none⟩ = false := blk_free Tk.P 3
          have d0 : wa.cell? ⟨w.heap.size + 1, 0, none⟩ = some (.string pa) := blk_cell Tk.A 0
          have g0 : wa.frozen? ⟨w.heap.size + 1, 0, none⟩ = false := blk_free Tk.A 0
          have d1 : wa.cell? ⟨w.heap.size + 1, 1, none⟩ = some (.slice aa na ca) := blk_cell Tk.A 1
          have g1 : wa.frozen? ⟨w.heap.size + 1, 1, none⟩ = false := blk_free Tk.A 1
          have d2 : wa.cell? ⟨w.heap.size + 1, 2, none⟩ = some (.string va) := blk_cell Tk.A 2
          have g2 : wa.frozen? ⟨w.heap.size + 1, 2, none⟩ = false := blk_free Tk.A 2
          have d3 : wa.cell? ⟨w.heap.size + 1, 3, none⟩ = some (.string ma) := blk_cell Tk.A 3
          have g3 : wa.frozen? ⟨w.heap.size + 1, 3, none⟩ = false := blk_free Tk.A 3
          have u0 : wa.cell? ⟨w.heap.size + 1 + 1, 0, none⟩ = some (.string pb) := blk_cell Tk.B 0
          have h0 : wa.frozen? ⟨w.heap.size + 1 + 1, 0, none⟩ = false := blk_free Tk.B 0
          have u1 : wa.cell? ⟨w.heap.size + 1 + 1, 1, none⟩ = some (.slice ab nb cb) := blk_cell Tk.B 1
          have h1 : wa.frozen? ⟨w.heap.size + 1 + 1, 1, none⟩ = false := blk_free Tk.B 1
          have u2 : wa.cell? ⟨w.heap.size + 1 + 1, 2, none⟩ = some (.string vb) := blk_cell Tk.B 2
          have h2 : wa.frozen? ⟨w.heap.size + 1 + 1, 2, none⟩ = false := blk_free Tk.B 2
          have u3 : wa.cell? ⟨w.heap.size + 1 + 1, 3, none⟩ = some (.string mb) := blk_cell Tk.B 3
          have h3 : wa.frozen? ⟨w.heap.size + 1 + 1, 3, none⟩ = false := blk_free Tk.B 3
          refine hK.out _ _ trivial (fun hHeld => ?_)
          clear hK K
          refine wpAnyH_ready (rs := [3]) (by kernel_rfl) (by simp) ?_
          refine AllReadyH.cons (o := ⟨_, _, _, _, _, _⟩) rfl (fun K hK => ?_) (AllReadyH.nil)
          go_simp
          refine (few_any pa aa na ca va ma _ hca).mono ?_
          rintro e wb ⟨⟨pa', na', va', ma', rfl, hpa', hna', hnaa', hva', hma'⟩, bb⟩
          have T1 := Tk.below bb
          clear Tk bb c0 c1 c2 c3 f0 f1 f2 f3 d0 d1 d2 d3 g0 g1 g2 g3 u0 u1 u2 u3 h0 h1 h2 h3
          rename Tri w wb _ _ _ _ _ _ _ _ _ _ _ _ _ _ _ _ _ _ _ _ => Tk
          have c0 : wb.cell? ⟨w.heap.size, 0, none⟩ = some (.bool p0) := blk_cell Tk.P 0
          have f0 : wb.frozen? ⟨w.heap.size, 0, none⟩ = false := blk_free Tk.P 0
          have c1 : wb.cell? ⟨w.heap.size, 1, none⟩ = some (.bool p1) := blk_cell Tk.P 1
          have f1 : wb.frozen? ⟨w.heap.size, 1, none⟩ = false := blk_free Tk.P 1
          have c2 : wb.cell? ⟨w.heap.size, 2, none⟩ = some (.slice ra rn rc) := blk_cell Tk.P 2
          have f2 : wb.frozen? ⟨w.heap.size, 2, none⟩ = false := blk_free Tk.P 2
          have c3 : wb.cell? ⟨w.heap.size, 3, none⟩ = some (.slice sa sn sc) := blk_cell Tk.P 3
          have f3 : wb.frozen? ⟨w.heap.size, 3, none⟩ = false := blk_free Tk.P 3
          have d0 : wb.cell? ⟨w.heap.size + 1, 0, none⟩ = some (.string pa) := blk_cell Tk.A 0
          have g0 : wb.frozen? ⟨w.heap.size + 1, 0, none⟩ = false := blk_free Tk.A 0
          have d1 : wb.cell? ⟨w.heap.size + 1, 1, none⟩ = some (.slice aa na ca) := blk_cell Tk.A 1
          have g1 : wb.frozen? ⟨w.heap.size + 1, 1, none⟩ = false := blk_free Tk.A 1
          have d2 : wb.cell? ⟨w.heap.size + 1, 2, none⟩ = some (.string va) := blk_cell Tk.A 2
          have g2 : wb.frozen? ⟨w.heap.size + 1, 2, none⟩ = false := blk_free Tk.A 2
          have d3 : wb.cell? ⟨w.heap.size + 1, 3, none⟩ = some (.string ma) := blk_cell Tk.A 3
          have g3 : wb.frozen? ⟨w.heap.size + 1, 3, none⟩ = false := blk_free Tk.A 3
          have u0 : wb.cell? ⟨w.heap.size + 1 + 1, 0, none⟩ = some (.string pb) := blk_cell Tk.B 0
          have h0 : wb.frozen? ⟨w.heap.size + 1 + 1, 0, none⟩ = false := blk_free Tk.B 0
          have u1 : wb.cell? ⟨w.heap.size + 1 + 1, 1, none⟩ = some (.slice ab nb cb) := blk_cell Tk.B 1
          have h1 : wb.frozen? ⟨w.heap.size + 1 + 1, 1, none⟩ = false := blk_free Tk.B 1
          have u2 : wb.cell? ⟨w.heap.size + 1 + 1, 2, none⟩ = some (.string vb) := blk_cell Tk.B 2
          have h2 : wb.frozen? ⟨w.heap.size + 1 + 1, 2, none⟩ = false := blk_free Tk.B 2
          have u3 : wb.cell? ⟨w.heap.size + 1 + 1, 3, none⟩ = some (.string mb) := blk_cell Tk.B 3
          have h3 : wb.frozen? ⟨w.heap.size + 1 + 1, 3, none⟩ = false := blk_free Tk.B 3
          refine hK.out _ _ trivial (fun hHeld => ?_)
          clear hK K
          refine wpAnyH_ready (rs := [5]) (by kernel_rfl) (by simp) ?_
          refine AllReadyH.cons (o := ⟨_, _, _, _, _, _⟩) rfl (fun K hK => ?_) (AllReadyH.nil)
          go_simp
          refine (few_any pb ab nb cb vb mb _ hcb).mono ?_
          rintro e wc2 ⟨⟨pb', nb', vb', mb', rfl, hpb', hnb', hnbb', hvb', hmb'⟩, bc⟩
          have T1 := Tk.below bc
          clear Tk bc c0 c1 c2 c3 f0 f1 f2 f3 d0 d1 d2 d3 g0 g1 g2 g3 u0 u1 u2 u3 h0 h1 h2 h3
          rename Tri w wc2 _ _ _ _ _ _ _ _ _ _ _ _ _ _ _ _ _ _ _ _ => Tk
          have c0 : wc2.cell? ⟨w.heap.size, 0, none⟩ = some (.bool p0) := blk_cell Tk.P 0
          have f0 : wc2.frozen? ⟨w.heap.size, 0, none⟩ = false := blk_free Tk.P 0
          have c1 : wc2.cell? ⟨w.heap.size, 1, none⟩ = some (.bool p1) := blk_cell Tk.P 1
          have f1 : wc2.frozen? ⟨w.heap.size, 1, none⟩ = false := blk_free Tk.P 1
          have c2 : wc2.cell? ⟨w.heap.size, 2, none⟩ = some (.slice ra rn rc) := blk_cell Tk.P 2
          have f2 : wc2.frozen? ⟨w.heap.size, 2, none⟩ = false := blk_free Tk.P 2
          have c3 : wc2.cell? ⟨w.heap.size, 3, none⟩ = some (.slice sa sn sc) := blk_cell Tk.P 3
          have f3 : wc2.frozen? ⟨w.heap.size, 3, none⟩ = false := blk_free Tk.P 3
          have d0 : wc2.cell? ⟨w.heap.size + 1, 0, none⟩ = some (.string pa) := blk_cell Tk.A 0
          have g0 : wc2.frozen? ⟨w.heap.size + 1, 0, none⟩ = false := blk_free Tk.A 0
          have d1 : wc2.cell? ⟨w.heap.size + 1, 1, none⟩ = some (.slice aa na ca) := blk_cell Tk.A 1
          have g1 : wc2.frozen? ⟨w.heap.size + 1, 1, none⟩ = false := blk_free Tk.A 1
          have d2 : wc2.cell? ⟨w.heap.size + 1, 2, none⟩ = some (.string va) := blk_cell Tk.A 2
          have g2 : wc2.frozen? ⟨w.heap.size + 1, 2, none⟩ = false := blk_free Tk.A 2
          have d3 : wc2.cell? ⟨w.heap.size + 1, 3, none⟩ = some (.string ma) := blk_cell Tk.A 3
          have g3 : wc2.frozen? ⟨w.heap.size + 1, 3, none⟩ = false := blk_free Tk.A 3
          have u0 : wc2.cell? ⟨w.heap.size + 1 + 1, 0, none⟩ = some (.string pb) := blk_cell Tk.B 0
          have h0 : wc2.frozen? ⟨w.heap.size + 1 + 1, 0, none⟩ = false := blk_free Tk.B 0
          have u1 : wc2.cell? ⟨w.heap.size + 1 + 1, 1, none⟩ = some (.slice ab nb cb) := blk_cell Tk.B 1
          have h1 : wc2.frozen? ⟨w.heap.size + 1 + 1, 1, none⟩ = false := blk_free Tk.B 1
          have u2 : wc2.cell? ⟨w.heap.size + 1 + 1, 2, none⟩ = some (.string vb) := blk_cell Tk.B 2
          have h2 : wc2.frozen? ⟨w.heap.size + 1 + 1, 2, none⟩ = false := blk_free Tk.B 2
          have u3 : wc2.cell? ⟨w.heap.size + 1 + 1, 3, none⟩ = some (.string mb) := blk_cell Tk.B 3
          have h3 : wc2.frozen? ⟨w.heap.size + 1 + 1, 3, none⟩ = false := blk_free Tk.B 3
          refine hK.out _ _ trivial (fun hHeld => ?_)
          clear hK K
          refine wpAnyH_ready (rs := [6]) (by kernel_rfl) (by simp) ?_
          refine AllReadyH.cons (o := ⟨_, _, _, _, _, _⟩) rfl (fun K hK => ?_) (AllReadyH.nil)
          go_simp
          refine hK.out _ _ trivial (fun hHeld => ?_)
          clear hK K
          refine wpAnyH_ready (rs := [7]) (by kernel_rfl) (by simp) ?_
          refine AllReadyH.cons (o := ⟨_, _, _, _, _, _⟩) rfl (fun K hK => ?_) (AllReadyH.nil)
          go_simp
          refine hK.out _ _ trivial (fun hHeld => ?_)
          clear hK K
          refine wpAnyH_ready (rs := [8]) (by kernel_rfl) (by simp) ?_
          refine AllReadyH.cons (o := ⟨_, _, _, _, _, _⟩) rfl (fun K hK => ?_) (AllReadyH.nil)
          go_simp
          refine hK.out _ _ trivial (fun hHeld => ?_)
          clear hK K
          refine wpAnyH_done (by kernel_rfl) (NoPanic.normal ?_) _
          go_wp2_with fail
          go_meet
          exact ⟨rfl, pa', na', va', ma', pb', nb', vb', mb', ⟨hpa', hna', hnaa', hva', hma'⟩, ⟨hpb', hnb', hnbb', hvb', hmb'⟩, Tk.few⟩
    · go_simp
      refine hK.out _ _ trivial (fun hHeld => ?_)
      clear hK K
      refine wpAnyH_ready (rs := [0, 4]) (by kernel_rfl) (by simp) ?_
      refine AllReadyH.cons (o := ⟨_, _, _, _, _, _⟩) rfl (fun K hK => ?_) (AllReadyH.cons (o := ⟨_, _, _, _, _, _⟩) rfl (fun K hK => ?_) (AllReadyH.nil))
      · go_simp
        refine hK.out _ _ trivial (fun hHeld => ?_)
        clear hK K
        refine wpAnyH_ready (rs := [1, 4]) (by kernel_rfl) (by simp) ?_
        refine AllReadyH.cons (o := ⟨_, _, _, _, _, _⟩) rfl (fun K hK => ?_) (AllReadyH.cons (o := ⟨_, _, _, _, _, _⟩) rfl (fun K hK => ?_) (AllReadyH.nil))
        · go_simp
          refine (few3_any p0 p1 ra rn rc sa sn sc _ hrc hsc).mono ?_
          rintro e wa ⟨rfl, ba⟩
          have T1 := Tk.below ba
          clear Tk ba c0 c1 c2 c3 f0 f1 f2 f3 d0 d1 d2 d3 g0 g1 g2 g3 u0 u1 u2 u3 h0 h1 h2 h3
          rename Tri w wa _ _ _ _ _ _ _ _ _ _ _ _ _ _ _ _ _ _ _ _ => Tk
          have c0 : wa.cell? ⟨w.heap.size, 0, none⟩ = some (.bool p0) := blk_cell Tk.P 0
          have f0 : wa.frozen? ⟨w.heap.size, 0, none⟩ = false := blk_free Tk.P 0
          have c1 : wa.cell? ⟨w.heap.size, 1, none⟩ = some (.bool p1) := blk_cell Tk.P 1
          have f1 : wa.frozen? ⟨w.heap.size, 1, none⟩ = false := blk_free Tk.P 1
          have c2 : wa.cell? ⟨w.heap.size, 2, none⟩ = some (.slice ra rn rc) := blk_cell Tk.P 2
          have f2 : wa.frozen? ⟨w.heap.size, 2, none⟩ = false := blk_free Tk.P 2
          have c3 : wa.cell? ⟨w.heap.size, 3, none⟩ = some (.slice sa sn sc) := blk_cell Tk.P 3
          have f3 : wa.frozen? ⟨w.heap.size, 3, none⟩ = false := blk_free Tk.P 3
          have d0 : wa.cell? ⟨w.heap.size + 1, 0, none⟩ = some (.string pa) := blk_cell Tk.A 0
          have g0 : wa.frozen? ⟨w.heap.size + 1, 0, none⟩ = false := blk_free Tk.A 0
          have d1 : wa.cell? ⟨w.heap.size + 1, 1, none⟩ = some (.slice aa na ca) := blk_cell Tk.A 1
          have g1 : wa.frozen? ⟨w.heap.size + 1, 1, none⟩ = false := blk_free Tk.A 1
          have d2 : wa.cell? ⟨w.heap.size + 1, 2, none⟩ = some (.string va) := blk_cell Tk.A 2
          have g2 : wa.frozen? ⟨w.heap.size + 1, 2, none⟩ = false := blk_free Tk.A 2
          have d3 : wa.cell? ⟨w.heap.size + 1, 3, none⟩ = some (.string ma) := blk_cell Tk.A 3
          have g3 : wa.frozen? ⟨w.heap.size + 1, 3, none⟩ = false := blk_free Tk.A 3
          have u0 : wa.cell? ⟨w.heap.size + 1 + 1, 0, none⟩ = some (.string pb) := blk_cell Tk.B 0
          have h0 : wa.frozen? ⟨w.heap.size + 1 + 1, 0, none⟩ = false := blk_free Tk.B 0
          have u1 : wa.cell? ⟨w.heap.size + 1 + 1, 1, none⟩ = some (.slice ab nb cb) := blk_cell Tk.B 1
          have h1 : wa.frozen? ⟨w.heap.size + 1 + 1, 1, none⟩ = false := blk_free Tk.B 1
          have u2 : wa.cell? ⟨w.heap.size + 1 + 1, 2, none⟩ = some (.string vb) := blk_cell Tk.B 2
          have h2 : wa.frozen? ⟨w.heap.size + 1 + 1, 2, none⟩ = false := blk_free Tk.B 2
          have u3 : wa.cell? ⟨w.heap.size + 1 + 1, 3, none⟩ = some (.string mb) := blk_cell Tk.B 3
          have h3 : wa.frozen? ⟨w.heap.size + 1 + 1, 3, none⟩ = false := blk_free Tk.B 3
          refine hK.out _ _ trivial (fun hHeld => ?_)
          clear hK K
          refine wpAnyH_ready (rs := [3, 4]) (by kernel_rfl) (by simp) ?_
          refine AllReadyH.cons (o := ⟨_, _, _, _, _, _⟩) rfl (fun K hK => ?_) (AllReadyH.cons (o := ⟨_, _, _, _, _, _⟩) rfl (fun K hK => ?_) (AllReadyH.nil))
          · go_simp
            refine (few_any pa aa na ca va ma _ hca).mono ?_
            rintro e wb ⟨⟨pa', na', va', ma', rfl, hpa', hna', hnaa', hva', hma'⟩, bb⟩
            have T1 := Tk.below bb
            clear Tk bb c0 c1 c2 c3 f0 f1 f2 f3 d0 d1 d2 d3 g0 g1 g2 g3 u0 u1 u2 u3 h0 h1 h2 h3
            rename Tri w wb _ _ _ _ _ _ _ _ _ _ _ _ _ _ _ _ _ _ _ _ => Tk
            have c0 : wb.cell? ⟨w.heap.size, 0, none⟩ = some (.bool p0) := blk_cell Tk.P 0
            have f0 : wb.frozen? ⟨w.heap.size, 0, none⟩ = false := blk_free Tk.P 0
            have c1 : wb.cell? ⟨w.heap.size, 1, none⟩ = some (.bool p1) := blk_cell Tk.P 1
            have f1 : wb.frozen? ⟨w.heap.size, 1, none⟩ = false := blk_free Tk.P 1
            have c2 : wb.cell? ⟨w.heap.size, 2, none⟩ = some (.slice ra rn rc) := blk_cell Tk.P 2
            have f2 : wb.frozen? ⟨w.heap.size, 2, none⟩ = false := blk_free Tk.P 2
            have c3 : wb.cell? ⟨w.heap.size, 3, none⟩ = some (.slice sa sn sc) := blk_cell Tk.P 3
            have f3 : wb.frozen? ⟨w.heap.size, 3, none⟩ = false := blk_free Tk.P 3
            have d0 : wb.cell? ⟨w.heap.size + 1, 0, none⟩ = some (.string pa) := blk_cell Tk.A 0
            have g0 : wb.frozen? ⟨w.heap.size + 1, 0, none⟩ = false := blk_free Tk.A 0
            have d1 : wb.cell? ⟨w.heap.size + 1, 1, none⟩ = some (.slice aa na ca) := blk_cell Tk.A 1
            have g1 : wb.frozen? ⟨w.heap.size + 1, 1, none⟩ = false := blk_free Tk.A 1
            have d2 : wb.cell? ⟨w.heap.size + 1, 2, none⟩ = some (.string va) := blk_cell Tk.A 2
            have g2 : wb.frozen? ⟨w.heap.size + 1, 2, none⟩ = false := blk_free Tk.A 2
            have d3 : wb.cell? ⟨w.heap.size + 1, 3, none⟩ = some (.string ma) := blk_cell Tk.A 3
            have g3 : wb.frozen? ⟨w.heap.size + 1, 3, none⟩ = false := blk_free Tk.A 3
            have u0 : wb.cell? ⟨w.heap.size + 1 + 1, 0, none⟩ = some (.string pb) := blk_cell Tk.B 0
            have h0 : wb.frozen? ⟨w.heap.size + 1 + 1, 0, none⟩ = false := blk_free Tk.B 0
            have u1 : wb.cell? ⟨w.heap.size + 1 + 1, 1, none⟩ = some (.slice ab nb cb) := blk_cell Tk.B 1
            have h1 : wb.frozen? ⟨w.heap.size + 1 + 1, 1, none⟩ = false := blk_free Tk.B 1
            have u2 : wb.cell? ⟨w.heap.size + 1 + 1, 2, none⟩ = some (.string vb) := blk_cell Tk.B 2
            have h2 : wb.frozen? ⟨w.heap.size + 1 + 1, 2, none⟩ = false := blk_free Tk.B 2
            have u3 : wb.cell? ⟨w.heap.size + 1 + 1, 3, none⟩ = some (.string mb) := blk_cell Tk.B 3
            have h3 : wb.frozen? ⟨w.heap.size + 1 + 1, 3, none⟩ = false := blk_free Tk.B 3
            refine hK.out _ _ trivial (fun hHeld => ?_)
            clear hK K
            refine wpAnyH_ready (rs := [4]) (by kernel_rfl) (by simp) ?_
            refine AllReadyH.cons (o := ⟨_, _, _, _, _, _⟩) rfl (fun K hK => ?_) (AllReadyH.nil)
            go_simp
            refine hK.out _ _ trivial (fun hHeld => ?_)
            clear hK K
            refine wpAnyH_ready (rs := [5]) (by kernel_rfl) (by simp) ?_
            refine AllReadyH.cons (o := ⟨_, _, _, _, _, _⟩) rfl (fun K hK => ?_) (AllReadyH.nil)
            go_simp
            refine (few_any pb ab nb cb vb mb _ hcb).mono ?_
            rintro e wc2 ⟨⟨pb', nb', vb', mb', rfl, hpb', hnb', hnbb', hvb', hmb'⟩, bc⟩
            have T1 := Tk.below bc
            clear Tk bc c0 c1 c2 c3 f0 f1 f2 f3 d0 d1 d2 d3 g0 g1 g2 g3 u0 u1 u2 u3 h0 h1 h2 h3
            rename Tri w wc2 _ _ _ _ _ _ _ _ _ _ _ _ _ _ _ _ _ _ _ _ => Tk
            have c0 : wc2.cell? ⟨w.heap.size, 0, none⟩ = some (.bool p0) := blk_cell Tk.P 0
            have f0 : wc2.frozen? ⟨w.heap.size, 0, none⟩ = false := blk_free Tk.P 0
            have c1 : wc2.cell? ⟨w.heap.size, 1, none⟩ = some (.bool p1) := blk_cell Tk.P 1
            have f1 : wc2.frozen? ⟨w.heap.size, 1, none⟩ = false := blk_free Tk.P 1
            have c2 : wc2.cell? ⟨w.heap.size, 2, none⟩ = some (.slice ra rn rc) := blk_cell Tk.P 2
            have f2 : wc2.frozen? ⟨w.heap.size, 2, none⟩ = false := blk_free Tk.P 2
            have c3 : wc2.cell? ⟨w.heap.size, 3, none⟩ = some (.slice sa sn sc) := blk_cell Tk.P 3
            have f3 : wc2.frozen? ⟨w.heap.size, 3, none⟩ = false := blk_free Tk.P 3
            have d0 : wc2.cell? ⟨w.heap.size + 1, 0, none⟩ = some (.string pa) := blk_cell Tk.A 0
            have g0 : wc2.frozen? ⟨w.heap.size + 1, 0, none⟩ = false := blk_free Tk.A 0
            have d1 : wc2.cell? ⟨w.heap.size + 1, 1, none⟩ = some (.slice aa na ca) := blk_cell Tk.A 1
            have g1 : wc2.frozen? ⟨w.heap.size + 1, 1, none⟩ = false := blk_free Tk.A 1
            have d2 : wc2.cell? ⟨w.heap.size + 1, 2, none⟩ = some (.string va) := blk_cell Tk.A 2
            have g2 : wc2.frozen? ⟨w.heap.size + 1, 2, none⟩ = false := blk_free Tk.A 2
            have d3 : wc2.cell? ⟨w.heap.size + 1, 3, none⟩ = some (.string ma) := blk_cell Tk.A 3
            have g3 : wc2.frozen? ⟨w.heap.size + 1, 3, none⟩ = false := blk_free Tk.A 3
            have u0 : wc2.cell? ⟨w.heap.size + 1 + 1, 0, none⟩ = some (.string pb) := blk_cell Tk.B 0
            have h0 : wc2.frozen? ⟨w.heap.size + 1 + 1, 0, none⟩ = false := blk_free Tk.B 0
            have u1 : wc2.cell? ⟨w.heap.size + 1 + 1, 1, none⟩ = some (.slice ab nb cb) := blk_cell Tk.B 1
            have h1 : wc2.frozen? ⟨w.heap.size + 1 + 1, 1, none⟩ = false := blk_free Tk.B 1
            have u2 : wc2.cell? ⟨w.heap.size + 1 + 1, 2, none⟩ = some (.string vb) := blk_cell Tk.B 2
            have h2 : wc2.frozen? ⟨w.heap.size + 1 + 1, 2, none⟩ = false := blk_free Tk.B 2
            have u3 : wc2.cell? ⟨w.heap.size + 1 + 1, 3, none⟩ = some (.string mb) := blk_cell Tk.B 3
            have h3 : wc2.frozen? ⟨w.heap.size + 1 + 1, 3, none⟩ = false := blk_free Tk.B 3
            refine hK.out _ _ trivial (fun hHeld => ?_)
            clear hK K
            refine wpAnyH_ready (rs := [6]) (by kernel_rfl) (by simp) ?_
            refine AllReadyH.cons (o := ⟨_, _, _, _, _, _⟩) rfl (fun K hK => ?_) (AllReadyH.nil)
            go_simp
            refine hK.out _ _ trivial (fun hHeld => ?_)
            clear hK K
            refine wpAnyH_ready (rs := [7]) (by kernel_rfl) (by simp) ?_
            refine AllReadyH.cons (o := ⟨_, _, _, _, _, _⟩) rfl (fun K hK => ?_) (AllReadyH.nil)
            go_simp
            refine hK.out _ _ trivial (fun hHeld => ?_)
            clear hK K
            refine wpAnyH_ready (rs := [8]) (by kernel_rfl) (by simp) ?_
            refine AllReadyH.cons (o := ⟨_, _, _, _, _, _⟩) rfl (fun K hK => ?_) (AllReadyH.nil)
            go_simp
            refine hK.out _ _ trivial (fun hHeld => ?_)
            clear hK K
            refine wpAnyH_done (by kernel_rfl) (NoPanic.normal ?_) _
            go_wp2_with fail
            go_meet
            exact ⟨rfl, pa', na', va', ma', pb', nb', vb', mb', ⟨hpa', hna', hnaa', hva', hma'⟩, ⟨hpb', hnb', hnbb', hvb', hmb'⟩, Tk.few⟩
          · go_simp
            refine hK.out _ _ trivial (fun hHeld => ?_)
            clear hK K
            refine wpAnyH_ready (rs := [3]) (by kernel_rfl) (by simp) ?_
            refine AllReadyH.cons (o := ⟨_, _, _, _, _, _⟩) rfl (fun K hK => ?_) (AllReadyH.nil)
            go_simp
            refine (few_any pa aa na ca va ma _ hca).mono ?_
            rintro e wb ⟨⟨pa', na', va', ma', rfl, hpa', hna', hnaa', hva', hma'⟩, bb⟩
            have T1 := Tk.below bb
            clear Tk bb c0 c1 c2 c3 f0 f1 f2 f3 d0 d1 d2 d3 g0 g1 g2 g3 u0 u1 u2 u3 h0 h1 h2 h3
            rename Tri w wb _ _ _ _ _ _ _ _ _ _ _ _ _ _ _ _ _ _ _ _ => Tk
            have c0 : wb.cell? ⟨w.heap.size, 0, none⟩ = some (.bool p0) := blk_cell Tk.P 0
            have f0 : wb.frozen? ⟨w.heap.size, 0, none⟩ = false := blk_free Tk.P 0
            have c1 : wb.cell? ⟨w.heap.size, 1, none⟩ = some (.bool p1) := blk_cell Tk.P 1
            have f1 : wb.frozen? ⟨w.heap.size, 1, none⟩ = false := blk_free Tk.P 1
            have c2 : wb.cell? ⟨w.heap.size, 2, none⟩ = some (.slice ra rn rc) := blk_cell Tk.P 2
            have f2 : wb.frozen? ⟨w.heap.size, 2, none⟩ = false := blk_free Tk.P 2
            have c3 : wb.cell? ⟨w.heap.size, 3, none⟩ = some (.slice sa sn sc) := blk_cell Tk.P 3
            have f3 : wb.frozen? ⟨w.heap.size, 3, none⟩ = false := blk_free Tk.P 3
            have d0 : wb.cell? ⟨w.heap.size + 1, 0, none⟩ = some (.string pa) := blk_cell Tk.A 0
            have g0 : wb.frozen? ⟨w.heap.size + 1, 0, none⟩ = false := blk_free Tk.A 0
            have d1 : wb.cell? ⟨w.heap.size + 1, 1, none⟩ = some (.slice aa na ca) := blk_cell Tk.A 1
            have g1 : wb.frozen? ⟨w.heap.size + 1, 1, none⟩ = false := blk_free Tk.A 1
            have d2 : wb.cell? ⟨w.heap.size + 1, 2, none⟩ = some (.string va) := blk_cell Tk.A 2
            have g2 : wb.frozen? ⟨w.heap.size + 1, 2, none⟩ = false := blk_free Tk.A 2
            have d3 : wb.cell? ⟨w.heap.size + 1, 3, none⟩ = some (.string ma) := blk_cell Tk.A 3
            have g3 : wb.frozen? ⟨w.heap.size + 1, 3, none⟩ = false := blk_free Tk.A 3
            have u0 : wb.cell? ⟨w.heap.size + 1 + 1, 0, none⟩ = some (.string pb) := blk_cell Tk.B 0
            have h0 : wb.frozen? ⟨w.heap.size + 1 + 1, 0, none⟩ = false := blk_free Tk.B 0
            have u1 : wb.cell? ⟨w.heap.size + 1 + 1, 1, none⟩ = some (.slice ab nb cb) := blk_cell Tk.B 1
            have h1 : wb.frozen? ⟨w.heap.size + 1 + 1, 1, none⟩ = false := blk_free Tk.B 1
            have u2 : wb.cell? ⟨w.heap.size + 1 + 1, 2, none⟩ = some (.string vb) := blk_cell Tk.B 2
            have h2 : wb.frozen? ⟨w.heap.size + 1 + 1, 2, none⟩ = false := blk_free Tk.B 2
            have u3 : wb.cell? ⟨w.heap.size + 1 + 1, 3, none⟩ = some (.string mb) := blk_cell Tk.B 3
            have h3 : wb.frozen? ⟨w.heap.size + 1 + 1, 3, none⟩ = false := blk_free Tk.B 3
            refine hK.out _ _ trivial (fun hHeld => ?_)
            clear hK K
            refine wpAnyH_ready (rs := [5]) (by kernel_rfl) (by simp) ?_
            refine AllReadyH.cons (o := ⟨_, _, _, _, _, _⟩) rfl (fun K hK => ?_) (AllReadyH.nil)
            go_simp
            refine (few_any pb ab nb cb vb mb _ hcb).mono ?_
            rintro e wc2 ⟨⟨pb', nb', vb', mb', rfl, hpb', hnb', hnbb', hvb', hmb'⟩, bc⟩
            have T1 := Tk.below bc
            clear Tk bc c0 c1 c2 c3 f0 f1 f2 f3 d0 d1 d2 d3 g0 g1 g2 g3 u0 u1 u2 u3 h0 h1 h2 h3
            rename Tri w wc2 _ _ _ _ _ _ _ _ _ _ _ _ _ _ _ _ _ _ _ _ => Tk
            have c0 : wc2.cell? ⟨w.heap.size, 0, none⟩ = some (.bool p0) := blk_cell Tk.P 0
            have f0 : wc2.frozen? ⟨w.heap.size, 0, none⟩ = false := blk_free Tk.P 0
            have c1 : wc2.cell? ⟨w.heap.size, 1, none⟩ = some (.bool p1) := blk_cell Tk.P 1
            have f1 : wc2.frozen? ⟨w.heap.size, 1, none⟩ = false := blk_free Tk.P 1
            have c2 : wc2.cell? ⟨w.heap.size, 2, none⟩ = some (.slice ra rn rc) := blk_cell Tk.P 2
            have f2 : wc2.frozen? ⟨w.heap.size, 2, none⟩ = false := blk_free Tk.P 2
            have c3 : wc2.cell? ⟨w.heap.size, 3, none⟩ = some (.slice sa sn sc) := blk_cell Tk.P 3
            have f3 : wc2.frozen? ⟨w.heap.size, 3, none⟩ = false := blk_free Tk.P 3
            have d0 : wc2.cell? ⟨w.heap.size + 1, 0, none⟩ = some (.string pa) := blk_cell Tk.A 0
            have g0 : wc2.frozen? ⟨w.heap.size + 1, 0, none⟩ = false := blk_free Tk.A 0
            have d1 : wc2.cell? ⟨w.heap.size + 1, 1, none⟩ = some (.slice aa na ca) := blk_cell Tk.A 1
            have g1 : wc2.frozen? ⟨w.heap.size + 1, 1, none⟩ = false := blk_free Tk.A 1
            have d2 : wc2.cell? ⟨w.heap.size + 1, 2, none⟩ = some (.string va) := blk_cell Tk.A 2
            have g2 : wc2.frozen? ⟨w.heap.size + 1, 2, none⟩ = false := blk_free Tk.A 2
            have d3 : wc2.cell? ⟨w.heap.size + 1, 3, none⟩ = some (.string ma) := blk_cell Tk.A 3
            have g3 : wc2.frozen? ⟨w.heap.size + 1, 3, none⟩ = false := blk_free Tk.A 3
            have u0 : wc2.cell? ⟨w.heap.size + 1 + 1, 0, none⟩ = some (.string pb) := blk_cell Tk.B 0
            have h0 : wc2.frozen? ⟨w.heap.size + 1 + 1, 0, none⟩ = false := blk_free Tk.B 0
            have u1 : wc2.cell? ⟨w.heap.size + 1 + 1, 1, none⟩ = some (.slice ab nb cb) := blk_cell Tk.B 1
            have h1 : wc2.frozen? ⟨w.heap.size + 1 + 1, 1, none⟩ = false := blk_free Tk.B 1
            have u2 : wc2.cell? ⟨w.heap.size + 1 + 1, 2, none⟩ = some (.string vb) := blk_cell Tk.B 2
            have h2 : wc2.frozen? ⟨w.heap.size + 1 + 1, 2, none⟩ = false := blk_free Tk.B 2
            have u3 : wc2.cell? ⟨w.heap.size + 1 + 1, 3, none⟩ = some (.string mb) := blk_cell Tk.B 3
            have h3 : wc2.frozen? ⟨w.heap.size + 1 + 1, 3, none⟩ = false := blk_free Tk.B 3
            refine hK.out _ _ trivial (fun hHeld => ?_)
            clear hK K
            refine wpAnyH_ready (rs := [6]) (by kernel_rfl) (by simp) ?_
            refine AllReadyH.cons (o := ⟨_, _, _, _, _, _⟩) rfl (fun K hK => ?_) (AllReadyH.nil)
            go_simp
            refine hK.out _ _ trivial (fun hHeld => ?_)
            clear hK K
            refine wpAnyH_ready (rs := [7]) (by kernel_rfl) (by simp) ?_
            refine AllReadyH.cons (o := ⟨_, _, _, _, _, _⟩) rfl (fun K hK => ?_) (AllReadyH.nil)
            go_simp
            refine hK.out _ _ trivial (fun hHeld => ?_)
            clear hK K
            refine wpAnyH_ready (rs := [8]) (by kernel_rfl) (by simp) ?_
            refine AllReadyH.cons (o := ⟨_, _, _, _, _, _⟩) rfl (fun K hK => ?_) (AllReadyH.nil)
            go_simp
            refine hK.out _ _ trivial (fun hHeld => ?_)
            clear hK K
            refine wpAnyH_done (by kernel_rfl) (NoPanic.normal ?_) _
            go_wp2_with fail
            go_meet
            exact ⟨rfl, pa', na', va', ma', pb', nb', vb', mb', ⟨hpa', hna', hnaa', hva', hma'⟩, ⟨hpb', hnb', hnbb', hvb', hmb'⟩, Tk.few⟩
        · go_simp
          refine hK.out _ _ trivial (fun hHeld => ?_)
          clear hK K
          refine wpAnyH_ready (rs := [1]) (by kernel_rfl) (by simp) ?_
          refine AllReadyH.cons (o := ⟨_, _, _, _, _, _⟩) rfl (fun K hK => ?_) (AllReadyH.nil)
          go_simp
          refine (few3_any p0 p1 ra rn rc sa sn sc _ hrc hsc).mono ?_
          rintro e wa ⟨rfl, ba⟩
          have T1 := Tk.below ba
          clear Tk ba c0 c1 c2 c3 f0 f1 f2 f3 d0 d1 d2 d3 g0 g1 g2 g3 u0 u1 u2 u3 h0 h1 h2 h3
          rename Tri w wa _ _ _ _ _ _ _ _ _ _ _ _ _ _ _ _ _ _ _ _ => Tk
          have c0 : wa.cell? ⟨w.heap.size, 0, none⟩ = some (.bool p0) := blk_cell Tk.P 0
          have f0 : wa.frozen? ⟨w.heap.size, 0, none⟩ = false := blk_free Tk.P 0
          have c1 : wa.cell? ⟨w.heap.size, 1, none⟩ = some (.bool p1) := blk_cell Tk.P 1
          have f1 : wa.frozen? ⟨w.heap.size, 1, none⟩ = false := blk_free Tk.P 1
          have c2 : wa.cell? ⟨w.heap.size, 2, none⟩ = some (.slice ra rn rc) := blk_cell Tk.P 2
          have f2 : wa.frozen? ⟨w.heap.size, 2, none⟩ = false := blk_free Tk.P 2
          have c3 : wa.cell? ⟨w.heap.size, 3, none⟩ = some (.slice sa sn sc) := blk_cell Tk.P 3
          have f3 : wa.frozen? ⟨w.heap.size, 3, none⟩ = false := blk_free Tk.P 3
          have d0 : wa.cell? ⟨w.heap.size + 1, 0, none⟩ = some (.string pa) := blk_cell Tk.A 0
          have g0 : wa.frozen? ⟨w.heap.size + 1, 0, none⟩ = false := blk_free Tk.A 0
          have d1 : wa.cell? ⟨w.heap.size + 1, 1, none⟩ = some (.slice aa na ca) := blk_cell Tk.A 1
          have g1 : wa.frozen? ⟨w.heap.size + 1, 1, none⟩ = false := blk_free Tk.A 1
          have d2 : wa.cell? ⟨w.heap.size + 1, 2, none⟩ = some (.string va) := blk_cell Tk.A 2
          have g2 : wa.frozen? ⟨w.heap.size + 1, 2, none⟩ = false := blk_free Tk.A 2
          have d3 : wa.cell? ⟨w.heap.size + 1, 3, none⟩ = some (.string ma) := blk_cell Tk.A 3
          have g3 : wa.frozen? ⟨w.heap.size + 1, 3, none⟩ = false := blk_free Tk.A 3
          have u0 : wa.cell? ⟨w.heap.size + 1 + 1, 0, none⟩ = some (.string pb) := blk_cell Tk.B 0
          have h0 : wa.frozen? ⟨w.heap.size + 1 + 1, 0, none⟩ = false := blk_free Tk.B 0
          have u1 : wa.cell? ⟨w.heap.size + 1 + 1, 1, none⟩ = some (.slice ab nb cb) := blk_cell Tk.B 1
          have h1 : wa.frozen? ⟨w.heap.size + 1 + 1, 1, none⟩ = false := blk_free Tk.B 1
          have u2 : wa.cell? ⟨w.heap.size + 1 + 1, 2, none⟩ = some (.string vb) := blk_cell Tk.B 2
          have h2 : wa.frozen? ⟨w.heap.size + 1 + 1, 2, none⟩ = false := blk_free Tk.B 2
          have u3 : wa.cell? ⟨w.heap.size + 1 + 1, 3, none⟩ = some (.string mb) := blk_cell Tk.B 3
          have h3 : wa.frozen? ⟨w.heap.size + 1 + 1, 3, none⟩ = false := blk_free Tk.B 3
          refine hK.out _ _ trivial (fun hHeld => ?_)
          clear hK K
          refine wpAnyH_ready (rs := [3]) (by kernel_rfl) (by simp) ?_
          refine AllReadyH.cons (o := ⟨_, _, _, _, _, _⟩) rfl (fun K hK => ?_) (AllReadyH.nil)
          go_simp
          refine (few_any pa aa na ca va ma _ hca).mono ?_
          rintro e wb ⟨⟨pa', na', va', ma', rfl, hpa', hna', hnaa', hva', hma'⟩, bb⟩
          have T1 := Tk.below bb
          clear Tk bb c0 c1 c2 c3 f0 f1 f2 f3 d0 d1 d2 d3 g0 g1 g2 g3 u0 u1 u2 u3 h0 h1 h2 h3
          rename Tri w wb _ _ _ _ _ _ _ _ _ _ _ _ _ _ _ _ _ _ _ _ => Tk
          have c0 : wb.cell? ⟨w.heap.size, 0, none⟩ = some (.bool p0) := blk_cell Tk.P 0
          have f0 : wb.frozen? ⟨w.heap.size, 0, none⟩ = false := blk_free Tk.P 0
          have c1 : wb.cell? ⟨w.heap.size, 1, none⟩ = some (.bool p1) := blk_cell Tk.P 1
          have f1 : wb.frozen? ⟨w.heap.size, 1, none⟩ = false := blk_free Tk.P 1
          have c2 : wb.cell? ⟨w.heap.size, 2, none⟩ = some (.slice ra rn rc) := blk_cell Tk.P 2
          have f2 : wb.frozen? ⟨w.heap.size, 2, none⟩ = false := blk_free Tk.P 2
          have c3 : wb.cell? ⟨w.heap.size, 3, none⟩ = some (.slice sa sn sc) := blk_cell Tk.P 3
          have f3 : wb.frozen? ⟨w.heap.size, 3, none⟩ = false := blk_free Tk.P 3
          have d0 : wb.cell? ⟨w.heap.size + 1, 0, none⟩ = some (.string pa) := blk_cell Tk.A 0
          have g0 : wb.frozen? ⟨w.heap.size + 1, 0, none⟩ = false := blk_free Tk.A 0
          have d1 : wb.cell? ⟨w.heap.size + 1, 1, none⟩ = some (.slice aa na ca) := blk_cell Tk.A 1
          have g1 : wb.frozen? ⟨w.heap.size + 1, 1, none⟩ = false := blk_free Tk.A 1
          have d2 : wb.cell? ⟨w.heap.size + 1, 2, none⟩ = some (.string va) := blk_cell Tk.A 2
          have g2 : wb.frozen? ⟨w.heap.size + 1, 2, none⟩ = false := blk_free Tk.A 2
          have d3 : wb.cell? ⟨w.heap.size + 1, 3, none⟩ = some (.string ma) := blk_cell Tk.A 3
          have g3 : wb.frozen? ⟨w.heap.size + 1, 3, none⟩ = false := blk_free Tk.A 3
          have u0 : wb.cell? ⟨w.heap.size + 1 + 1, 0, none⟩ = some (.string pb) := blk_cell Tk.B 0
          have h0 : wb.frozen? ⟨w.heap.size + 1 + 1, 0, none⟩ = false := blk_free Tk.B 0
          have u1 : wb.cell? ⟨w.heap.size + 1 + 1, 1, none⟩ = some (.slice ab nb cb) := blk_cell Tk.B 1
          have h1 : wb.frozen? ⟨w.heap.size + 1 + 1, 1, none⟩ = false := blk_free Tk.B 1
          have u2 : wb.cell? ⟨w.heap.size + 1 + 1, 2, none⟩ = some (.string vb) := blk_cell Tk.B 2
          have h2 : wb.frozen? ⟨w.heap.size + 1 + 1, 2, none⟩ = false := blk_free Tk.B 2
          have u3 : wb.cell? ⟨w.heap.size + 1 + 1, 3, none⟩ = some (.string mb) := blk_cell Tk.B 3
          have h3 : wb.frozen? ⟨w.heap.size + 1 + 1, 3, none⟩ = false := blk_free Tk.B 3
          refine hK.out _ _ trivial (fun hHeld => ?_)
          clear hK K
          refine wpAnyH_ready (rs := [5]) (by kernel_rfl) (by simp) ?_
          refine AllReadyH.cons (o := ⟨_, _, _, _, _, _⟩) rfl (fun K hK => ?_) (AllReadyH.nil)
          go_simp
          refine (few_any pb ab nb cb vb mb _ hcb).mono ?_
          rintro e wc2 ⟨⟨pb', nb', vb', mb', rfl, hpb', hnb', hnbb', hvb', hmb'⟩, bc⟩
          have T1 := Tk.below bc
          clear Tk bc c0 c1 c2 c3 f0 f1 f2 f3 d0 d1 d2 d3 g0 g1 g2 g3 u0 u1 u2 u3 h0 h1 h2 h3
          rename Tri w wc2 _ _ _ _ _ _ _ _ _ _ _ _ _ _ _ _ _ _ _ _ => Tk
          have c0 : wc2.cell? ⟨w.heap.size, 0, none⟩ = some (.bool p0) := blk_cell Tk.P 0
          have f0 : wc2.frozen? ⟨w.heap.size, 0, none⟩ = false := blk_free Tk.P 0
          have c1 : wc2.cell? ⟨w.heap.size, 1, none⟩ = some (.bool p1) := blk_cell Tk.P 1
          have f1 : wc2.frozen? ⟨w.heap.size, 1, none⟩ = false := blk_free Tk.P 1
          have c2 : wc2.cell? ⟨w.heap.size, 2, none⟩ = some (.slice ra rn rc) := blk_cell Tk.P 2
          have f2 : wc2.frozen? ⟨w.heap.size, 2, none⟩ = false := blk_free Tk.P 2
          have c3 : wc2.cell? ⟨w.heap.size, 3, none⟩ = some (.slice sa sn sc) := blk_cell Tk.P 3
          have f3 : wc2.frozen? ⟨w.heap.size, 3, none⟩ = false := blk_free Tk.P 3
          have d0 : wc2.cell? ⟨w.heap.size + 1, 0, none⟩ = some (.string pa) := blk_cell Tk.A 0
          have g0 : wc2.frozen? ⟨w.heap.size + 1, 0, none⟩ = false := blk_free Tk.A 0
          have d1 : wc2.cell? ⟨w.heap.size + 1, 1, none⟩ = some (.slice aa na ca) := blk_cell Tk.A 1
          have g1 : wc2.frozen? ⟨w.heap.size + 1, 1, none⟩ = false := blk_free Tk.A 1
          have d2 : wc2.cell? ⟨w.heap.size + 1, 2, none⟩ = some (.string va) := blk_cell Tk.A 2
          have g2 : wc2.frozen? ⟨w.heap.size + 1, 2, none⟩ = false := blk_free Tk.A 2
          have d3 : wc2.cell? ⟨w.heap.size + 1, 3, none⟩ = some (.string ma) := blk_cell Tk.A 3
          have g3 : wc2.frozen? ⟨w.heap.size + 1, 3, none⟩ = false := blk_free Tk.A 3
          have u0 : wc2.cell? ⟨w.heap.size + 1 + 1, 0, none⟩ = some (.string pb) := blk_cell Tk.B 0
          have h0 : wc2.frozen? ⟨w.heap.size + 1 + 1, 0, none⟩ = false := blk_free Tk.B 0
          have u1 : wc2.cell? ⟨w.heap.size + 1 + 1, 1, none⟩ = some (.slice ab nb cb) := blk_cell Tk.B 1
          have h1 : wc2.frozen? ⟨w.heap.size + 1 + 1, 1, none⟩ = false := blk_free Tk.B 1
          have u2 : wc2.cell? ⟨w.heap.size + 1 + 1, 2, none⟩ = some (.string vb) := blk_cell Tk.B 2
          have h2 : wc2.frozen? ⟨w.heap.size + 1 + 1, 2, none⟩ = false := blk_free Tk.B 2
          have u3 : wc2.cell? ⟨w.heap.size + 1 + 1, 3, none⟩ = some (.string mb) := blk_cell Tk.B 3
          have h3 : wc2.frozen? ⟨w.heap.size + 1 + 1, 3, none⟩ = false := blk_free Tk.B 3
          refine hK.out _ _ trivial (fun hHeld => ?_)
          clear hK K
          refine wpAnyH_ready (rs := [6]) (by kernel_rfl) (by simp) ?_
          refine AllReadyH.cons (o := ⟨_, _, _, _, _, _⟩) rfl (fun K hK => ?_) (AllReadyH.nil)
          go_simp
          refine hK.out _ _ trivial (fun hHeld => ?_)
          clear hK K
          refine wpAnyH_ready (rs := [7]) (by kernel_rfl) (by simp) ?_
          refine AllReadyH.cons (o := ⟨_, _, _, _, _, _⟩) rfl (fun K hK => ?_) (AllReadyH.nil)
          go_simp
          refine hK.out _ _ trivial (fun hHeld => ?_)
          clear hK K
          refine wpAnyH_ready (rs := [8]) (by kernel_rfl) (by simp) ?_
          refine AllReadyH.cons (o := ⟨_, _, _, _, _, _⟩) rfl (fun K hK => ?_) (AllReadyH.nil)
          go_simp
          refine hK.out _ _ trivial (fun hHeld => ?_)
          clear hK K
          refine wpAnyH_done (by kernel_rfl) (NoPanic.normal ?_) _
          go_wp2_with fail
          go_meet
          exact ⟨rfl, pa', na', va', ma', pb', nb', vb', mb', ⟨hpa', hna', hnaa', hva', hma'⟩, ⟨hpb', hnb', hnbb', hvb', hmb'⟩, Tk.few⟩
      · go_simp
        refine hK.out _ _ trivial (fun hHeld => ?_)
        clear hK K
        refine wpAnyH_ready (rs := [0]) (by kernel_rfl) (by simp) ?_
        refine AllReadyH.cons (o := ⟨_, _, _, _, _, _⟩) rfl (fun K hK => ?_) (AllReadyH.nil)
        go_simp
        refine hK.out _ _ trivial (fun hHeld => ?_)
        clear hK K
        refine wpAnyH_ready (rs := [1]) (by kernel_rfl) (by simp) ?_
        refine AllReadyH.cons (o := ⟨_, _, _, _, _, _⟩) rfl (fun K hK => ?_) (AllReadyH.nil)
        go_simp
        refine (few3_any p0 p1 ra rn rc sa sn sc _ hrc hsc).mono ?_
        rintro e wa ⟨rfl, ba⟩
        have T1 := Tk.below ba
        clear Tk ba c0 c1 c2 c3 f0 f1 f2 f3 d0 d1 d2 d3 g0 g1 g2 g3 u0 u1 u2 u3 h0 h1 h2 h3
        rename Tri w wa _ _ _ _ _ _ _ _ _ _ _ _ _ _ _ _ _ _ _ _ => Tk
        have c0 : wa.cell? ⟨w.heap.size, 0, none⟩ = some (.bool p0) := blk_cell Tk.P 0
        have f0 : wa.frozen? ⟨w.heap.size, 0, none⟩ = false := blk_free Tk.P 0
        have c1 : wa.cell? ⟨w.heap.size, 1, none⟩ = some (.bool p1) := blk_cell Tk.P 1
        have f1 : wa.frozen? ⟨w.heap.size, 1, none⟩ = false := blk_free Tk.P 1
        have c2 : wa.cell? ⟨w.heap.size, 2, none⟩ = some (.slice ra rn rc) := blk_cell Tk.P 2
        have f2 : wa.frozen? ⟨w.heap.size, 2, none⟩ = false := blk_free Tk.P 2
        have c3 : wa.cell? ⟨w.heap.size, 3, none⟩ = some (.slice sa sn sc) := blk_cell Tk.P 3
        have f3 : wa.frozen? ⟨w.heap.size, 3, none⟩ = false := blk_free Tk.P 3
        have d0 : wa.cell? ⟨w.heap.size + 1, 0, none⟩ = some (.string pa) := blk_cell Tk.A 0
        have g0 : wa.frozen? ⟨w.heap.size + 1, 0, none⟩ = false := blk_free Tk.A 0
        have d1 : wa.cell? ⟨w.heap.size + 1, 1, none⟩ = some (.slice aa na ca) := blk_cell Tk.A 1
        have g1 : wa.frozen? ⟨w.heap.size + 1, 1, none⟩ = false := blk_free Tk.A 1
        have d2 : wa.cell? ⟨w.heap.size + 1, 2, none⟩ = some (.string va) := blk_cell Tk.A 2
        have g2 : wa.frozen? ⟨w.heap.size + 1, 2, none⟩ = false := blk_free Tk.A 2
        have d3 : wa.cell? ⟨w.heap.size + 1, 3, none⟩ = some (.string ma) := blk_cell Tk.A 3
        have g3 : wa.frozen? ⟨w.heap.size + 1, 3, none⟩ = false := blk_free Tk.A 3
        have u0 : wa.cell? ⟨w.heap.size + 1 + 1, 0, none⟩ = some (.string pb) := blk_cell Tk.B 0
        have h0 : wa.frozen? ⟨w.heap.size + 1 + 1, 0, none⟩ = false := blk_free Tk.B 0
        have u1 : wa.cell? ⟨w.heap.size + 1 + 1, 1, none⟩ = some (.slice ab nb cb) := blk_cell Tk.B 1
        have h1 : wa.frozen? ⟨w.heap.size + 1 + 1, 1, none⟩ = false := blk_free Tk.B 1
        have u2 : wa.cell? ⟨w.heap.size + 1 + 1, 2, none⟩ = some (.string vb) := blk_cell Tk.B 2
        have h2 : wa.frozen? ⟨w.heap.size + 1 + 1, 2, none⟩ = false := blk_free Tk.B 2
        have u3 : wa.cell? ⟨w.heap.size + 1 + 1, 3, none⟩ = some (.string mb) := blk_cell Tk.B 3
        have h3 : wa.frozen? ⟨w.heap.size + 1 + 1, 3, none⟩ = false := blk_free Tk.B 3
        refine hK.out _ _ trivial (fun hHeld => ?_)
        clear hK K
        refine wpAnyH_ready (rs := [3]) (by kernel_rfl) (by simp) ?_
        refine AllReadyH.cons (o := ⟨_, _, _, _, _, _⟩) rfl (fun K hK => ?_) (AllReadyH.nil)
        go_simp
        refine (few_any pa aa na ca va ma _ hca).mono ?_
        rintro e wb ⟨⟨pa', na', va', ma', rfl, hpa', hna', hnaa', hva', hma'⟩, bb⟩
        have T1 := Tk.below bb
        clear Tk bb c0 c1 c2 c3 f0 f1 f2 f3 d0 d1 d2 d3 g0 g1 g2 g3 u0 u1 u2 u3 h0 h1 h2 h3
        rename Tri w wb _ _ _ _ _ _ _ _ _ _ _ _ _ _ _ _ _ _ _ _ => Tk
        have c0 : wb.cell? ⟨w.heap.size, 0, none⟩ = some (.bool p0) := blk_cell Tk.P 0
        have f0 : wb.frozen? ⟨w.heap.size, 0, none⟩ = false := blk_free Tk.P 0
        have c1 : wb.cell? ⟨w.heap.size, 1, none⟩ = some (.bool p1) := blk_cell Tk.P 1
        have f1 : wb.frozen? ⟨w.heap.size, 1, none⟩ = false := blk_free Tk.P 1
        have c2 : wb.cell? ⟨w.heap.size, 2, none⟩ = some (.slice ra rn rc) := blk_cell Tk.P 2
        have f2 : wb.frozen? ⟨w.heap.size, 2, none⟩ = false := blk_free Tk.P 2
        have c3 : wb.cell? ⟨w.heap.size, 3, none⟩ = some (.slice sa sn sc) := blk_cell Tk.P 3
        have f3 : wb.frozen? ⟨w.heap.size, 3, none⟩ = false := blk_free Tk.P 3
        have d0 : wb.cell? ⟨w.heap.size + 1, 0, none⟩ = some (.string pa) := blk_cell Tk.A 0
        have g0 : wb.frozen? ⟨w.heap.size + 1, 0, none⟩ = false := blk_free Tk.A 0
        have d1 : wb.cell? ⟨w.heap.size + 1, 1, none⟩ = some (.slice aa na ca) := blk_cell Tk.A 1
        have g1 : wb.frozen? ⟨w.heap.size + 1, 1, none⟩ = false := blk_free Tk.A 1
        have d2 : wb.cell? ⟨w.heap.size + 1, 2, none⟩ = some (.string va) := blk_cell Tk.A 2
        have g2 : wb.frozen? ⟨w.heap.size + 1, 2, none⟩ = false := blk_free Tk.A 2
        have d3 : wb.cell? ⟨w.heap.size + 1, 3, none⟩ = some (.string ma) := blk_cell Tk.A 3
        have g3 : wb.frozen? ⟨w.heap.size + 1, 3, none⟩ = false := blk_free Tk.A 3
        have u0 : wb.cell? ⟨w.heap.size + 1 + 1, 0, none⟩ = some (.string pb) := blk_cell Tk.B 0
        have h0 : wb.frozen? ⟨w.heap.size + 1 + 1, 0, none⟩ = false := blk_free Tk.B 0
        have u1 : wb.cell? ⟨w.heap.size + 1 + 1, 1, none⟩ = some (.slice ab nb cb) := blk_cell Tk.B 1
        have h1 : wb.frozen? ⟨w.heap.size + 1 + 1, 1, none⟩ = false := blk_free Tk.B 1
        have u2 : wb.cell? ⟨w.heap.size + 1 + 1, 2, none⟩ = some (.string vb) := blk_cell Tk.B 2
        have h2 : wb.frozen? ⟨w.heap.size + 1 + 1, 2, none⟩ = false := blk_free Tk.B 2
        have u3 : wb.cell? ⟨w.heap.size + 1 + 1, 3, none⟩ = some (.string mb) := blk_cell Tk.B 3
        have h3 : wb.frozen? ⟨w.heap.size + 1 + 1, 3, none⟩ = false := blk_free Tk.B 3
        refine hK.out _ _ trivial (fun hHeld => ?_)
        clear hK K
        refine wpAnyH_ready (rs := [5]) (by kernel_rfl) (by simp) ?_
        refine AllReadyH.cons (o := ⟨_, _, _, _, _, _⟩) rfl (fun K hK => ?_) (AllReadyH.nil)
        go_simp
        refine (few_any pb ab nb cb vb mb _ hcb).mono ?_
        rintro e wc2 ⟨⟨pb', nb', vb', mb', rfl, hpb', hnb', hnbb', hvb', hmb'⟩, bc⟩
        have T1 := Tk.below bc
        clear Tk bc c0 c1 c2 c3 f0 f1 f2 f3 d0 d1 d2 d3 g0 g1 g2 g3 u0 u1 u2 u3 h0 h1 h2 h3
        rename Tri w wc2 _ _ _ _ _ _ _ _ _ _ _ _ _ _ _ _ _ _ _ _ => Tk
        have c0 : wc2.cell? ⟨w.heap.size, 0, none⟩ = some (.bool p0) := blk_cell Tk.P 0
        have f0 : wc2.frozen? ⟨w.heap.size, 0, none⟩ = false := blk_free Tk.P 0
        have c1 : wc2.cell? ⟨w.heap.size, 1, none⟩ = some (.bool p1) := blk_cell Tk.P 1
        have f1 : wc2.frozen? ⟨w.heap.size, 1, none⟩ = false := blk_free Tk.P 1
        have c2 : wc2.cell? ⟨w.heap.size, 2, none⟩ = some (.slice ra rn rc) := blk_cell Tk.P 2
        have f2 : wc2.frozen? ⟨w.heap.size, 2, none⟩ = false := blk_free Tk.P 2
        have c3 : wc2.cell? ⟨w.heap.size, 3, none⟩ = some (.slice sa sn sc) := blk_cell Tk.P 3
        have f3 : wc2.frozen? ⟨w.heap.size, 3, none⟩ = false := blk_free Tk.P 3
        have d0 : wc2.cell? ⟨w.heap.size + 1, 0, none⟩ = some (.string pa) := blk_cell Tk.A 0
        have g0 : wc2.frozen? ⟨w.heap.size + 1, 0, none⟩ = false := blk_free Tk.A 0
        have d1 : wc2.cell? ⟨w.heap.size + 1, 1, none⟩ = some (.slice aa na ca) := blk_cell Tk.A 1
        have g1 : wc2.frozen? ⟨w.heap.size + 1, 1, none⟩ = false := blk_free Tk.A 1
        have d2 : wc2.cell? ⟨w.heap.size + 1, 2, none⟩ = some (.string va) := blk_cell Tk.A 2
        have g2 : wc2.frozen? ⟨w.heap.size + 1, 2, none⟩ = false := blk_free Tk.A 2
        have d3 : wc2.cell? ⟨w.heap.size + 1, 3, none⟩ = some (.string ma) := blk_cell Tk.A 3
        have g3 : wc2.frozen? ⟨w.heap.size + 1, 3, none⟩ = false := blk_free Tk.A 3
        have u0 : wc2.cell? ⟨w.heap.size + 1 + 1, 0, none⟩ = some (.string pb) := blk_cell Tk.B 0
        have h0 : wc2.frozen? ⟨w.heap.size + 1 + 1, 0, none⟩ = false := blk_free Tk.B 0
        have u1 : wc2.cell? ⟨w.heap.size + 1 + 1, 1, none⟩ = some (.slice ab nb cb) := blk_cell Tk.B 1
        have h1 : wc2.frozen? ⟨w.heap.size + 1 + 1, 1, none⟩ = false := blk_free Tk.B 1
        have u2 : wc2.cell? ⟨w.heap.size + 1 + 1, 2, none⟩ = some (.string vb) := blk_cell Tk.B 2
        have h2 : wc2.frozen? ⟨w.heap.size + 1 + 1, 2, none⟩ = false := blk_free Tk.B 2
        have u3 : wc2.cell? ⟨w.heap.size + 1 + 1, 3, none⟩ = some (.string mb) := blk_cell Tk.B 3
        have h3 : wc2.frozen? ⟨w.heap.size + 1 + 1, 3, none⟩ = false := blk_free Tk.B 3
        refine hK.out _ _ trivial (fun hHeld => ?_)
        clear hK K
        refine wpAnyH_ready (rs := [6]) (by kernel_rfl) (by simp) ?_
        refine AllReadyH.cons (o := ⟨_, _, _, _, _, _⟩) rfl (fun K hK => ?_) (AllReadyH.nil)
        go_simp
        refine hK.out _ _ trivial (fun hHeld => ?_)
        clear hK K
        refine wpAnyH_ready (rs := [7]) (by kernel_rfl) (by simp) ?_
        refine AllReadyH.cons (o := ⟨_, _, _, _, _, _⟩) rfl (fun K hK => ?_) (AllReadyH.nil)
        go_simp
        refine hK.out _ _ trivial (fun hHeld => ?_)
        clear hK K
        refine wpAnyH_ready (rs := [8]) (by kernel_rfl) (by simp) ?_
        refine AllReadyH.cons (o := ⟨_, _, _, _, _, _⟩) rfl (fun K hK => ?_) (AllReadyH.nil)
        go_simp
        refine hK.out _ _ trivial (fun hHeld => ?_)
        clear hK K
        refine wpAnyH_done (by kernel_rfl) (NoPanic.normal ?_) _
        go_wp2_with fail
        go_meet
        exact ⟨rfl, pa', na', va', ma', pb', nb', vb', mb', ⟨hpa', hna', hnaa', hva', hma'⟩, ⟨hpb', hnb', hnbb', hvb', hmb'⟩, Tk.few⟩
    · go_simp
      refine hK.out _ _ trivial (fun hHeld => ?_)
      clear hK K
      refine wpAnyH_ready (rs := [0, 2]) (by kernel_rfl) (by simp) ?_
      refine AllReadyH.cons (o := ⟨_, _, _, _, _, _⟩) rfl (fun K hK => ?_) (AllReadyH.cons (o := ⟨_, _, _, _, _, _⟩) rfl (fun K hK => ?_) (AllReadyH.nil))
      · go_simp
        refine hK.out _ _ trivial (fun hHeld => ?_)
        clear hK K
        refine wpAnyH_ready (rs := [1, 2]) (by kernel_rfl) (by simp) ?_
        refine AllReadyH.cons (o := ⟨_, _, _, _, _, _⟩) rfl (fun K hK => ?_) (AllReadyH.cons (o := ⟨_, _, _, _, _, _⟩) rfl (fun K hK => ?_) (AllReadyH.nil))
        · go_simp
          refine (few3_any p0 p1 ra rn rc sa sn sc _ hrc hsc).mono ?_
          rintro e wa ⟨rfl, ba⟩
          have T1 := Tk.below ba
          clear Tk ba c0 c1 c2 c3 f0 f1 f2 f3 d0 d1 d2 d3 g0 g1 g2 g3 u0 u1 u2 u3 h0 h1 h2 h3
          rename Tri w wa _ _ _ _ _ _ _ _ _ _ _ _ _ _ _ _ _ _ _ _ => Tk
          have c0 : wa.cell? ⟨w.heap.size, 0, none⟩ = some (.bool p0) := blk_cell Tk.P 0
          have f0 : wa.frozen? ⟨w.heap.size, 0, none⟩ = false := blk_free Tk.P 0
          have c1 : wa.cell? ⟨w.heap.size, 1, none⟩ = some (.bool p1) := blk_cell Tk.P 1
          have f1 : wa.frozen? ⟨w.heap.size, 1, none⟩ = false := blk_free Tk.P 1
          have c2 : wa.cell? ⟨w.heap.size, 2, none⟩ = some (.slice ra rn rc) := blk_cell Tk.P 2
          have f2 : wa.frozen? ⟨w.heap.size, 2, none⟩ = false := blk_free Tk.P 2
          have c3 : wa.cell? ⟨w.heap.size, 3, none⟩ = some (.slice sa sn sc) := blk_cell Tk.P 3
          have f3 : wa.frozen? ⟨w.heap.size, 3, none⟩ = false := blk_free Tk.P 3
          have d0 : wa.cell? ⟨w.heap.size + 1, 0, none⟩ = some (.string pa) := blk_cell Tk.A 0
          have g0 : wa.frozen? ⟨w.heap.size + 1, 0, none⟩ = false := blk_free Tk.A 0
          have d1 : wa.cell? ⟨w.heap.size + 1, 1, none⟩ = some (.slice aa na ca) := blk_cell Tk.A 1
          have g1 : wa.frozen? ⟨w.heap.size + 1, 1, none⟩ = false := blk_free Tk.A 1
          have d2 : wa.cell? ⟨w.heap.size + 1, 2, none⟩ = some (.string va) := blk_cell Tk.A 2
          have g2 : wa.frozen? ⟨w.heap.size + 1, 2, none⟩ = false := blk_free Tk.A 2
          have d3 : wa.cell? ⟨w.heap.size + 1, 3, none⟩ = some (.string ma) := blk_cell Tk.A 3
          have g3 : wa.frozen? ⟨w.heap.size + 1, 3, none⟩ = false := blk_free Tk.A 3
          have u0 : wa.cell? ⟨w.heap.size + 1 + 1, 0, none⟩ = some (.string pb) := blk_cell Tk.B 0
          have h0 : wa.frozen? ⟨w.heap.size + 1 + 1, 0, none⟩ = false := blk_free Tk.B 0
          have u1 : wa.cell? ⟨w.heap.size + 1 + 1, 1, none⟩ = some (.slice ab nb cb) := blk_cell Tk.B 1
          have h1 : wa.frozen? ⟨w.heap.size + 1 + 1, 1, none⟩ = false := blk_free Tk.B 1
          have u2 : wa.cell? ⟨w.heap.size + 1 + 1, 2, none⟩ = some (.string vb) := blk_cell Tk.B 2
          have h2 : wa.frozen? ⟨w.heap.size + 1 + 1, 2, none⟩ = false := blk_free Tk.B 2
          have u3 : wa.cell? ⟨w.heap.size + 1 + 1, 3, none⟩ = some (.string mb) := blk_cell Tk.B 3
          have h3 : wa.frozen? ⟨w.heap.size + 1 + 1, 3, none⟩ = false := blk_free Tk.B 3
          refine hK.out _ _ trivial (fun hHeld => ?_)
          clear hK K
          refine wpAnyH_ready (rs := [2]) (by kernel_rfl) (by simp) ?_
          refine AllReadyH.cons (o := ⟨_, _, _, _, _, _⟩) rfl (fun K hK => ?_) (AllReadyH.nil)
          go_simp
          refine hK.out _ _ trivial (fun hHeld => ?_)
          clear hK K
          refine wpAnyH_ready (rs := [3]) (by kernel_rfl) (by simp) ?_
          refine AllReadyH.cons (o := ⟨_, _, _, _, _, _⟩) rfl (fun K hK => ?_) (AllReadyH.nil)
          go_simp
          refine (few_any pa aa na ca va ma _ hca).mono ?_
          rintro e wb ⟨⟨pa', na', va', ma', rfl, hpa', hna', hnaa', hva', hma'⟩, bb⟩
          have T1 := Tk.below bb
          clear Tk bb c0 c1 c2 c3 f0 f1 f2 f3 d0 d1 d2 d3 g0 g1 g2 g3 u0 u1 u2 u3 h0 h1 h2 h3
          rename Tri w wb _ _ _ _ _ _ _ _ _ _ _ _ _ _ _ _ _ _ _ _ => Tk
          have c0 : wb.cell? ⟨w.heap.size, 0, none⟩ = some (.bool p0) := blk_cell Tk.P 0
          have f0 : wb.frozen? ⟨w.heap.size, 0, none⟩ = false := blk_free Tk.P 0
          have c1 : wb.cell? ⟨w.heap.size, 1, none⟩ = some (.bool p1) := blk_cell Tk.P 1
          have f1 : wb.frozen? ⟨w.heap.size, 1, none⟩ = false := blk_free Tk.P 1
          have c2 : wb.cell? ⟨w.heap.size, 2, none⟩ = some (.slice ra rn rc) := blk_cell Tk.P 2
          have f2 : wb.frozen? ⟨w.heap.size, 2, none⟩ = false := blk_free Tk.P 2
          have c3 : wb.cell? ⟨w.heap.size, 3, none⟩ = some (.slice sa sn sc) := blk_cell Tk.P 3
          have f3 : wb.frozen? ⟨w.heap.size, 3, none⟩ = false := blk_free Tk.P 3
          have d0 : wb.cell? ⟨w.heap.size + 1, 0, none⟩ = some (.string pa) := blk_cell Tk.A 0
          have g0 : wb.frozen? ⟨w.heap.size + 1, 0, none⟩ = false := blk_free Tk.A 0
          have d1 : wb.cell? ⟨w.heap.size + 1, 1, none⟩ = some (.slice aa na ca) := blk_cell Tk.A 1
          have g1 : wb.frozen? ⟨w.heap.size + 1, 1, none⟩ = false := blk_free Tk.A 1
          have d2 : wb.cell? ⟨w.heap.size + 1, 2, none⟩ = some (.string va) := blk_cell Tk.A 2
          have g2 : wb.frozen? ⟨w.heap.size + 1, 2, none⟩ = false := blk_free Tk.A 2
          have d3 : wb.cell? ⟨w.heap.size + 1, 3, none⟩ = some (.string ma) := blk_cell Tk.A 3
          have g3 : wb.frozen? ⟨w.heap.size + 1, 3, none⟩ = false := blk_free Tk.A 3
          have u0 : wb.cell? ⟨w.heap.size + 1 + 1, 0, none⟩ = some (.string pb) := blk_cell Tk.B 0
          have h0 : wb.frozen? ⟨w.heap.size + 1 + 1, 0, none⟩ = false := blk_free Tk.B 0
          have u1 : wb.cell? ⟨w.heap.size + 1 + 1, 1, none⟩ = some (.slice ab nb cb) := blk_cell Tk.B 1
          have h1 : wb.frozen? ⟨w.heap.size + 1 + 1, 1, none⟩ = false := blk_free Tk.B 1
          have u2 : wb.cell? ⟨w.heap.size + 1 + 1, 2, none⟩ = some (.string vb) := blk_cell Tk.B 2
          have h2 : wb.frozen? ⟨w.heap.size + 1 + 1, 2, none⟩ = false := blk_free Tk.B 2
          have u3 : wb.cell? ⟨w.heap.size + 1 + 1, 3, none⟩ = some (.string mb) := blk_cell Tk.B 3
          have h3 : wb.frozen? ⟨w.heap.size + 1 + 1, 3, none⟩ = false := blk_free Tk.B 3
          refine hK.out _ _ trivial (fun hHeld => ?_)
          clear hK K
          refine wpAnyH_ready (rs := [5]) (by kernel_rfl) (by simp) ?_
          refine AllReadyH.cons (o := ⟨_, _, _, _, _, _⟩) rfl (fun K hK => ?_) (AllReadyH.nil)
          go_simp
          refine (few_any pb ab nb cb vb mb _ hcb).mono ?_
          rintro e wc2 ⟨⟨pb', nb', vb', mb', rfl, hpb', hnb', hnbb', hvb', hmb'⟩, bc⟩
          have T1 := Tk.below bc
          clear Tk bc c0 c1 c2 c3 f0 f1 f2 f3 d0 d1 d2 d3 g0 g1 g2 g3 u0 u1 u2 u3 h0 h1 h2 h3
          rename Tri w wc2 _ _ _ _ _ _ _ _ _ _ _ _ _ _ _ _ _ _ _ _ => Tk
          have c0 : wc2.cell? ⟨w.heap.size, 0, none⟩ = some (.bool p0) := blk_cell Tk.P 0
          have f0 : wc2.frozen? ⟨w.heap.size, 0, none⟩ = false := blk_free Tk.P 0
          have c1 : wc2.cell? ⟨w.heap.size, 1, none⟩ = some (.bool p1) := blk_cell Tk.P 1
          have f1 : wc2.frozen? ⟨w.heap.size, 1, none⟩ = false := blk_free Tk.P 1
          have c2 : wc2.cell? ⟨w.heap.size, 2, none⟩ = some (.slice ra rn rc) := blk_cell Tk.P 2
          have f2 : wc2.frozen? ⟨w.heap.size, 2, none⟩ = false := blk_free Tk.P 2
          have c3 : wc2.cell? ⟨w.heap.size, 3, none⟩ = some (.slice sa sn sc) := blk_cell Tk.P 3
          have f3 : wc2.frozen? ⟨w.heap.size, 3, none⟩ = false := blk_free Tk.P 3
          have d0 : wc2.cell? ⟨w.heap.size + 1, 0, none⟩ = some (.string pa) := blk_cell Tk.A 0
          have g0 : wc2.frozen? ⟨w.heap.size + 1, 0, none⟩ = false := blk_free Tk.A 0
          have d1 : wc2.cell? ⟨w.heap.size + 1, 1, none⟩ = some (.slice aa na ca) := blk_cell Tk.A 1
          have g1 : wc2.frozen? ⟨w.heap.size + 1, 1, none⟩ = false := blk_free Tk.A 1
          have d2 : wc2.cell? ⟨w.heap.size + 1, 2, none⟩ = some (.string va) := blk_cell Tk.A 2
          have g2 : wc2.frozen? ⟨w.heap.size + 1, 2, none⟩ = false := blk_free Tk.A 2
          have d3 : wc2.cell? ⟨w.heap.size + 1, 3, none⟩ = some (.string ma) := blk_cell Tk.A 3
          have g3 : wc2.frozen? ⟨w.heap.size + 1, 3, none⟩ = false := blk_free Tk.A 3
          have u0 : wc2.cell? ⟨w.heap.size + 1 + 1, 0, none⟩ = some (.string pb) := blk_cell Tk.B 0
          have h0 : wc2.frozen? ⟨w.heap.size + 1 + 1, 0, none⟩ = false := blk_free Tk.B 0
          have u1 : wc2.cell? ⟨w.heap.size + 1 + 1, 1, none⟩ = some (.slice ab nb cb) := blk_cell Tk.B 1
          have h1 : wc2.frozen? ⟨w.heap.size + 1 + 1, 1, none⟩ = false := blk_free Tk.B 1
          have u2 : wc2.cell? ⟨w.heap.size + 1 + 1, 2, none⟩ = some (.string vb) := blk_cell Tk.B 2
          have h2 : wc2.frozen? ⟨w.heap.size + 1 + 1, 2, none⟩ = false := blk_free Tk.B 2
          have u3 : wc2.cell? ⟨w.heap.size + 1 + 1, 3, none⟩ = some (.string mb) := blk_cell Tk.B 3
          have h3 : wc2.frozen? ⟨w.heap.size + 1 + 1, 3, none⟩ = false := blk_free Tk.B 3
          refine hK.out _ _ trivial (fun hHeld => ?_)
          clear hK K
          refine wpAnyH_ready (rs := [6]) (by kernel_rfl) (by simp) ?_
          refine AllReadyH.cons (o := ⟨_, _, _, _, _, _⟩) rfl (fun K hK => ?_) (AllReadyH.nil)
          go_simp
          refine hK.out _ _ trivial (fun hHeld => ?_)
          clear hK K
          refine wpAnyH_ready (rs := [7]) (by kernel_rfl) (by simp) ?_
          refine AllReadyH.cons (o := ⟨_, _, _, _, _, _⟩) rfl (fun K hK => ?_) (AllReadyH.nil)
          go_simp
          refine hK.out _ _ trivial (fun hHeld => ?_)
          clear hK K
          refine wpAnyH_ready (rs := [8]) (by kernel_rfl) (by simp) ?_
          refine AllReadyH.cons (o := ⟨_, _, _, _, _, _⟩) rfl (fun K hK => ?_) (AllReadyH.nil)
          go_simp
          refine hK.out _ _ trivial (fun hHeld => ?_)
          clear hK K
          refine wpAnyH_done (by kernel_rfl) (NoPanic.normal ?_) _
          go_wp2_with fail
          go_meet
          exact ⟨rfl, pa', na', va', ma', pb', nb', vb', mb', ⟨hpa', hna', hnaa', hva', hma'⟩, ⟨hpb', hnb', hnbb', hvb', hmb'⟩, Tk.few⟩
        · go_simp
          refine hK.out _ _ trivial (fun hHeld => ?_)
          clear hK K
          refine wpAnyH_ready (rs := [1]) (by kernel_rfl) (by simp) ?_
          refine AllReadyH.cons (o := ⟨_, _, _, _, _, _⟩) rfl (fun K hK => ?_) (AllReadyH.nil)
          go_simp
          refine (few3_any p0 p1 ra rn rc sa sn sc _ hrc hsc).mono ?_
          rintro e wa ⟨rfl, ba⟩
          have T1 := Tk.below ba
          clear Tk ba c0 c1 c2 c3 f0 f1 f2 f3 d0 d1 d2 d3 g0 g1 g2 g3 u0 u1 u2 u3 h0 h1 h2 h3
          rename Tri w wa _ _ _ _ _ _ _ _ _ _ _ _ _ _ _ _ _ _ _ _ => Tk
          have c0 : wa.cell? ⟨w.heap.size, 0, none⟩ = some (.bool p0) := blk_cell Tk.P 0
          have f0 : wa.frozen? ⟨w.heap.size, 0, none⟩ = false := blk_free Tk.P 0
          have c1 : wa.cell? ⟨w.heap.size, 1, none⟩ = some (.bool p1) := blk_cell Tk.P 1
          have f1 : wa.frozen? ⟨w.heap.size, 1, none⟩ = false := blk_free Tk.P 1
          have c2 : wa.cell? ⟨w.heap.size, 2, none⟩ = some (.slice ra rn rc) := blk_cell Tk.P 2
          have f2 : wa.frozen? ⟨w.heap.size, 2, none⟩ = false := blk_free Tk.P 2
          have c3 : wa.cell? ⟨w.heap.size, 3, none⟩ = some (.slice sa sn sc) := blk_cell Tk.P 3
          have f3 : wa.frozen? ⟨w.heap.size, 3, none⟩ = false := blk_free Tk.P 3
          have d0 : wa.cell? ⟨w.heap.size + 1, 0, none⟩ = some (.string pa) := blk_cell Tk.A 0
          have g0 : wa.frozen? ⟨w.heap.size + 1, 0, none⟩ = false := blk_free Tk.A 0
          have d1 : wa.cell? ⟨w.heap.size + 1, 1, none⟩ = some (.slice aa na ca) := blk_cell Tk.A 1
          have g1 : wa.frozen? ⟨w.heap.size + 1, 1, none⟩ = false := blk_free Tk.A 1
          have d2 : wa.cell? ⟨w.heap.size + 1, 2, none⟩ = some (.string va) := blk_cell Tk.A 2
          have g2 : wa.frozen? ⟨w.heap.size + 1, 2, none⟩ = false := blk_free Tk.A 2
          have d3 : wa.cell? ⟨w.heap.size + 1, 3, none⟩ = some (.string ma) := blk_cell Tk.A 3
          have g3 : wa.frozen? ⟨w.heap.size + 1, 3, none⟩ = false := blk_free Tk.A 3
          have u0 : wa.cell? ⟨w.heap.size + 1 + 1, 0, none⟩ = some (.string pb) := blk_cell Tk.B 0
          have h0 : wa.frozen? ⟨w.heap.size + 1 + 1, 0, none⟩ = false := blk_free Tk.B 0
          have u1 : wa.cell? ⟨w.heap.size + 1 + 1, 1, none⟩ = some (.slice ab nb cb) := blk_cell Tk.B 1
          have h1 : wa.frozen? ⟨w.heap.size + 1 + 1, 1, none⟩ = false := blk_free Tk.B 1
          have u2 : wa.cell? ⟨w.heap.size + 1 + 1, 2, none⟩ = some (.string vb) := blk_cell Tk.B 2
          have h2 : wa.frozen? ⟨w.heap.size + 1 + 1, 2, none⟩ = false := blk_free Tk.B 2
          have u3 : wa.cell? ⟨w.heap.size + 1 + 1, 3, none⟩ = some (.string mb) := blk_cell Tk.B 3
          have h3 : wa.frozen? ⟨w.heap.size + 1 + 1, 3, none⟩ = false := blk_free Tk.B 3
          refine hK.out _ _ trivial (fun hHeld => ?_)
          clear hK K
          refine wpAnyH_ready (rs := [3]) (by kernel_rfl) (by simp) ?_
          refine AllReadyH.cons (o := ⟨_, _, _, _, _, _⟩) rfl (fun K hK => ?_) (AllReadyH.nil)
          go_simp
          refine (few_any pa aa na ca va ma _ hca).mono ?_
          rintro e wb ⟨⟨pa', na', va', ma', rfl, hpa', hna', hnaa', hva', hma'⟩, bb⟩
          have T1 := Tk.below bb
          clear Tk bb c0 c1 c2 c3 f0 f1 f2 f3 d0 d1 d2 d3 g0 g1 g2 g3 u0 u1 u2 u3 h0 h1 h2 h3
          rename Tri w wb _ _ _ _ _ _ _ _ _ _ _ _ _ _ _ _ _ _ _ _ => Tk
          have c0 : wb.cell? ⟨w.heap.size, 0, none⟩ = some (.bool p0) := blk_cell Tk.P 0
          have f0 : wb.frozen? ⟨w.heap.size, 0, none⟩ = false := blk_free Tk.P 0
          have c1 : wb.cell? ⟨w.heap.size, 1, none⟩ = some (.bool p1) := blk_cell Tk.P 1
          have f1 : wb.frozen? ⟨w.heap.size, 1, none⟩ = false := blk_free Tk.P 1
          have c2 : wb.cell? ⟨w.heap.size, 2, none⟩ = some (.slice ra rn rc) := blk_cell Tk.P 2
          have f2 : wb.frozen? ⟨w.heap.size, 2, none⟩ = false := blk_free Tk.P 2
          have c3 : wb.cell? ⟨w.heap.size, 3, none⟩ = some (.slice sa sn sc) := blk_cell Tk.P 3
          have f3 : wb.frozen? ⟨w.heap.size, 3, none⟩ = false := blk_free Tk.P 3
          have d0 : wb.cell? ⟨w.heap.size + 1, 0, none⟩ = some (.string pa) := blk_cell Tk.A 0
          have g0 : wb.frozen? ⟨w.heap.size + 1, 0, none⟩ = false := blk_free Tk.A 0
          have d1 : wb.cell? ⟨w.heap.size + 1, 1, none⟩ = some (.slice aa na ca) := blk_cell Tk.A 1
          have g1 : wb.frozen? ⟨w.heap.size + 1, 1, none⟩ = false := blk_free Tk.A 1
          have d2 : wb.cell? ⟨w.heap.size + 1, 2, none⟩ = some (.string va) := blk_cell Tk.A 2
          have g2 : wb.frozen? ⟨w.heap.size + 1, 2, none⟩ = false := blk_free Tk.A 2
          have d3 : wb.cell? ⟨w.heap.size + 1, 3, none⟩ = some (.string ma) := blk_cell Tk.A 3
          have g3 : wb.frozen? ⟨w.heap.size + 1, 3, none⟩ = false := blk_free Tk.A 3
          have u0 : wb.cell? ⟨w.heap.size + 1 + 1, 0, none⟩ = some (.string pb) := blk_cell Tk.B 0
          have h0 : wb.frozen? ⟨w.heap.size + 1 + 1, 0, none⟩ = false := blk_free Tk.B 0
          have u1 : wb.cell? ⟨w.heap.size + 1 + 1, 1, none⟩ = some (.slice ab nb cb) := blk_cell Tk.B 1
          have h1 : wb.frozen? ⟨w.heap.size + 1 + 1, 1, none⟩ = false := blk_free Tk.B 1
          have u2 : wb.cell? ⟨w.heap.size + 1 + 1, 2, none⟩ = some (.string vb) := blk_cell Tk.B 2
          have h2 : wb.frozen? ⟨w.heap.size + 1 + 1, 2, none⟩ = false := blk_free Tk.B 2
          have u3 : wb.cell? ⟨w.heap.size + 1 + 1, 3, none⟩ = some (.string mb) := blk_cell Tk.B 3
          have h3 : wb.frozen? ⟨w.heap.size + 1 + 1, 3, none⟩ = false := blk_free Tk.B 3
          refine hK.out _ _ trivial (fun hHeld => ?_)
          clear hK K
          refine wpAnyH_ready (rs := [5]) (by kernel_rfl) (by simp) ?_
          refine AllReadyH.cons (o := ⟨_, _, _, _, _, _⟩) rfl (fun K hK => ?_) (AllReadyH.nil)
          go_simp
          refine (few_any pb ab nb cb vb mb _ hcb).mono ?_
          rintro e wc2 ⟨⟨pb', nb', vb', mb', rfl, hpb', hnb', hnbb', hvb', hmb'⟩, bc⟩
          have T1 := Tk.below bc
          clear Tk bc c0 c1 c2 c3 f0 f1 f2 f3 d0 d1 d2 d3 g0 g1 g2 g3 u0 u1 u2 u3 h0 h1 h2 h3
          rename Tri w wc2 _ _ _ _ _ _ _ _ _ _ _ _ _ _ _ _ _ _ _ _ => Tk
          have c0 : wc2.cell? ⟨w.heap.size, 0, none⟩ = some (.bool p0) := blk_cell Tk.P 0
          have f0 : wc2.frozen? ⟨w.heap.size, 0, none⟩ = false := blk_free Tk.P 0
          have c1 : wc2.cell? ⟨w.heap.size, 1, none⟩ = some (.bool p1) := blk_cell Tk.P 1
          have f1 : wc2.frozen? ⟨w.heap.size, 1, none⟩ = false := blk_free Tk.P 1
          have c2 : wc2.cell? ⟨w.heap.size, 2, none⟩ = some (.slice ra rn rc) := blk_cell Tk.P 2
          have f2 : wc2.frozen? ⟨w.heap.size, 2, none⟩ = false := blk_free Tk.P 2
          have c3 : wc2.cell? ⟨w.heap.size, 3, none⟩ = some (.slice sa sn sc) := blk_cell Tk.P 3
          have f3 : wc2.frozen? ⟨w.heap.size, 3, none⟩ = false := blk_free Tk.P 3
          have d0 : wc2.cell? ⟨w.heap.size + 1, 0, none⟩ = some (.string pa) := blk_cell Tk.A 0
          have g0 : wc2.frozen? ⟨w.heap.size + 1, 0, none⟩ = false := blk_free Tk.A 0
          have d1 : wc2.cell? ⟨w.heap.size + 1, 1, none⟩ = some (.slice aa na ca) := blk_cell Tk.A 1
          have g1 : wc2.frozen? ⟨w.heap.size + 1, 1, none⟩ = false := blk_free Tk.A 1
          have d2 : wc2.cell? ⟨w.heap.size + 1, 2, none⟩ = some (.string va) := blk_cell Tk.A 2
          have g2 : wc2.frozen? ⟨w.heap.size + 1, 2, none⟩ = false := blk_free Tk.A 2
          have d3 : wc2.cell? ⟨w.heap.size + 1, 3, none⟩ = some (.string ma) := blk_cell Tk.A 3
          have g3 : wc2.frozen? ⟨w.heap.size + 1, 3, none⟩ = false := blk_free Tk.A 3
          have u0 : wc2.cell? ⟨w.heap.size + 1 + 1, 0, none⟩ = some (.string pb) := blk_cell Tk.B 0
          have h0 : wc2.frozen? ⟨w.heap.size + 1 + 1, 0, none⟩ = false := blk_free Tk.B 0
          have u1 : wc2.cell? ⟨w.heap.size + 1 + 1, 1, none⟩ = some (.slice ab nb cb) := blk_cell Tk.B 1
          have h1 : wc2.frozen? ⟨w.heap.size + 1 + 1, 1, none⟩ = false := blk_free Tk.B 1
          have u2 : wc2.cell? ⟨w.heap.size + 1 + 1, 2, none⟩ = some (.string vb) := blk_cell Tk.B 2
          have h2 : wc2.frozen? ⟨w.heap.size + 1 + 1, 2, none⟩ = false := blk_free Tk.B 2
          have u3 : wc2.cell? ⟨w.heap.size + 1 + 1, 3, none⟩ = some (.string mb) := blk_cell Tk.B 3
          have h3 : wc2.frozen? ⟨w.heap.size + 1 + 1, 3, none⟩ = false := blk_free Tk.B 3
          refine hK.out _ _ trivial (fun hHeld => ?_)
          clear hK K
          refine wpAnyH_ready (rs := [6]) (by kernel_rfl) (by simp) ?_
          refine AllReadyH.cons (o := ⟨_, _, _, _, _, _⟩) rfl (fun K hK => ?_) (AllReadyH.nil)
          go_simp
          refine hK.out _ _ trivial (fun hHeld => ?_)
          clear hK K
          refine wpAnyH_ready (rs := [7]) (by kernel_rfl) (by simp) ?_
          refine AllReadyH.cons (o := ⟨_, _, _, _, _, _⟩) rfl (fun K hK => ?_) (AllReadyH.nil)
          go_simp
          refine hK.out _ _ trivial (fun hHeld => ?_)
          clear hK K
          refine wpAnyH_ready (rs := [8]) (by kernel_rfl) (by simp) ?_
          refine AllReadyH.cons (o := ⟨_, _, _, _, _, _⟩) rfl (fun K hK => ?_) (AllReadyH.nil)
          go_simp
          refine hK.out _ _ trivial (fun hHeld => ?_)
          clear hK K
          refine wpAnyH_done (by kernel_rfl) (NoPanic.normal ?_) _
          go_wp2_with fail
          go_meet
          exact ⟨rfl, pa', na', va', ma', pb', nb', vb', mb', ⟨hpa', hna', hnaa', hva', hma'⟩, ⟨hpb', hnb', hnbb', hvb', hmb'⟩, Tk.few⟩
      · go_simp
        refine hK.out _ _ trivial (fun hHeld => ?_)
        clear hK K
        refine wpAnyH_ready (rs := [0]) (by kernel_rfl) (by simp) ?_
        refine AllReadyH.cons (o := ⟨_, _, _, _, _, _⟩) rfl (fun K hK => ?_) (AllReadyH.nil)
        go_simp
        refine hK.out _ _ trivial (fun hHeld => ?_)
        clear hK K
        refine wpAnyH_ready (rs := [1]) (by kernel_rfl) (by simp) ?_
        refine AllReadyH.cons (o := ⟨_, _, _, _, _, _⟩) rfl (fun K hK => ?_) (AllReadyH.nil)
        go_simp
        refine (few3_any p0 p1 ra rn rc sa sn sc _ hrc hsc).mono ?_
        rintro e wa ⟨rfl, ba⟩
        have T1 := Tk.below ba
        clear Tk ba c0 c1 c2 c3 f0 f1 f2 f3 d0 d1 d2 d3 g0 g1 g2 g3 u0 u1 u2 u3 h0 h1 h2 h3
        rename Tri w wa _ _ _ _ _ _ _ _ _ _ _ _ _ _ _ _ _ _ _ _ => Tk
        have c0 : wa.cell? ⟨w.heap.size, 0, none⟩ = some (.bool p0) := blk_cell Tk.P 0
        have f0 : wa.frozen? ⟨w.heap.size, 0, none⟩ = false := blk_free Tk.P 0
        have c1 : wa.cell? ⟨w.heap.size, 1, none⟩ = some (.bool p1) := blk_cell Tk.P 1
        have f1 : wa.frozen? ⟨w.heap.size, 1, none⟩ = false := blk_free Tk.P 1
        have c2 : wa.cell? ⟨w.heap.size, 2, none⟩ = some (.slice ra rn rc) := blk_cell Tk.P 2
        have f2 : wa.frozen? ⟨w.heap.size, 2, none⟩ = false := blk_free Tk.P 2
        have c3 : wa.cell? ⟨w.heap.size, 3, none⟩ = some (.slice sa sn sc) := blk_cell Tk.P 3
        have f3 : wa.frozen? ⟨w.heap.size, 3, none⟩ = false := blk_free Tk.P 3
        have d0 : wa.cell? ⟨w.heap.size + 1, 0, none⟩ = some (.string pa) := blk_cell Tk.A 0
        have g0 : wa.frozen? ⟨w.heap.size + 1, 0, none⟩ = false := blk_free Tk.A 0
        have d1 : wa.cell? ⟨w.heap.size + 1, 1, none⟩ = some (.slice aa na ca) := blk_cell Tk.A 1
        have g1 : wa.frozen? ⟨w.heap.size + 1, 1, none⟩ = false := blk_free Tk.A 1
        have d2 : wa.cell? ⟨w.heap.size + 1, 2, none⟩ = some (.string va) := blk_cell Tk.A 2
        have g2 : wa.frozen? ⟨w.heap.size + 1, 2, none⟩ = false := blk_free Tk.A 2
        have d3 : wa.cell? ⟨w.heap.size + 1, 3, none⟩ = some (.string ma) := blk_cell Tk.A 3
        have g3 : wa.frozen? ⟨w.heap.size + 1, 3, none⟩ = false := blk_free Tk.A 3
        have u0 : wa.cell? ⟨w.heap.size + 1 + 1, 0, none⟩ = some (.string pb) := blk_cell Tk.B 0
        have h0 : wa.frozen? ⟨w.heap.size + 1 + 1, 0, none⟩ = false := blk_free Tk.B 0
        have u1 : wa.cell? ⟨w.heap.size + 1 + 1, 1, none⟩ = some (.slice ab nb cb) := blk_cell Tk.B 1
        have h1 : wa.frozen? ⟨w.heap.size + 1 + 1, 1, none⟩ = false := blk_free Tk.B 1
        have u2 : wa.cell? ⟨w.heap.size + 1 + 1, 2, none⟩ = some (.string vb) := blk_cell Tk.B 2
        have h2 : wa.frozen? ⟨w.heap.size + 1 + 1, 2, none⟩ = false := blk_free Tk.B 2
        have u3 : wa.cell? ⟨w.heap.size + 1 + 1, 3, none⟩ = some (.string mb) := blk_cell Tk.B 3
        have h3 : wa.frozen? ⟨w.heap.size + 1 + 1, 3, none⟩ = false := blk_free Tk.B 3
        refine hK.out _ _ trivial (fun hHeld => ?_)
        clear hK K
        refine wpAnyH_ready (rs := [3]) (by kernel_rfl) (by simp) ?_
        refine AllReadyH.cons (o := ⟨_, _, _, _, _, _⟩) rfl (fun K hK => ?_) (AllReadyH.nil)
        go_simp
        refine (few_any pa aa na ca va ma _ hca).mono ?_
        rintro e wb ⟨⟨pa', na', va', ma', rfl, hpa', hna', hnaa', hva', hma'⟩, bb⟩
        have T1 := Tk.below bb
        clear Tk bb c0 c1 c2 c3 f0 f1 f2 f3 d0 d1 d2 d3 g0 g1 g2 g3 u0 u1 u2 u3 h0 h1 h2 h3
        rename Tri w wb _ _ _ _ _ _ _ _ _ _ _ _ _ _ _ _ _ _ _ _ => Tk
        have c0 : wb.cell? ⟨w.heap.size, 0, none⟩ = some (.bool p0) := blk_cell Tk.P 0
        have f0 : wb.frozen? ⟨w.heap.size, 0, none⟩ = false := blk_free Tk.P 0
        have c1 : wb.cell? ⟨w.heap.size, 1, none⟩ = some (.bool p1) := blk_cell Tk.P 1
        have f1 : wb.frozen? ⟨w.heap.size, 1, none⟩ = false := blk_free Tk.P 1
        have c2 : wb.cell? ⟨w.heap.size, 2, none⟩ = some (.slice ra rn rc) := blk_cell Tk.P 2
        have f2 : wb.frozen? ⟨w.heap.size, 2, none⟩ = false := blk_free Tk.P 2
        have c3 : wb.cell? ⟨w.heap.size, 3, none⟩ = some (.slice sa sn sc) := blk_cell Tk.P 3
        have f3 : wb.frozen? ⟨w.heap.size, 3, none⟩ = false := blk_free Tk.P 3
        have d0 : wb.cell? ⟨w.heap.size + 1, 0, none⟩ = some (.string pa) := blk_cell Tk.A 0
        have g0 : wb.frozen? ⟨w.heap.size + 1, 0, none⟩ = false := blk_free Tk.A 0
        have d1 : wb.cell? ⟨w.heap.size + 1, 1, none⟩ = some (.slice aa na ca) := blk_cell Tk.A 1
        have g1 : wb.frozen? ⟨w.heap.size + 1, 1, none⟩ = false := blk_free Tk.A 1
        have d2 : wb.cell? ⟨w.heap.size + 1, 2, none⟩ = some (.string va) := blk_cell Tk.A 2
        have g2 : wb.frozen? ⟨w.heap.size + 1, 2, none⟩ = false := blk_free Tk.A 2
        have d3 : wb.cell? ⟨w.heap.size + 1, 3, none⟩ = some (.string ma) := blk_cell Tk.A 3
        have g3 : wb.frozen? ⟨w.heap.size + 1, 3, none⟩ = false := blk_free Tk.A 3
        have u0 : wb.cell? ⟨w.heap.size + 1 + 1, 0, none⟩ = some (.string pb) := blk_cell Tk.B 0
        have h0 : wb.frozen? ⟨w.heap.size + 1 + 1, 0, none⟩ = false := blk_free Tk.B 0
        have u1 : wb.cell? ⟨w.heap.size + 1 + 1, 1, none⟩ = some (.slice ab nb cb) := blk_cell Tk.B 1
        have h1 : wb.frozen? ⟨w.heap.size + 1 + 1, 1, none⟩ = false := blk_free Tk.B 1
        have u2 : wb.cell? ⟨w.heap.size + 1 + 1, 2, none⟩ = some (.string vb) := blk_cell Tk.B 2
        have h2 : wb.frozen? ⟨w.heap.size + 1 + 1, 2, none⟩ = false := blk_free Tk.B 2
        have u3 : wb.cell? ⟨w.heap.size + 1 + 1, 3, none⟩ = some (.string mb) := blk_cell Tk.B 3
        have h3 : wb.frozen? ⟨w.heap.size + 1 + 1, 3, none⟩ = false := blk_free Tk.B 3
        refine hK.out _ _ trivial (fun hHeld => ?_)
        clear hK K
        refine wpAnyH_ready (rs := [5]) (by kernel_rfl) (by simp) ?_
        refine AllReadyH.cons (o := ⟨_, _, _, _, _, _⟩) rfl (fun K hK => ?_) (AllReadyH.nil)
        go_simp
        refine (few_any pb ab nb cb vb mb _ hcb).mono ?_
        rintro e wc2 ⟨⟨pb', nb', vb', mb', rfl, hpb', hnb', hnbb', hvb', hmb'⟩, bc⟩
        have T1 := Tk.below bc
        clear Tk bc c0 c1 c2 c3 f0 f1 f2 f3 d0 d1 d2 d3 g0 g1 g2 g3 u0 u1 u2 u3 h0 h1 h2 h3
        rename Tri w wc2 _ _ _ _ _ _ _ _ _ _ _ _ _ _ _ _ _ _ _ _ => Tk
        have c0 : wc2.cell? ⟨w.heap.size, 0, none⟩ = some (.bool p0) := blk_cell Tk.P 0
        have f0 : wc2.frozen? ⟨w.heap.size, 0, none⟩ = false := blk_free Tk.P 0
        have c1 : wc2.cell? ⟨w.heap.size, 1, none⟩ = some (.bool p1) := blk_cell Tk.P 1
        have f1 : wc2.frozen? ⟨w.heap.size, 1, none⟩ = false := blk_free Tk.P 1
        have c2 : wc2.cell? ⟨w.heap.size, 2, none⟩ = some (.slice ra rn rc) := blk_cell Tk.P 2
        have f2 : wc2.frozen? ⟨w.heap.size, 2, none⟩ = false := blk_free Tk.P 2
        have c3 : wc2.cell? ⟨w.heap.size, 3, none⟩ = some (.slice sa sn sc) := blk_cell Tk.P 3
        have f3 : wc2.frozen? ⟨w.heap.size, 3, none⟩ = false := blk_free Tk.P 3
        have d0 : wc2.cell? ⟨w.heap.size + 1, 0, none⟩ = some (.string pa) := blk_cell Tk.A 0
        have g0 : wc2.frozen? ⟨w.heap.size + 1, 0, none⟩ = false := blk_free Tk.A 0
        have d1 : wc2.cell? ⟨w.heap.size + 1, 1, none⟩ = some (.slice aa na ca) := blk_cell Tk.A 1
        have g1 : wc2.frozen? ⟨w.heap.size + 1, 1, none⟩ = false := blk_free Tk.A 1
        have d2 : wc2.cell? ⟨w.heap.size + 1, 2, none⟩ = some (.string va) := blk_cell Tk.A 2
        have g2 : wc2.frozen? ⟨w.heap.size + 1, 2, none⟩ = false := blk_free Tk.A 2
        have d3 : wc2.cell? ⟨w.heap.size + 1, 3, none⟩ = some (.string ma) := blk_cell Tk.A 3
        have g3 : wc2.frozen? ⟨w.heap.size + 1, 3, none⟩ = false := blk_free Tk.A 3
        have u0 : wc2.cell? ⟨w.heap.size + 1 + 1, 0, none⟩ = some (.string pb) := blk_cell Tk.B 0
        have h0 : wc2.frozen? ⟨w.heap.size + 1 + 1, 0, none⟩ = false := blk_free Tk.B 0
        have u1 : wc2.cell? ⟨w.heap.size + 1 + 1, 1, none⟩ = some (.slice ab nb cb) := blk_cell Tk.B 1
        have h1 : wc2.frozen? ⟨w.heap.size + 1 + 1, 1, none⟩ = false := blk_free Tk.B 1
        have u2 : wc2.cell? ⟨w.heap.size + 1 + 1, 2, none⟩ = some (.string vb) := blk_cell Tk.B 2
        have h2 : wc2.frozen? ⟨w.heap.size + 1 + 1, 2, none⟩ = false := blk_free Tk.B 2
        have u3 : wc2.cell? ⟨w.heap.size + 1 + 1, 3, none⟩ = some (.string mb) := blk_cell Tk.B 3
        have h3 : wc2.frozen? ⟨w.heap.size + 1 + 1, 3, none⟩ = false := blk_free Tk.B 3
        refine hK.out _ _ trivial (fun hHeld => ?_)
        clear hK K
        refine wpAnyH_ready (rs := [6]) (by kernel_rfl) (by simp) ?_
        refine AllReadyH.cons (o := ⟨_, _, _, _, _, _⟩) rfl (fun K hK => ?_) (AllReadyH.nil)
        go_simp
        refine hK.out _ _ trivial (fun hHeld => ?_)
        clear hK K
        refine wpAnyH_ready (rs := [7]) (by kernel_rfl) (by simp) ?_
        refine AllReadyH.cons (o := ⟨_, _, _, _, _, _⟩) rfl (fun K hK => ?_) (AllReadyH.nil)
        go_simp
        refine hK.out _ _ trivial (fun hHeld => ?_)
        clear hK K
        refine wpAnyH_ready (rs := [8]) (by kernel_rfl) (by simp) ?_
        refine AllReadyH.cons (o := ⟨_, _, _, _, _, _⟩) rfl (fun K hK => ?_) (AllReadyH.nil)
        go_simp
        refine hK.out _ _ trivial (fun hHeld => ?_)
        clear hK K
        refine wpAnyH_done (by kernel_rfl) (NoPanic.normal ?_) _
        go_wp2_with fail
        go_meet
        exact ⟨rfl, pa', na', va', ma', pb', nb', vb', mb', ⟨hpa', hna', hnaa', hva', hma'⟩, ⟨hpb', hnb', hnbb', hvb', hmb'⟩, Tk.few⟩
  case rest =>
    obtain ⟨rfl, pa', na', va', ma', pb', nb', vb', mb', ⟨hpa', hna', hnaa', hva', hma'⟩, ⟨hpb', hnb', hnbb', hvb', hmb'⟩, T0⟩ := hcut
    have hPol : PolAt w ra (min rn 20) rc sa (min sn 20) sc F T F' T' := ⟨fun i hi => hRa i (by omega), fun i hi => hSa i (by omega), by omega, by omega⟩
    have hIA : IntsAt w aa na' A := fun i hi => hA i (by omega)
    have hIB : IntsAt w ab nb' B := fun i hi => hB i (by omega)
    have hIAR : IntsR A na' := ⟨fun i hi => hAR.b i (by omega)⟩
    have hIBR : IntsR B nb' := ⟨fun i hi => hBR.b i (by omega)⟩
    clear hRa hSa hA hB hAR hBR Tk
    clear hnaa' hnbb' hrc hsc hca hcb
    obtain ⟨rn', hrn⟩ : ∃ m, m = min rn 20 := ⟨_, rfl⟩
    obtain ⟨sn', hsn⟩ : ∃ m, m = min sn 20 := ⟨_, rfl⟩
    rw [← hrn, ← hsn] at T0 hPol
    clear hrn hsn
    have c0 : wc.cell? ⟨w.heap.size, 0, none⟩ = some (.bool p0) := blk_cell T0.P 0
    have c1 : wc.cell? ⟨w.heap.size, 1, none⟩ = some (.bool p1) := blk_cell T0.P 1
    have c2 : wc.cell? ⟨w.heap.size, 2, none⟩ = some (.slice ra rn' rc) := blk_cell T0.P 2
    have c3 : wc.cell? ⟨w.heap.size, 3, none⟩ = some (.slice sa sn' sc) := blk_cell T0.P 3
    have d0 : wc.cell? ⟨w.heap.size + 1, 0, none⟩ = some (.string pa') := blk_cell T0.A 0
    have d1 : wc.cell? ⟨w.heap.size + 1, 1, none⟩ = some (.slice aa na' ca) := blk_cell T0.A 1
    have d2 : wc.cell? ⟨w.heap.size + 1, 2, none⟩ = some (.string va') := blk_cell T0.A 2
    have d3 : wc.cell? ⟨w.heap.size + 1, 3, none⟩ = some (.string ma') := blk_cell T0.A 3
    have u0 : wc.cell? ⟨w.heap.size + 1 + 1, 0, none⟩ = some (.string pb') := blk_cell T0.B 0
    have u1 : wc.cell? ⟨w.heap.size + 1 + 1, 1, none⟩ = some (.slice ab nb' cb) := blk_cell T0.B 1
    have u2 : wc.cell? ⟨w.heap.size + 1 + 1, 2, none⟩ = some (.string vb') := blk_cell T0.B 2
    have u3 : wc.cell? ⟨w.heap.size + 1 + 1, 3, none⟩ = some (.string mb') := blk_cell T0.B 3
    cases q1 : mayPB rn' sn' F T F' T'
    · have Q1 := hidI q1; clear q1
      have QN : Hid (alkB p0 p1 rn' sn' F T F' T' pa' na' va' ma' A pb' nb' vb' mb' B = false) := by show _ = _; unfold alkB; rw [Q1.out]; simp
      go_wp2_with fail
      refine (alike_any p0 p1 ra rn' rc sa sn' sc F T F' T' pa' aa na' ca va' ma' A pb' ab nb' cb vb' mb' B _ (hPol.below T0.bl) (by omega) (by omega) (by omega) (by omega) (by omega) (by omega) (by omega) (by omega) (hIA.below T0.bl) (hIB.below T0.bl)).mono ?_
      rw [QN.out]
      rintro e w1 ⟨rfl, b1⟩
      have T1 := T0.below b1
      clear b1 T0
      clear c0 c1 c2 c3 d0 d1 d2 d3 u0 u1 u2 u3
      have c0 : w1.cell? ⟨w.heap.size, 0, none⟩ = some (.bool p0) := blk_cell T1.P 0
      have c1 : w1.cell? ⟨w.heap.size, 1, none⟩ = some (.bool p1) := blk_cell T1.P 1
      have c2 : w1.cell? ⟨w.heap.size, 2, none⟩ = some (.slice ra rn' rc) := blk_cell T1.P 2
      have c3 : w1.cell? ⟨w.heap.size, 3, none⟩ = some (.slice sa sn' sc) := blk_cell T1.P 3
      have d0 : w1.cell? ⟨w.heap.size + 1, 0, none⟩ = some (.string pa') := blk_cell T1.A 0
      have d1 : w1.cell? ⟨w.heap.size + 1, 1, none⟩ = some (.slice aa na' ca) := blk_cell T1.A 1
      have d2 : w1.cell? ⟨w.heap.size + 1, 2, none⟩ = some (.string va') := blk_cell T1.A 2
      have d3 : w1.cell? ⟨w.heap.size + 1, 3, none⟩ = some (.string ma') := blk_cell T1.A 3
      have u0 : w1.cell? ⟨w.heap.size + 1 + 1, 0, none⟩ = some (.string pb') := blk_cell T1.B 0
      have u1 : w1.cell? ⟨w.heap.size + 1 + 1, 1, none⟩ = some (.slice ab nb' cb) := blk_cell T1.B 1
      have u2 : w1.cell? ⟨w.heap.size + 1 + 1, 2, none⟩ = some (.string vb') := blk_cell T1.B 2
      have u3 : w1.cell? ⟨w.heap.size + 1 + 1, 3, none⟩ = some (.string mb') := blk_cell T1.B 3
      go_wp2_with fail
      refine (may3_any p0 p1 ra rn' rc sa sn' sc F T F' T' _ (hPol.below T1.bl)).mono ?_
      rw [Q1.out]
      rintro e w2 ⟨rfl, b2⟩
      have T2 := T1.below b2
      clear b2 T1
      clear c0 c1 c2 c3 d0 d1 d2 d3 u0 u1 u2 u3
      have c0 : w2.cell? ⟨w.heap.size, 0, none⟩ = some (.bool p0) := blk_cell T2.P 0
      have c1 : w2.cell? ⟨w.heap.size, 1, none⟩ = some (.bool p1) := blk_cell T2.P 1
      have c2 : w2.cell? ⟨w.heap.size, 2, none⟩ = some (.slice ra rn' rc) := blk_cell T2.P 2
      have c3 : w2.cell? ⟨w.heap.size, 3, none⟩ = some (.slice sa sn' sc) := blk_cell T2.P 3
      have d0 : w2.cell? ⟨w.heap.size + 1, 0, none⟩ = some (.string pa') := blk_cell T2.A 0
      have d1 : w2.cell? ⟨w.heap.size + 1, 1, none⟩ = some (.slice aa na' ca) := blk_cell T2.A 1
      have d2 : w2.cell? ⟨w.heap.size + 1, 2, none⟩ = some (.string va') := blk_cell T2.A 2
      have d3 : w2.cell? ⟨w.heap.size + 1, 3, none⟩ = some (.string ma') := blk_cell T2.A 3
      have u0 : w2.cell? ⟨w.heap.size + 1 + 1, 0, none⟩ = some (.string pb') := blk_cell T2.B 0
      have u1 : w2.cell? ⟨w.heap.size + 1 + 1, 1, none⟩ = some (.slice ab nb' cb) := blk_cell T2.B 1
      have u2 : w2.cell? ⟨w.heap.size + 1 + 1, 2, none⟩ = some (.string vb') := blk_cell T2.B 2
      have u3 : w2.cell? ⟨w.heap.size + 1 + 1, 3, none⟩ = some (.string mb') := blk_cell T2.B 3
      go_wp2_with fail
      refine (awake_any _).mono ?_
      rintro e wz ⟨rfl, bz⟩
      go_wp2
      go_ret
      exact ⟨rfl, T2.bl.trans (bz.mono T2.bl.size)⟩
    · have Q1 := hidI q1; clear q1
      cases q2 : maySB pa' na' va' ma' A
      · have Q2 := hidI q2; clear q2
        have QN : Hid (alkB p0 p1 rn' sn' F T F' T' pa' na' va' ma' A pb' nb' vb' mb' B = false) := by show _ = _; unfold alkB; rw [Q1.out, Q2.out]; simp
        go_wp2_with fail
        refine (alike_any p0 p1 ra rn' rc sa sn' sc F T F' T' pa' aa na' ca va' ma' A pb' ab nb' cb vb' mb' B _ (hPol.below T0.bl) (by omega) (by omega) (by omega) (by omega) (by omega) (by omega) (by omega) (by omega) (hIA.below T0.bl) (hIB.below T0.bl)).mono ?_
        rw [QN.out]
        rintro e w1 ⟨rfl, b1⟩
        have T1 := T0.below b1
        clear b1 T0
        clear c0 c1 c2 c3 d0 d1 d2 d3 u0 u1 u2 u3
        have c0 : w1.cell? ⟨w.heap.size, 0, none⟩ = some (.bool p0) := blk_cell T1.P 0
        have c1 : w1.cell? ⟨w.heap.size, 1, none⟩ = some (.bool p1) := blk_cell T1.P 1
        have c2 : w1.cell? ⟨w.heap.size, 2, none⟩ = some (.slice ra rn' rc) := blk_cell T1.P 2
        have c3 : w1.cell? ⟨w.heap.size, 3, none⟩ = some (.slice sa sn' sc) := blk_cell T1.P 3
        have d0 : w1.cell? ⟨w.heap.size + 1, 0, none⟩ = some (.string pa') := blk_cell T1.A 0
        have d1 : w1.cell? ⟨w.heap.size + 1, 1, none⟩ = some (.slice aa na' ca) := blk_cell T1.A 1
        have d2 : w1.cell? ⟨w.heap.size + 1, 2, none⟩ = some (.string va') := blk_cell T1.A 2
        have d3 : w1.cell? ⟨w.heap.size + 1, 3, none⟩ = some (.string ma') := blk_cell T1.A 3
        have u0 : w1.cell? ⟨w.heap.size + 1 + 1, 0, none⟩ = some (.string pb') := blk_cell T1.B 0
        have u1 : w1.cell? ⟨w.heap.size + 1 + 1, 1, none⟩ = some (.slice ab nb' cb) := blk_cell T1.B 1
        have u2 : w1.cell? ⟨w.heap.size + 1 + 1, 2, none⟩ = some (.string vb') := blk_cell T1.B 2
        have u3 : w1.cell? ⟨w.heap.size + 1 + 1, 3, none⟩ = some (.string mb') := blk_cell T1.B 3
        go_wp2_with fail
        refine (may3_any p0 p1 ra rn' rc sa sn' sc F T F' T' _ (hPol.below T1.bl)).mono ?_
        rw [Q1.out]
        rintro e w2 ⟨rfl, b2⟩
        have T2 := T1.below b2
        clear b2 T1
        clear c0 c1 c2 c3 d0 d1 d2 d3 u0 u1 u2 u3
        have c0 : w2.cell? ⟨w.heap.size, 0, none⟩ = some (.bool p0) := blk_cell T2.P 0
        have c1 : w2.cell? ⟨w.heap.size, 1, none⟩ = some (.bool p1) := blk_cell T2.P 1
        have c2 : w2.cell? ⟨w.heap.size, 2, none⟩ = some (.slice ra rn' rc) := blk_cell T2.P 2
        have c3 : w2.cell? ⟨w.heap.size, 3, none⟩ = some (.slice sa sn' sc) := blk_cell T2.P 3
        have d0 : w2.cell? ⟨w.heap.size + 1, 0, none⟩ = some (.string pa') := blk_cell T2.A 0
        have d1 : w2.cell? ⟨w.heap.size + 1, 1, none⟩ = some (.slice aa na' ca) := blk_cell T2.A 1
        have d2 : w2.cell? ⟨w.heap.size + 1, 2, none⟩ = some (.string va') := blk_cell T2.A 2
        have d3 : w2.cell? ⟨w.heap.size + 1, 3, none⟩ = some (.string ma') := blk_cell T2.A 3
        have u0 : w2.cell? ⟨w.heap.size + 1 + 1, 0, none⟩ = some (.string pb') := blk_cell T2.B 0
        have u1 : w2.cell? ⟨w.heap.size + 1 + 1, 1, none⟩ = some (.slice ab nb' cb) := blk_cell T2.B 1
        have u2 : w2.cell? ⟨w.heap.size + 1 + 1, 2, none⟩ = some (.string vb') := blk_cell T2.B 2
        have u3 : w2.cell? ⟨w.heap.size + 1 + 1, 3, none⟩ = some (.string mb') := blk_cell T2.B 3
        go_wp2_with fail
        refine (smayr_any pa' aa na' ca va' ma' A _ (by omega) (by omega) (hIA.below T2.bl) hIAR).mono ?_
        rw [Q2.out]
        rintro e w3 ⟨rfl, b3⟩
        have T3 := T2.below b3
        clear b3 T2
        clear c0 c1 c2 c3 d0 d1 d2 d3 u0 u1 u2 u3
        have c0 : w3.cell? ⟨w.heap.size, 0, none⟩ = some (.bool p0) := blk_cell T3.P 0
        have c1 : w3.cell? ⟨w.heap.size, 1, none⟩ = some (.bool p1) := blk_cell T3.P 1
        have c2 : w3.cell? ⟨w.heap.size, 2, none⟩ = some (.slice ra rn' rc) := blk_cell T3.P 2
        have c3 : w3.cell? ⟨w.heap.size, 3, none⟩ = some (.slice sa sn' sc) := blk_cell T3.P 3
        have d0 : w3.cell? ⟨w.heap.size + 1, 0, none⟩ = some (.string pa') := blk_cell T3.A 0
        have d1 : w3.cell? ⟨w.heap.size + 1, 1, none⟩ = some (.slice aa na' ca) := blk_cell T3.A 1
        have d2 : w3.cell? ⟨w.heap.size + 1, 2, none⟩ = some (.string va') := blk_cell T3.A 2
        have d3 : w3.cell? ⟨w.heap.size + 1, 3, none⟩ = some (.string ma') := blk_cell T3.A 3
        have u0 : w3.cell? ⟨w.heap.size + 1 + 1, 0, none⟩ = some (.string pb') := blk_cell T3.B 0
        have u1 : w3.cell? ⟨w.heap.size + 1 + 1, 1, none⟩ = some (.slice ab nb' cb) := blk_cell T3.B 1
        have u2 : w3.cell? ⟨w.heap.size + 1 + 1, 2, none⟩ = some (.string vb') := blk_cell T3.B 2
        have u3 : w3.cell? ⟨w.heap.size + 1 + 1, 3, none⟩ = some (.string mb') := blk_cell T3.B 3
        go_wp2_with fail
        refine (awake_any _).mono ?_
        rintro e wz ⟨rfl, bz⟩
        go_wp2
        go_ret
        exact ⟨rfl, T3.bl.trans (bz.mono T3.bl.size)⟩
      · have Q2 := hidI q2; clear q2
        cases q3 : maySB pb' nb' vb' mb' B
        · have Q3 := hidI q3; clear q3
          have QN : Hid (alkB p0 p1 rn' sn' F T F' T' pa' na' va' ma' A pb' nb' vb' mb' B = false) := by show _ = _; unfold alkB; rw [Q1.out, Q2.out, Q3.out]; simp
          go_wp2_with fail
          refine (alike_any p0 p1 ra rn' rc sa sn' sc F T F' T' pa' aa na' ca va' ma' A pb' ab nb' cb vb' mb' B _ (hPol.below T0.bl) (by omega) (by omega) (by omega) (by omega) (by omega) (by omega) (by omega) (by omega) (hIA.below T0.bl) (hIB.below T0.bl)).mono ?_
          rw [QN.out]
          rintro e w1 ⟨rfl, b1⟩
          have T1 := T0.below b1
          clear b1 T0
          clear c0 c1 c2 c3 d0 d1 d2 d3 u0 u1 u2 u3
          have c0 : w1.cell? ⟨w.heap.size, 0, none⟩ = some (.bool p0) := blk_cell T1.P 0
          have c1 : w1.cell? ⟨w.heap.size, 1, none⟩ = some (.bool p1) := blk_cell T1.P 1
          have c2 : w1.cell? ⟨w.heap.size, 2, none⟩ = some (.slice ra rn' rc) := blk_cell T1.P 2
          have c3 : w1.cell? ⟨w.heap.size, 3, none⟩ = some (.slice sa sn' sc) := blk_cell T1.P 3
          have d0 : w1.cell? ⟨w.heap.size + 1, 0, none⟩ = some (.string pa') := blk_cell T1.A 0
          have d1 : w1.cell? ⟨w.heap.size + 1, 1, none⟩ = some (.slice aa na' ca) := blk_cell T1.A 1
          have d2 : w1.cell? ⟨w.heap.size + 1, 2, none⟩ = some (.string va') := blk_cell T1.A 2
          have d3 : w1.cell? ⟨w.heap.size + 1, 3, none⟩ = some (.string ma') := blk_cell T1.A 3
          have u0 : w1.cell? ⟨w.heap.size + 1 + 1, 0, none⟩ = some (.string pb') := blk_cell T1.B 0
          have u1 : w1.cell? ⟨w.heap.size + 1 + 1, 1, none⟩ = some (.slice ab nb' cb) := blk_cell T1.B 1
          have u2 : w1.cell? ⟨w.heap.size + 1 + 1, 2, none⟩ = some (.string vb') := blk_cell T1.B 2
          have u3 : w1.cell? ⟨w.heap.size + 1 + 1, 3, none⟩ = some (.string mb') := blk_cell T1.B 3
          go_wp2_with fail
          refine (may3_any p0 p1 ra rn' rc sa sn' sc F T F' T' _ (hPol.below T1.bl)).mono ?_
          rw [Q1.out]
          rintro e w2 ⟨rfl, b2⟩
          have T2 := T1.below b2
          clear b2 T1
          clear c0 c1 c2 c3 d0 d1 d2 d3 u0 u1 u2 u3
          have c0 : w2.cell? ⟨w.heap.size, 0, none⟩ = some (.bool p0) := blk_cell T2.P 0
          have c1 : w2.cell? ⟨w.heap.size, 1, none⟩ = some (.bool p1) := blk_cell T2.P 1
          have c2 : w2.cell? ⟨w.heap.size, 2, none⟩ = some (.slice ra rn' rc) := blk_cell T2.P 2
          have c3 : w2.cell? ⟨w.heap.size, 3, none⟩ = some (.slice sa sn' sc) := blk_cell T2.P 3
          have d0 : w2.cell? ⟨w.heap.size + 1, 0, none⟩ = some (.string pa') := blk_cell T2.A 0
          have d1 : w2.cell? ⟨w.heap.size + 1, 1, none⟩ = some (.slice aa na' ca) := blk_cell T2.A 1
          have d2 : w2.cell? ⟨w.heap.size + 1, 2, none⟩ = some (.string va') := blk_cell T2.A 2
          have d3 : w2.cell? ⟨w.heap.size + 1, 3, none⟩ = some (.string ma') := blk_cell T2.A 3
          have u0 : w2.cell? ⟨w.heap.size + 1 + 1, 0, none⟩ = some (.string pb') := blk_cell T2.B 0
          have u1 : w2.cell? ⟨w.heap.size + 1 + 1, 1, none⟩ = some (.slice ab nb' cb) := blk_cell T2.B 1
          have u2 : w2.cell? ⟨w.heap.size + 1 + 1, 2, none⟩ = some (.string vb') := blk_cell T2.B 2
          have u3 : w2.cell? ⟨w.heap.size + 1 + 1, 3, none⟩ = some (.string mb') := blk_cell T2.B 3
          go_wp2_with fail
          refine (smayr_any pa' aa na' ca va' ma' A _ (by omega) (by omega) (hIA.below T2.bl) hIAR).mono ?_
          rw [Q2.out]
          rintro e w3 ⟨rfl, b3⟩
          have T3 := T2.below b3
          clear b3 T2
          clear c0 c1 c2 c3 d0 d1 d2 d3 u0 u1 u2 u3
          have c0 : w3.cell? ⟨w.heap.size, 0, none⟩ = some (.bool p0) := blk_cell T3.P 0
          have c1 : w3.cell? ⟨w.heap.size, 1, none⟩ = some (.bool p1) := blk_cell T3.P 1
          have c2 : w3.cell? ⟨w.heap.size, 2, none⟩ = some (.slice ra rn' rc) := blk_cell T3.P 2
          have c3 : w3.cell? ⟨w.heap.size, 3, none⟩ = some (.slice sa sn' sc) := blk_cell T3.P 3
          have d0 : w3.cell? ⟨w.heap.size + 1, 0, none⟩ = some (.string pa') := blk_cell T3.A 0
          have d1 : w3.cell? ⟨w.heap.size + 1, 1, none⟩ = some (.slice aa na' ca) := blk_cell T3.A 1
          have d2 : w3.cell? ⟨w.heap.size + 1, 2, none⟩ = some (.string va') := blk_cell T3.A 2
          have d3 : w3.cell? ⟨w.heap.size + 1, 3, none⟩ = some (.string ma') := blk_cell T3.A 3
          have u0 : w3.cell? ⟨w.heap.size + 1 + 1, 0, none⟩ = some (.string pb') := blk_cell T3.B 0
          have u1 : w3.cell? ⟨w.heap.size + 1 + 1, 1, none⟩ = some (.slice ab nb' cb) := blk_cell T3.B 1
          have u2 : w3.cell? ⟨w.heap.size + 1 + 1, 2, none⟩ = some (.string vb') := blk_cell T3.B 2
          have u3 : w3.cell? ⟨w.heap.size + 1 + 1, 3, none⟩ = some (.string mb') := blk_cell T3.B 3
          go_wp2_with fail
          refine (smayr_any pb' ab nb' cb vb' mb' B _ (by omega) (by omega) (hIB.below T3.bl) hIBR).mono ?_
          rw [Q3.out]
          rintro e w4 ⟨rfl, b4⟩
          have T4 := T3.below b4
          clear b4 T3
          clear c0 c1 c2 c3 d0 d1 d2 d3 u0 u1 u2 u3
          have c0 : w4.cell? ⟨w.heap.size, 0, none⟩ = some (.bool p0) := blk_cell T4.P 0
          have c1 : w4.cell? ⟨w.heap.size, 1, none⟩ = some (.bool p1) := blk_cell T4.P 1
          have c2 : w4.cell? ⟨w.heap.size, 2, none⟩ = some (.slice ra rn' rc) := blk_cell T4.P 2
          have c3 : w4.cell? ⟨w.heap.size, 3, none⟩ = some (.slice sa sn' sc) := blk_cell T4.P 3
          have d0 : w4.cell? ⟨w.heap.size + 1, 0, none⟩ = some (.string pa') := blk_cell T4.A 0
          have d1 : w4.cell? ⟨w.heap.size + 1, 1, none⟩ = some (.slice aa na' ca) := blk_cell T4.A 1
          have d2 : w4.cell? ⟨w.heap.size + 1, 2, none⟩ = some (.string va') := blk_cell T4.A 2
          have d3 : w4.cell? ⟨w.heap.size + 1, 3, none⟩ = some (.string ma') := blk_cell T4.A 3
          have u0 : w4.cell? ⟨w.heap.size + 1 + 1, 0, none⟩ = some (.string pb') := blk_cell T4.B 0
          have u1 : w4.cell? ⟨w.heap.size + 1 + 1, 1, none⟩ = some (.slice ab nb' cb) := blk_cell T4.B 1
          have u2 : w4.cell? ⟨w.heap.size + 1 + 1, 2, none⟩ = some (.string vb') := blk_cell T4.B 2
          have u3 : w4.cell? ⟨w.heap.size + 1 + 1, 3, none⟩ = some (.string mb') := blk_cell T4.B 3
          go_wp2_with fail
          refine (awake_any _).mono ?_
          rintro e wz ⟨rfl, bz⟩
          go_wp2
          go_ret
          exact ⟨rfl, T4.bl.trans (bz.mono T4.bl.size)⟩
        · have Q3 := hidI q3; clear q3
          have hre := alk_ralk p0 p1 rn' sn' F T F' T' pa' na' va' ma' A pb' nb' vb' mb' B Q1.out Q2.out Q3.out
          cases qb : ralkB p0 p1 rn' sn' F T F' T' pa' na' va' ma' A pb' nb' vb' mb' B
          · rw [qb] at hre
            have QA := hidI hre; have QB := hidI qb; clear hre qb
            go_wp2_with fail
            refine (alike_any p0 p1 ra rn' rc sa sn' sc F T F' T' pa' aa na' ca va' ma' A pb' ab nb' cb vb' mb' B _ (hPol.below T0.bl) (by omega) (by omega) (by omega) (by omega) (by omega) (by omega) (by omega) (by omega) (hIA.below T0.bl) (hIB.below T0.bl)).mono ?_
            rw [QA.out]
            rintro e w1 ⟨rfl, b1⟩
            have T1 := T0.below b1
            clear b1 T0
            clear c0 c1 c2 c3 d0 d1 d2 d3 u0 u1 u2 u3
            have c0 : w1.cell? ⟨w.heap.size, 0, none⟩ = some (.bool p0) := blk_cell T1.P 0
            have c1 : w1.cell? ⟨w.heap.size, 1, none⟩ = some (.bool p1) := blk_cell T1.P 1
            have c2 : w1.cell? ⟨w.heap.size, 2, none⟩ = some (.slice ra rn' rc) := blk_cell T1.P 2
            have c3 : w1.cell? ⟨w.heap.size, 3, none⟩ = some (.slice sa sn' sc) := blk_cell T1.P 3
            have d0 : w1.cell? ⟨w.heap.size + 1, 0, none⟩ = some (.string pa') := blk_cell T1.A 0
            have d1 : w1.cell? ⟨w.heap.size + 1, 1, none⟩ = some (.slice aa na' ca) := blk_cell T1.A 1
            have d2 : w1.cell? ⟨w.heap.size + 1, 2, none⟩ = some (.string va') := blk_cell T1.A 2
            have d3 : w1.cell? ⟨w.heap.size + 1, 3, none⟩ = some (.string ma') := blk_cell T1.A 3
            have u0 : w1.cell? ⟨w.heap.size + 1 + 1, 0, none⟩ = some (.string pb') := blk_cell T1.B 0
            have u1 : w1.cell? ⟨w.heap.size + 1 + 1, 1, none⟩ = some (.slice ab nb' cb) := blk_cell T1.B 1
            have u2 : w1.cell? ⟨w.heap.size + 1 + 1, 2, none⟩ = some (.string vb') := blk_cell T1.B 2
            have u3 : w1.cell? ⟨w.heap.size + 1 + 1, 3, none⟩ = some (.string mb') := blk_cell T1.B 3
            go_wp2_with fail
            refine (may3_any p0 p1 ra rn' rc sa sn' sc F T F' T' _ (hPol.below T1.bl)).mono ?_
            rw [Q1.out]
            rintro e w2 ⟨rfl, b2⟩
            have T2 := T1.below b2
            clear b2 T1
            clear c0 c1 c2 c3 d0 d1 d2 d3 u0 u1 u2 u3
            have c0 : w2.cell? ⟨w.heap.size, 0, none⟩ = some (.bool p0) := blk_cell T2.P 0
            have c1 : w2.cell? ⟨w.heap.size, 1, none⟩ = some (.bool p1) := blk_cell T2.P 1
            have c2 : w2.cell? ⟨w.heap.size, 2, none⟩ = some (.slice ra rn' rc) := blk_cell T2.P 2
            have c3 : w2.cell? ⟨w.heap.size, 3, none⟩ = some (.slice sa sn' sc) := blk_cell T2.P 3
            have d0 : w2.cell? ⟨w.heap.size + 1, 0, none⟩ = some (.string pa') := blk_cell T2.A 0
            have d1 : w2.cell? ⟨w.heap.size + 1, 1, none⟩ = some (.slice aa na' ca) := blk_cell T2.A 1
            have d2 : w2.cell? ⟨w.heap.size + 1, 2, none⟩ = some (.string va') := blk_cell T2.A 2
            have d3 : w2.cell? ⟨w.heap.size + 1, 3, none⟩ = some (.string ma') := blk_cell T2.A 3
            have u0 : w2.cell? ⟨w.heap.size + 1 + 1, 0, none⟩ = some (.string pb') := blk_cell T2.B 0
            have u1 : w2.cell? ⟨w.heap.size + 1 + 1, 1, none⟩ = some (.slice ab nb' cb) := blk_cell T2.B 1
            have u2 : w2.cell? ⟨w.heap.size + 1 + 1, 2, none⟩ = some (.string vb') := blk_cell T2.B 2
            have u3 : w2.cell? ⟨w.heap.size + 1 + 1, 3, none⟩ = some (.string mb') := blk_cell T2.B 3
            go_wp2_with fail
            refine (smayr_any pa' aa na' ca va' ma' A _ (by omega) (by omega) (hIA.below T2.bl) hIAR).mono ?_
            rw [Q2.out]
            rintro e w3 ⟨rfl, b3⟩
            have T3 := T2.below b3
            clear b3 T2
            clear c0 c1 c2 c3 d0 d1 d2 d3 u0 u1 u2 u3
            have c0 : w3.cell? ⟨w.heap.size, 0, none⟩ = some (.bool p0) := blk_cell T3.P 0
            have c1 : w3.cell? ⟨w.heap.size, 1, none⟩ = some (.bool p1) := blk_cell T3.P 1
            have c2 : w3.cell? ⟨w.heap.size, 2, none⟩ = some (.slice ra rn' rc) := blk_cell T3.P 2
            have c3 : w3.cell? ⟨w.heap.size, 3, none⟩ = some (.slice sa sn' sc) := blk_cell T3.P 3
            have d0 : w3.cell? ⟨w.heap.size + 1, 0, none⟩ = some (.string pa') := blk_cell T3.A 0
            have d1 : w3.cell? ⟨w.heap.size + 1, 1, none⟩ = some (.slice aa na' ca) := blk_cell T3.A 1
            have d2 : w3.cell? ⟨w.heap.size + 1, 2, none⟩ = some (.string va') := blk_cell T3.A 2
            have d3 : w3.cell? ⟨w.heap.size + 1, 3, none⟩ = some (.string ma') := blk_cell T3.A 3
            have u0 : w3.cell? ⟨w.heap.size + 1 + 1, 0, none⟩ = some (.string pb') := blk_cell T3.B 0
            have u1 : w3.cell? ⟨w.heap.size + 1 + 1, 1, none⟩ = some (.slice ab nb' cb) := blk_cell T3.B 1
            have u2 : w3.cell? ⟨w.heap.size + 1 + 1, 2, none⟩ = some (.string vb') := blk_cell T3.B 2
            have u3 : w3.cell? ⟨w.heap.size + 1 + 1, 3, none⟩ = some (.string mb') := blk_cell T3.B 3
            go_wp2_with fail
            refine (smayr_any pb' ab nb' cb vb' mb' B _ (by omega) (by omega) (hIB.below T3.bl) hIBR).mono ?_
            rw [Q3.out]
            rintro e w4 ⟨rfl, b4⟩
            have T4 := T3.below b4
            clear b4 T3
            clear c0 c1 c2 c3 d0 d1 d2 d3 u0 u1 u2 u3
            have c0 : w4.cell? ⟨w.heap.size, 0, none⟩ = some (.bool p0) := blk_cell T4.P 0
            have c1 : w4.cell? ⟨w.heap.size, 1, none⟩ = some (.bool p1) := blk_cell T4.P 1
            have c2 : w4.cell? ⟨w.heap.size, 2, none⟩ = some (.slice ra rn' rc) := blk_cell T4.P 2
            have c3 : w4.cell? ⟨w.heap.size, 3, none⟩ = some (.slice sa sn' sc) := blk_cell T4.P 3
            have d0 : w4.cell? ⟨w.heap.size + 1, 0, none⟩ = some (.string pa') := blk_cell T4.A 0
            have d1 : w4.cell? ⟨w.heap.size + 1, 1, none⟩ = some (.slice aa na' ca) := blk_cell T4.A 1
            have d2 : w4.cell? ⟨w.heap.size + 1, 2, none⟩ = some (.string va') := blk_cell T4.A 2
            have d3 : w4.cell? ⟨w.heap.size + 1, 3, none⟩ = some (.string ma') := blk_cell T4.A 3
            have u0 : w4.cell? ⟨w.heap.size + 1 + 1, 0, none⟩ = some (.string pb') := blk_cell T4.B 0
            have u1 : w4.cell? ⟨w.heap.size + 1 + 1, 1, none⟩ = some (.slice ab nb' cb) := blk_cell T4.B 1
            have u2 : w4.cell? ⟨w.heap.size + 1 + 1, 2, none⟩ = some (.string vb') := blk_cell T4.B 2
            have u3 : w4.cell? ⟨w.heap.size + 1 + 1, 3, none⟩ = some (.string mb') := blk_cell T4.B 3
            go_wp2_with fail
            refine (ralike_any p0 p1 ra rn' rc sa sn' sc F T F' T' pa' aa na' ca va' ma' A pb' ab nb' cb vb' mb' B _ (hPol.below T4.bl) (by omega) (by omega) (by omega) (by omega) (by omega) (hIA.below T4.bl) (hIB.below T4.bl)).mono ?_
            rw [QB.out]
            rintro e w5 ⟨rfl, b5⟩
            have T5 := T4.below b5
            clear b5 T4
            clear c0 c1 c2 c3 d0 d1 d2 d3 u0 u1 u2 u3
            have c0 : w5.cell? ⟨w.heap.size, 0, none⟩ = some (.bool p0) := blk_cell T5.P 0
            have c1 : w5.cell? ⟨w.heap.size, 1, none⟩ = some (.bool p1) := blk_cell T5.P 1
            have c2 : w5.cell? ⟨w.heap.size, 2, none⟩ = some (.slice ra rn' rc) := blk_cell T5.P 2
            have c3 : w5.cell? ⟨w.heap.size, 3, none⟩ = some (.slice sa sn' sc) := blk_cell T5.P 3
            have d0 : w5.cell? ⟨w.heap.size + 1, 0, none⟩ = some (.string pa') := blk_cell T5.A 0
            have d1 : w5.cell? ⟨w.heap.size + 1, 1, none⟩ = some (.slice aa na' ca) := blk_cell T5.A 1
            have d2 : w5.cell? ⟨w.heap.size + 1, 2, none⟩ = some (.string va') := blk_cell T5.A 2
            have d3 : w5.cell? ⟨w.heap.size + 1, 3, none⟩ = some (.string ma') := blk_cell T5.A 3
            have u0 : w5.cell? ⟨w.heap.size + 1 + 1, 0, none⟩ = some (.string pb') := blk_cell T5.B 0
            have u1 : w5.cell? ⟨w.heap.size + 1 + 1, 1, none⟩ = some (.slice ab nb' cb) := blk_cell T5.B 1
            have u2 : w5.cell? ⟨w.heap.size + 1 + 1, 2, none⟩ = some (.string vb') := blk_cell T5.B 2
            have u3 : w5.cell? ⟨w.heap.size + 1 + 1, 3, none⟩ = some (.string mb') := blk_cell T5.B 3
            go_wp2_with fail
            refine (awake_any _).mono ?_
            rintro e wz ⟨rfl, bz⟩
            go_wp2
            go_ret
            exact ⟨rfl, T5.bl.trans (bz.mono T5.bl.size)⟩
          · rw [qb] at hre
            have QA := hidI hre; have QB := hidI qb; clear hre qb
            have qb := QB.out
            unfold ralkB at qb
            simp only [Bool.and_eq_true, decide_eq_true_eq] at qb
            obtain ⟨⟨⟨⟨⟨s1, s2, s3⟩, _⟩, hpad⟩, hsm⟩, hsv⟩ := qb
            have HFR : Hid (fr pa' = fr pb') := by show _ = _; unfold fr; rw [s1]
            have HPAD := hidI hpad
            have HSM : Hid (∀ i : Nat, inG F T rn' (i : Int) = true ∨ bt ma' i = bt mb' i) := fun i => by simpa [secB] using sec_same hsm s2 i
            have HSV : Hid (∀ i : Nat, inG F' T' sn' (i : Int) = true ∨ bt va' i = bt vb' i) := fun i => by simpa [secB] using sec_same hsv s3 i
            clear s1 s2 s3 hpad hsm hsv
            go_wp2_with fail
            refine (alike_any p0 p1 ra rn' rc sa sn' sc F T F' T' pa' aa na' ca va' ma' A pb' ab nb' cb vb' mb' B _ (hPol.below T0.bl) (by omega) (by omega) (by omega) (by omega) (by omega) (by omega) (by omega) (by omega) (hIA.below T0.bl) (hIB.below T0.bl)).mono ?_
            rw [QA.out]
            rintro e w1 ⟨rfl, b1⟩
            have T1 := T0.below b1
            clear b1 T0
            clear c0 c1 c2 c3 d0 d1 d2 d3 u0 u1 u2 u3
            have c0 : w1.cell? ⟨w.heap.size, 0, none⟩ = some (.bool p0) := blk_cell T1.P 0
            have c1 : w1.cell? ⟨w.heap.size, 1, none⟩ = some (.bool p1) := blk_cell T1.P 1
            have c2 : w1.cell? ⟨w.heap.size, 2, none⟩ = some (.slice ra rn' rc) := blk_cell T1.P 2
            have c3 : w1.cell? ⟨w.heap.size, 3, none⟩ = some (.slice sa sn' sc) := blk_cell T1.P 3
            have d0 : w1.cell? ⟨w.heap.size + 1, 0, none⟩ = some (.string pa') := blk_cell T1.A 0
            have d1 : w1.cell? ⟨w.heap.size + 1, 1, none⟩ = some (.slice aa na' ca) := blk_cell T1.A 1
            have d2 : w1.cell? ⟨w.heap.size + 1, 2, none⟩ = some (.string va') := blk_cell T1.A 2
            have d3 : w1.cell? ⟨w.heap.size + 1, 3, none⟩ = some (.string ma') := blk_cell T1.A 3
            have u0 : w1.cell? ⟨w.heap.size + 1 + 1, 0, none⟩ = some (.string pb') := blk_cell T1.B 0
            have u1 : w1.cell? ⟨w.heap.size + 1 + 1, 1, none⟩ = some (.slice ab nb' cb) := blk_cell T1.B 1
            have u2 : w1.cell? ⟨w.heap.size + 1 + 1, 2, none⟩ = some (.string vb') := blk_cell T1.B 2
            have u3 : w1.cell? ⟨w.heap.size + 1 + 1, 3, none⟩ = some (.string mb') := blk_cell T1.B 3
            go_wp2_with fail
            refine (may3_any p0 p1 ra rn' rc sa sn' sc F T F' T' _ (hPol.below T1.bl)).mono ?_
            rw [Q1.out]
            rintro e w2 ⟨rfl, b2⟩
            have T2 := T1.below b2
            clear b2 T1
            clear c0 c1 c2 c3 d0 d1 d2 d3 u0 u1 u2 u3
            have c0 : w2.cell? ⟨w.heap.size, 0, none⟩ = some (.bool p0) := blk_cell T2.P 0
            have c1 : w2.cell? ⟨w.heap.size, 1, none⟩ = some (.bool p1) := blk_cell T2.P 1
            have c2 : w2.cell? ⟨w.heap.size, 2, none⟩ = some (.slice ra rn' rc) := blk_cell T2.P 2
            have c3 : w2.cell? ⟨w.heap.size, 3, none⟩ = some (.slice sa sn' sc) := blk_cell T2.P 3
            have d0 : w2.cell? ⟨w.heap.size + 1, 0, none⟩ = some (.string pa') := blk_cell T2.A 0
            have d1 : w2.cell? ⟨w.heap.size + 1, 1, none⟩ = some (.slice aa na' ca) := blk_cell T2.A 1
            have d2 : w2.cell? ⟨w.heap.size + 1, 2, none⟩ = some (.string va') := blk_cell T2.A 2
            have d3 : w2.cell? ⟨w.heap.size + 1, 3, none⟩ = some (.string ma') := blk_cell T2.A 3
            have u0 : w2.cell? ⟨w.heap.size + 1 + 1, 0, none⟩ = some (.string pb') := blk_cell T2.B 0
            have u1 : w2.cell? ⟨w.heap.size + 1 + 1, 1, none⟩ = some (.slice ab nb' cb) := blk_cell T2.B 1
            have u2 : w2.cell? ⟨w.heap.size + 1 + 1, 2, none⟩ = some (.string vb') := blk_cell T2.B 2
            have u3 : w2.cell? ⟨w.heap.size + 1 + 1, 3, none⟩ = some (.string mb') := blk_cell T2.B 3
            go_wp2_with fail
            refine (smayr_any pa' aa na' ca va' ma' A _ (by omega) (by omega) (hIA.below T2.bl) hIAR).mono ?_
            rw [Q2.out]
            rintro e w3 ⟨rfl, b3⟩
            have T3 := T2.below b3
            clear b3 T2
            clear c0 c1 c2 c3 d0 d1 d2 d3 u0 u1 u2 u3
            have c0 : w3.cell? ⟨w.heap.size, 0, none⟩ = some (.bool p0) := blk_cell T3.P 0
            have c1 : w3.cell? ⟨w.heap.size, 1, none⟩ = some (.bool p1) := blk_cell T3.P 1
            have c2 : w3.cell? ⟨w.heap.size, 2, none⟩ = some (.slice ra rn' rc) := blk_cell T3.P 2
            have c3 : w3.cell? ⟨w.heap.size, 3, none⟩ = some (.slice sa sn' sc) := blk_cell T3.P 3
            have d0 : w3.cell? ⟨w.heap.size + 1, 0, none⟩ = some (.string pa') := blk_cell T3.A 0
            have d1 : w3.cell? ⟨w.heap.size + 1, 1, none⟩ = some (.slice aa na' ca) := blk_cell T3.A 1
            have d2 : w3.cell? ⟨w.heap.size + 1, 2, none⟩ = some (.string va') := blk_cell T3.A 2
            have d3 : w3.cell? ⟨w.heap.size + 1, 3, none⟩ = some (.string ma') := blk_cell T3.A 3
            have u0 : w3.cell? ⟨w.heap.size + 1 + 1, 0, none⟩ = some (.string pb') := blk_cell T3.B 0
            have u1 : w3.cell? ⟨w.heap.size + 1 + 1, 1, none⟩ = some (.slice ab nb' cb) := blk_cell T3.B 1
            have u2 : w3.cell? ⟨w.heap.size + 1 + 1, 2, none⟩ = some (.string vb') := blk_cell T3.B 2
            have u3 : w3.cell? ⟨w.heap.size + 1 + 1, 3, none⟩ = some (.string mb') := blk_cell T3.B 3
            go_wp2_with fail
            refine (smayr_any pb' ab nb' cb vb' mb' B _ (by omega) (by omega) (hIB.below T3.bl) hIBR).mono ?_
            rw [Q3.out]
            rintro e w4 ⟨rfl, b4⟩
            have T4 := T3.below b4
            clear b4 T3
            clear c0 c1 c2 c3 d0 d1 d2 d3 u0 u1 u2 u3
            have c0 : w4.cell? ⟨w.heap.size, 0, none⟩ = some (.bool p0) := blk_cell T4.P 0
            have c1 : w4.cell? ⟨w.heap.size, 1, none⟩ = some (.bool p1) := blk_cell T4.P 1
            have c2 : w4.cell? ⟨w.heap.size, 2, none⟩ = some (.slice ra rn' rc) := blk_cell T4.P 2
            have c3 : w4.cell? ⟨w.heap.size, 3, none⟩ = some (.slice sa sn' sc) := blk_cell T4.P 3
            have d0 : w4.cell? ⟨w.heap.size + 1, 0, none⟩ = some (.string pa') := blk_cell T4.A 0
            have d1 : w4.cell? ⟨w.heap.size + 1, 1, none⟩ = some (.slice aa na' ca) := blk_cell T4.A 1
            have d2 : w4.cell? ⟨w.heap.size + 1, 2, none⟩ = some (.string va') := blk_cell T4.A 2
            have d3 : w4.cell? ⟨w.heap.size + 1, 3, none⟩ = some (.string ma') := blk_cell T4.A 3
            have u0 : w4.cell? ⟨w.heap.size + 1 + 1, 0, none⟩ = some (.string pb') := blk_cell T4.B 0
            have u1 : w4.cell? ⟨w.heap.size + 1 + 1, 1, none⟩ = some (.slice ab nb' cb) := blk_cell T4.B 1
            have u2 : w4.cell? ⟨w.heap.size + 1 + 1, 2, none⟩ = some (.string vb') := blk_cell T4.B 2
            have u3 : w4.cell? ⟨w.heap.size + 1 + 1, 3, none⟩ = some (.string mb') := blk_cell T4.B 3
            go_wp2_with fail
            refine (ralike_any p0 p1 ra rn' rc sa sn' sc F T F' T' pa' aa na' ca va' ma' A pb' ab nb' cb vb' mb' B _ (hPol.below T4.bl) (by omega) (by omega) (by omega) (by omega) (by omega) (hIA.below T4.bl) (hIB.below T4.bl)).mono ?_
            rw [QB.out]
            rintro e w5 ⟨rfl, b5⟩
            have T5 := T4.below b5
            clear b5 T4
            clear c0 c1 c2 c3 d0 d1 d2 d3 u0 u1 u2 u3
            have c0 : w5.cell? ⟨w.heap.size, 0, none⟩ = some (.bool p0) := blk_cell T5.P 0
            have c1 : w5.cell? ⟨w.heap.size, 1, none⟩ = some (.bool p1) := blk_cell T5.P 1
            have c2 : w5.cell? ⟨w.heap.size, 2, none⟩ = some (.slice ra rn' rc) := blk_cell T5.P 2
            have c3 : w5.cell? ⟨w.heap.size, 3, none⟩ = some (.slice sa sn' sc) := blk_cell T5.P 3
            have d0 : w5.cell? ⟨w.heap.size + 1, 0, none⟩ = some (.string pa') := blk_cell T5.A 0
            have d1 : w5.cell? ⟨w.heap.size + 1, 1, none⟩ = some (.slice aa na' ca) := blk_cell T5.A 1
            have d2 : w5.cell? ⟨w.heap.size + 1, 2, none⟩ = some (.string va') := blk_cell T5.A 2
            have d3 : w5.cell? ⟨w.heap.size + 1, 3, none⟩ = some (.string ma') := blk_cell T5.A 3
            have u0 : w5.cell? ⟨w.heap.size + 1 + 1, 0, none⟩ = some (.string pb') := blk_cell T5.B 0
            have u1 : w5.cell? ⟨w.heap.size + 1 + 1, 1, none⟩ = some (.slice ab nb' cb) := blk_cell T5.B 1
            have u2 : w5.cell? ⟨w.heap.size + 1 + 1, 2, none⟩ = some (.string vb') := blk_cell T5.B 2
            have u3 : w5.cell? ⟨w.heap.size + 1 + 1, 3, none⟩ = some (.string mb') := blk_cell T5.B 3
            go_wp2_with fail
            refine (ram_yes p0 p1 ra rn' rc sa sn' sc F T F' T' pa' aa na' ca va' ma' A _ (hPol.below T5.bl) (by omega) (by omega) (hIA.below T5.bl) Q1.out Q2.out).mono ?_
            rintro e w6 ⟨g1, rfl, hg1, Og1, b6⟩
            have T6 := T5.below b6
            clear b6 T5
            clear c0 c1 c2 c3 d0 d1 d2 d3 u0 u1 u2 u3
            have c0 : w6.cell? ⟨w.heap.size, 0, none⟩ = some (.bool p0) := blk_cell T6.P 0
            have c1 : w6.cell? ⟨w.heap.size, 1, none⟩ = some (.bool p1) := blk_cell T6.P 1
            have c2 : w6.cell? ⟨w.heap.size, 2, none⟩ = some (.slice ra rn' rc) := blk_cell T6.P 2
            have c3 : w6.cell? ⟨w.heap.size, 3, none⟩ = some (.slice sa sn' sc) := blk_cell T6.P 3
            have d0 : w6.cell? ⟨w.heap.size + 1, 0, none⟩ = some (.string pa') := blk_cell T6.A 0
            have d1 : w6.cell? ⟨w.heap.size + 1, 1, none⟩ = some (.slice aa na' ca) := blk_cell T6.A 1
            have d2 : w6.cell? ⟨w.heap.size + 1, 2, none⟩ = some (.string va') := blk_cell T6.A 2
            have d3 : w6.cell? ⟨w.heap.size + 1, 3, none⟩ = some (.string ma') := blk_cell T6.A 3
            have u0 : w6.cell? ⟨w.heap.size + 1 + 1, 0, none⟩ = some (.string pb') := blk_cell T6.B 0
            have u1 : w6.cell? ⟨w.heap.size + 1 + 1, 1, none⟩ = some (.slice ab nb' cb) := blk_cell T6.B 1
            have u2 : w6.cell? ⟨w.heap.size + 1 + 1, 2, none⟩ = some (.string vb') := blk_cell T6.B 2
            have u3 : w6.cell? ⟨w.heap.size + 1 + 1, 3, none⟩ = some (.string mb') := blk_cell T6.B 3
            go_wp2_with fail
            refine (ram_yes p0 p1 ra rn' rc sa sn' sc F T F' T' pb' ab nb' cb vb' mb' B _ (hPol.below T6.bl) (by omega) (by omega) (hIB.below T6.bl) Q1.out Q3.out).mono ?_
            rintro e w7 ⟨g2, rfl, hg2, Og2, b7⟩
            replace Og1 := Og1.below b7
            have T7 := T6.below b7
            clear b7 T6
            clear c0 c1 c2 c3 d0 d1 d2 d3 u0 u1 u2 u3
            have c0 : w7.cell? ⟨w.heap.size, 0, none⟩ = some (.bool p0) := blk_cell T7.P 0
            have c1 : w7.cell? ⟨w.heap.size, 1, none⟩ = some (.bool p1) := blk_cell T7.P 1
            have c2 : w7.cell? ⟨w.heap.size, 2, none⟩ = some (.slice ra rn' rc) := blk_cell T7.P 2
            have c3 : w7.cell? ⟨w.heap.size, 3, none⟩ = some (.slice sa sn' sc) := blk_cell T7.P 3
            have d0 : w7.cell? ⟨w.heap.size + 1, 0, none⟩ = some (.string pa') := blk_cell T7.A 0
            have d1 : w7.cell? ⟨w.heap.size + 1, 1, none⟩ = some (.slice aa na' ca) := blk_cell T7.A 1
            have d2 : w7.cell? ⟨w.heap.size + 1, 2, none⟩ = some (.string va') := blk_cell T7.A 2
            have d3 : w7.cell? ⟨w.heap.size + 1, 3, none⟩ = some (.string ma') := blk_cell T7.A 3
            have u0 : w7.cell? ⟨w.heap.size + 1 + 1, 0, none⟩ = some (.string pb') := blk_cell T7.B 0
            have u1 : w7.cell? ⟨w.heap.size + 1 + 1, 1, none⟩ = some (.slice ab nb' cb) := blk_cell T7.B 1
            have u2 : w7.cell? ⟨w.heap.size + 1 + 1, 2, none⟩ = some (.string vb') := blk_cell T7.B 2
            have u3 : w7.cell? ⟨w.heap.size + 1 + 1, 3, none⟩ = some (.string mb') := blk_cell T7.B 3
            go_wp2_with fail
            refine (save_yes p0 p1 ra rn' rc sa sn' sc F T F' T' pa' aa na' ca va' ma' A _ (hPol.below T7.bl) (by omega) (by omega) (hIA.below T7.bl) Q1.out Q2.out).mono ?_
            rintro e w8 ⟨g3, rfl, hg3, Og3, b8⟩
            replace Og1 := Og1.below b8
            replace Og2 := Og2.below b8
            have T8 := T7.below b8
            clear b8 T7
            clear c0 c1 c2 c3 d0 d1 d2 d3 u0 u1 u2 u3
            have c0 : w8.cell? ⟨w.heap.size, 0, none⟩ = some (.bool p0) := blk_cell T8.P 0
            have c1 : w8.cell? ⟨w.heap.size, 1, none⟩ = some (.bool p1) := blk_cell T8.P 1
            have c2 : w8.cell? ⟨w.heap.size, 2, none⟩ = some (.slice ra rn' rc) := blk_cell T8.P 2
            have c3 : w8.cell? ⟨w.heap.size, 3, none⟩ = some (.slice sa sn' sc) := blk_cell T8.P 3
            have d0 : w8.cell? ⟨w.heap.size + 1, 0, none⟩ = some (.string pa') := blk_cell T8.A 0
            have d1 : w8.cell? ⟨w.heap.size + 1, 1, none⟩ = some (.slice aa na' ca) := blk_cell T8.A 1
            have d2 : w8.cell? ⟨w.heap.size + 1, 2, none⟩ = some (.string va') := blk_cell T8.A 2
            have d3 : w8.cell? ⟨w.heap.size + 1, 3, none⟩ = some (.string ma') := blk_cell T8.A 3
            have u0 : w8.cell? ⟨w.heap.size + 1 + 1, 0, none⟩ = some (.string pb') := blk_cell T8.B 0
            have u1 : w8.cell? ⟨w.heap.size + 1 + 1, 1, none⟩ = some (.slice ab nb' cb) := blk_cell T8.B 1
            have u2 : w8.cell? ⟨w.heap.size + 1 + 1, 2, none⟩ = some (.string vb') := blk_cell T8.B 2
            have u3 : w8.cell? ⟨w.heap.size + 1 + 1, 3, none⟩ = some (.string mb') := blk_cell T8.B 3
            go_wp2_with fail
            refine (save_yes p0 p1 ra rn' rc sa sn' sc F T F' T' pb' ab nb' cb vb' mb' B _ (hPol.below T8.bl) (by omega) (by omega) (hIB.below T8.bl) Q1.out Q3.out).mono ?_
            rintro e w9 ⟨g4, rfl, hg4, Og4, b9⟩
            replace Og1 := Og1.below b9
            replace Og2 := Og2.below b9
            replace Og3 := Og3.below b9
            have T9 := T8.below b9
            clear b9 T8
            clear c0 c1 c2 c3 d0 d1 d2 d3 u0 u1 u2 u3
            have c0 : w9.cell? ⟨w.heap.size, 0, none⟩ = some (.bool p0) := blk_cell T9.P 0
            have c1 : w9.cell? ⟨w.heap.size, 1, none⟩ = some (.bool p1) := blk_cell T9.P 1
            have c2 : w9.cell? ⟨w.heap.size, 2, none⟩ = some (.slice ra rn' rc) := blk_cell T9.P 2
            have c3 : w9.cell? ⟨w.heap.size, 3, none⟩ = some (.slice sa sn' sc) := blk_cell T9.P 3
            have d0 : w9.cell? ⟨w.heap.size + 1, 0, none⟩ = some (.string pa') := blk_cell T9.A 0
            have d1 : w9.cell? ⟨w.heap.size + 1, 1, none⟩ = some (.slice aa na' ca) := blk_cell T9.A 1
            have d2 : w9.cell? ⟨w.heap.size + 1, 2, none⟩ = some (.string va') := blk_cell T9.A 2
            have d3 : w9.cell? ⟨w.heap.size + 1, 3, none⟩ = some (.string ma') := blk_cell T9.A 3
            have u0 : w9.cell? ⟨w.heap.size + 1 + 1, 0, none⟩ = some (.string pb') := blk_cell T9.B 0
            have u1 : w9.cell? ⟨w.heap.size + 1 + 1, 1, none⟩ = some (.slice ab nb' cb) := blk_cell T9.B 1
            have u2 : w9.cell? ⟨w.heap.size + 1 + 1, 2, none⟩ = some (.string vb') := blk_cell T9.B 2
            have u3 : w9.cell? ⟨w.heap.size + 1 + 1, 3, none⟩ = some (.string mb') := blk_cell T9.B 3
            go_wp2_with fail
            refine (balike_some g1 g2 2048 2048 2048 _ _ _ _ _ (by omega) Og1 Og2 (fun i hi => ⟨rfl, HSM.out i⟩)).mono ?_
            rintro e w10 ⟨rfl, b10⟩
            replace Og3 := Og3.below b10
            replace Og4 := Og4.below b10
            have T10 := T9.below b10
            clear b10 T9
            clear c0 c1 c2 c3 d0 d1 d2 d3 u0 u1 u2 u3
            have c0 : w10.cell? ⟨w.heap.size, 0, none⟩ = some (.bool p0) := blk_cell T10.P 0
            have c1 : w10.cell? ⟨w.heap.size, 1, none⟩ = some (.bool p1) := blk_cell T10.P 1
            have c2 : w10.cell? ⟨w.heap.size, 2, none⟩ = some (.slice ra rn' rc) := blk_cell T10.P 2
            have c3 : w10.cell? ⟨w.heap.size, 3, none⟩ = some (.slice sa sn' sc) := blk_cell T10.P 3
            have d0 : w10.cell? ⟨w.heap.size + 1, 0, none⟩ = some (.string pa') := blk_cell T10.A 0
            have d1 : w10.cell? ⟨w.heap.size + 1, 1, none⟩ = some (.slice aa na' ca) := blk_cell T10.A 1
            have d2 : w10.cell? ⟨w.heap.size + 1, 2, none⟩ = some (.string va') := blk_cell T10.A 2
            have d3 : w10.cell? ⟨w.heap.size + 1, 3, none⟩ = some (.string ma') := blk_cell T10.A 3
            have u0 : w10.cell? ⟨w.heap.size + 1 + 1, 0, none⟩ = some (.string pb') := blk_cell T10.B 0
            have u1 : w10.cell? ⟨w.heap.size + 1 + 1, 1, none⟩ = some (.slice ab nb' cb) := blk_cell T10.B 1
            have u2 : w10.cell? ⟨w.heap.size + 1 + 1, 2, none⟩ = some (.string vb') := blk_cell T10.B 2
            have u3 : w10.cell? ⟨w.heap.size + 1 + 1, 3, none⟩ = some (.string mb') := blk_cell T10.B 3
            go_wp2_with fail
            refine (balike_some g3 g4 8192 8192 8192 _ _ _ _ _ (by omega) Og3 Og4 (fun i hi => ⟨rfl, HSV.out i⟩)).mono ?_
            rintro e w11 ⟨rfl, b11⟩
            have T11 := T10.below b11
            clear b11 T10
            clear c0 c1 c2 c3 d0 d1 d2 d3 u0 u1 u2 u3
            have c0 : w11.cell? ⟨w.heap.size, 0, none⟩ = some (.bool p0) := blk_cell T11.P 0
            have c1 : w11.cell? ⟨w.heap.size, 1, none⟩ = some (.bool p1) := blk_cell T11.P 1
            have c2 : w11.cell? ⟨w.heap.size, 2, none⟩ = some (.slice ra rn' rc) := blk_cell T11.P 2
            have c3 : w11.cell? ⟨w.heap.size, 3, none⟩ = some (.slice sa sn' sc) := blk_cell T11.P 3
            have d0 : w11.cell? ⟨w.heap.size + 1, 0, none⟩ = some (.string pa') := blk_cell T11.A 0
            have d1 : w11.cell? ⟨w.heap.size + 1, 1, none⟩ = some (.slice aa na' ca) := blk_cell T11.A 1
            have d2 : w11.cell? ⟨w.heap.size + 1, 2, none⟩ = some (.string va') := blk_cell T11.A 2
            have d3 : w11.cell? ⟨w.heap.size + 1, 3, none⟩ = some (.string ma') := blk_cell T11.A 3
            have u0 : w11.cell? ⟨w.heap.size + 1 + 1, 0, none⟩ = some (.string pb') := blk_cell T11.B 0
            have u1 : w11.cell? ⟨w.heap.size + 1 + 1, 1, none⟩ = some (.slice ab nb' cb) := blk_cell T11.B 1
            have u2 : w11.cell? ⟨w.heap.size + 1 + 1, 2, none⟩ = some (.string vb') := blk_cell T11.B 2
            have u3 : w11.cell? ⟨w.heap.size + 1 + 1, 3, none⟩ = some (.string mb') := blk_cell T11.B 3
            go_wp2_with fail
            go_loopw [16] (fun i wr => ∃ k : Nat, k ≤ fr pa' ∧ i = .int .i64 k ∧ Tri w wr p0 p1 ra rn' rc sa sn' sc pa' aa na' ca va' ma' pb' ab nb' cb vb' mb') (fun i _ => fr pa' - (intOf i).toNat)
            case atStart => exact ⟨0, Nat.zero_le _, rfl, by assumption⟩
            case round =>
              obtain ⟨k, hk, rfl, Tr⟩ := hrel
              clear c0 c1 c2 c3 d0 d1 d2 d3 u0 u1 u2 u3
              have c0 : wr.cell? ⟨w.heap.size, 0, none⟩ = some (.bool p0) := blk_cell Tr.P 0
              have c1 : wr.cell? ⟨w.heap.size, 1, none⟩ = some (.bool p1) := blk_cell Tr.P 1
              have c2 : wr.cell? ⟨w.heap.size, 2, none⟩ = some (.slice ra rn' rc) := blk_cell Tr.P 2
              have c3 : wr.cell? ⟨w.heap.size, 3, none⟩ = some (.slice sa sn' sc) := blk_cell Tr.P 3
              have d0 : wr.cell? ⟨w.heap.size + 1, 0, none⟩ = some (.string pa') := blk_cell Tr.A 0
              have d1 : wr.cell? ⟨w.heap.size + 1, 1, none⟩ = some (.slice aa na' ca) := blk_cell Tr.A 1
              have d2 : wr.cell? ⟨w.heap.size + 1, 2, none⟩ = some (.string va') := blk_cell Tr.A 2
              have d3 : wr.cell? ⟨w.heap.size + 1, 3, none⟩ = some (.string ma') := blk_cell Tr.A 3
              have u0 : wr.cell? ⟨w.heap.size + 1 + 1, 0, none⟩ = some (.string pb') := blk_cell Tr.B 0
              have u1 : wr.cell? ⟨w.heap.size + 1 + 1, 1, none⟩ = some (.slice ab nb' cb) := blk_cell Tr.B 1
              have u2 : wr.cell? ⟨w.heap.size + 1 + 1, 2, none⟩ = some (.string vb') := blk_cell Tr.B 2
              have u3 : wr.cell? ⟨w.heap.size + 1 + 1, 3, none⟩ = some (.string mb') := blk_cell Tr.B 3
              by_cases hlt : k < fr pa'
              · have hkf := hlt
                have hkf' : k < fr pb' := by rw [← HFR.out]; exact hlt
                have hlt' : (k : Int) < (pa'.size : Int) / 2 := by unfold fr at hlt; omega
                obtain ⟨wo, rfl⟩ : ∃ wo, wo = wr := ⟨_, rfl⟩
                go_wp2_with fail
                clear c0 c1 c2 c3 d0 d1 d2 d3 u0 u1 u2 u3
                go_loopw [17] (fun i wr => ∃ j : Nat, j ≤ 2 ∧ i = .int .i64 j ∧ Tri w wr p0 p1 ra rn' rc sa sn' sc pa' aa na' ca va' ma' pb' ab nb' cb vb' mb') (fun i _ => 2 - (intOf i).toNat)
                case atStart => exact ⟨0, by omega, rfl, Tr⟩
                case round =>
                  obtain ⟨j, hj, rfl, Tq⟩ := hrel
                  have Td := Tq.below (Below.refl wr.heap.size wr).drew
                  by_cases hj2 : j < 2
                  · have hj2' : (j : Int) < 2 := by omega
                    have hj0 : (0 : Int) ≤ (j : Int) := by omega
                    have hok := pad_get HPAD.out hkf hj2
                    obtain ⟨pv, hpv⟩ : ∃ pv, pv = (if j = 0 then p0 else p1) := ⟨_, rfl⟩
                    have HPV := hidI hpv; clear hpv
                    obtain ⟨x, hx⟩ : ∃ x, x = bt pa' (2 * k + j) := ⟨_, rfl⟩
                    have p9 : wr.cell? ⟨w.heap.size, j, none⟩ = some (.bool pv) := port_cell Tq.P hj2 HPV.out
                    have c0 : wr.cell? ⟨w.heap.size, 0, none⟩ = some (.bool p0) := blk_cell Tq.P 0
                    have c1 : wr.cell? ⟨w.heap.size, 1, none⟩ = some (.bool p1) := blk_cell Tq.P 1
                    have c2 : wr.cell? ⟨w.heap.size, 2, none⟩ = some (.slice ra rn' rc) := blk_cell Tq.P 2
                    have c3 : wr.cell? ⟨w.heap.size, 3, none⟩ = some (.slice sa sn' sc) := blk_cell Tq.P 3
                    have d0 : wr.cell? ⟨w.heap.size + 1, 0, none⟩ = some (.string pa') := blk_cell Tq.A 0
                    have d1 : wr.cell? ⟨w.heap.size + 1, 1, none⟩ = some (.slice aa na' ca) := blk_cell Tq.A 1
                    have d2 : wr.cell? ⟨w.heap.size + 1, 2, none⟩ = some (.string va') := blk_cell Tq.A 2
                    have d3 : wr.cell? ⟨w.heap.size + 1, 3, none⟩ = some (.string ma') := blk_cell Tq.A 3
                    have u0 : wr.cell? ⟨w.heap.size + 1 + 1, 0, none⟩ = some (.string pb') := blk_cell Tq.B 0
                    have u1 : wr.cell? ⟨w.heap.size + 1 + 1, 1, none⟩ = some (.slice ab nb' cb) := blk_cell Tq.B 1
                    have u2 : wr.cell? ⟨w.heap.size + 1 + 1, 2, none⟩ = some (.string vb') := blk_cell Tq.B 2
                    have u3 : wr.cell? ⟨w.heap.size + 1 + 1, 3, none⟩ = some (.string mb') := blk_cell Tq.B 3
                    cases pv
                    · have hy : x = bt pb' (2 * k + j) := by
                        unfold padOk at hok
                        rw [← HPV.out, ← hx] at hok
                        simpa using hok
                      have Hx := hidI hx; have Hy := hidI hy; clear hx hy hok
                      go_upto_region 19 with fail
                      refine wp_region_noPanic ?_
                      refine wp_region_held_drew (S := (fun w' => w'.cell? ⟨w.heap.size, j, none⟩ = some (.bool false) ∧ w'.cell? ⟨w.heap.size + 1, 0, none⟩ = some (.string pa') ∧ w'.cell? ⟨w.heap.size + 1, 1, none⟩ = some (.slice aa na' ca) ∧ w'.cell? ⟨w.heap.size + 1, 2, none⟩ = some (.string va') ∧ w'.cell? ⟨w.heap.size + 1, 3, none⟩ = some (.string ma') ∧ w'.cell? ⟨w.heap.size + 1 + 1, 0, none⟩ = some (.string pb') ∧ w'.cell? ⟨w.heap.size + 1 + 1, 1, none⟩ = some (.slice ab nb' cb) ∧ w'.cell? ⟨w.heap.size + 1 + 1, 2, none⟩ = some (.string vb') ∧ w'.cell? ⟨w.heap.size + 1 + 1, 3, none⟩ = some (.string mb'))) (by kernel_rfl) ⟨port_cell Tq.P hj2 HPV.out, blk_cell Tq.A 0, blk_cell Tq.A 1, blk_cell Tq.A 2, blk_cell Tq.A 3, blk_cell Tq.B 0, blk_cell Tq.B 1, blk_cell Tq.B 2, blk_cell Tq.B 3⟩ (fun hHeld => ?_)
                      refine tk 0 (oi := ⟨_, _, _, _, _, _⟩) (v := ?_) rfl (by rfl) ?_ (by assumption) ?_; rotate_left; (focus (intro w hSw; (try dsimp only at hSw); go_simp; with_reducible rfl)); simp only [Act.put, tA, tB, tC]
                      refine tk 1 (oi := ⟨_, _, _, _, _, _⟩) (v := ?_) rfl (by rfl) ?_ (by assumption) ?_; rotate_left; (focus (intro w hSw; (try dsimp only at hSw); go_simp; with_reducible rfl)); simp only [Act.put, tA, tB, tC]
                      refine tk 2 (oi := ⟨_, _, _, _, _, _⟩) (v := ?_) rfl (by rfl) ?_ (by assumption) ?_; rotate_left; (focus (intro w hSw; (try dsimp only at hSw); go_simp; with_reducible rfl)); simp only [Act.put, tA, tB, tC]
                      refine tk 3 (oi := ⟨_, _, _, _, _, _⟩) (v := ?_) rfl (by rfl) ?_ (by assumption) ?_; rotate_left; (focus (intro w hSw; (try dsimp only at hSw); go_simp; with_reducible rfl)); simp only [Act.put, tA, tB, tC]
                      refine tk 4 (oi := ⟨_, _, _, _, _, _⟩) (v := ?_) rfl (by rfl) ?_ (by assumption) ?_; rotate_left; (focus (intro w hSw; (try dsimp only at hSw); go_simp; with_reducible rfl)); simp only [Act.put, tA, tB, tC]
                      refine tk 5 (oi := ⟨_, _, _, _, _, _⟩) (v := ?_) rfl (by rfl) ?_ (by assumption) ?_; rotate_left; (focus (intro w hSw; (try dsimp only at hSw); go_simp; with_reducible rfl)); simp only [Act.put, tA, tB, tC]
                      refine tk 6 (oi := ⟨_, _, _, _, _, _⟩) (v := ?_) rfl (by rfl) ?_ (by assumption) ?_; rotate_left; (focus (intro w hSw; (try dsimp only at hSw); go_simp; with_reducible rfl)); simp only [Act.put, tA, tB, tC]
                      refine tk 7 (oi := ⟨_, _, _, _, _, _⟩) (v := ?_) rfl (by rfl) ?_ (by assumption) ?_; rotate_left; (focus (intro w hSw; (try dsimp only at hSw); go_simp; with_reducible rfl)); simp only [Act.put, tA, tB, tC]
                      refine tk 8 (oi := ⟨_, _, _, _, _, _⟩) (v := ?_) rfl (by rfl) ?_ (by assumption) ?_; rotate_left; (focus (intro w hSw; (try dsimp only at hSw); go_simp; with_reducible rfl)); simp only [Act.put, tA, tB, tC]
                      refine tk 10 (oi := ⟨_, _, _, _, _, _⟩) (v := ?_) rfl (by rfl) ?_ (by assumption) ?_; rotate_left; (focus (intro w hSw; (try dsimp only at hSw); go_simp; with_reducible rfl)); simp only [Act.put, tA, tB, tC]
                      refine tk 11 (oi := ⟨_, _, _, _, _, _⟩) (v := ?_) rfl (by rfl) ?_ (by assumption) ?_; rotate_left; (focus (intro w hSw; (try dsimp only at hSw); go_simp; with_reducible rfl)); simp only [Act.put, tA, tB, tC]
                      refine tk 12 (oi := ⟨_, _, _, _, _, _⟩) (v := ?_) rfl (by rfl) ?_ (by assumption) ?_; rotate_left; (focus (intro w hSw; (try dsimp only at hSw); go_simp; with_reducible rfl)); simp only [Act.put, tA, tB, tC]
                      refine wpAnyH_ready (rs := [9]) (by kernel_rfl) (by simp) ?_
                      refine AllReadyH.cons (o := ⟨_, _, _, _, _, _⟩) rfl (fun K hK => ?_) (AllReadyH.nil)
                      go_simp
                      refine (pad_is pa' aa na' ca va' ma' k j _ x (by omega) hkf hj2 Hx.out).mono ?_
                      rintro e w9 ⟨rfl, b9⟩
                      have T9 := Td.below b9
                      refine hK.out _ _ ⟨port_cell T9.P hj2 HPV.out, blk_cell T9.A 0, blk_cell T9.A 1, blk_cell T9.A 2, blk_cell T9.A 3, blk_cell T9.B 0, blk_cell T9.B 1, blk_cell T9.B 2, blk_cell T9.B 3⟩ (fun hHeld => ?_)
                      clear hK K
                      refine wpAnyH_ready (rs := [13]) (by kernel_rfl) (by simp) ?_
                      refine AllReadyH.cons (o := ⟨_, _, _, _, _, _⟩) rfl (fun K hK => ?_) (AllReadyH.nil)
                      go_simp
                      refine (pad_is pb' ab nb' cb vb' mb' k j _ x (by omega) hkf' hj2 Hy.out).mono ?_
                      rintro e w13 ⟨rfl, b13⟩
                      have T13 := T9.below b13
                      refine hK.out _ _ ⟨port_cell T13.P hj2 HPV.out, blk_cell T13.A 0, blk_cell T13.A 1, blk_cell T13.A 2, blk_cell T13.A 3, blk_cell T13.B 0, blk_cell T13.B 1, blk_cell T13.B 2, blk_cell T13.B 3⟩ (fun hHeld => ?_)
                      clear hK K
                      refine tk 14 (oi := ⟨_, _, _, _, _, _⟩) (v := ?_) rfl (by rfl) ?_ (by assumption) ?_; rotate_left; (focus (intro w hSw; (try dsimp only at hSw); go_simp; with_reducible rfl)); simp only [Act.put, tA, tB, tC]
                      refine tk 15 (oi := ⟨_, _, _, _, _, _⟩) (v := ?_) rfl (by rfl) ?_ (by assumption) ?_; rotate_left; (focus (intro w hSw; (try dsimp only at hSw); go_simp; with_reducible rfl)); simp only [Act.put, tA, tB, tC]
                      refine wpAnyH_done (by kernel_rfl) (NoPanic.normal ?_) _
                      go_wp2_with fail
                      go_roundw
                      case rel => exact ⟨j + 1, by omega, by simp, T13⟩
                      case measure => simp [intOf]; omega
                    · clear hok hx
                      go_upto_region 19 with fail
                      refine wp_region_noPanic ?_
                      refine wp_region_held_drew (S := (fun w' => w'.cell? ⟨w.heap.size, j, none⟩ = some (.bool true) ∧ w'.cell? ⟨w.heap.size + 1, 0, none⟩ = some (.string pa') ∧ w'.cell? ⟨w.heap.size + 1, 1, none⟩ = some (.slice aa na' ca) ∧ w'.cell? ⟨w.heap.size + 1, 2, none⟩ = some (.string va') ∧ w'.cell? ⟨w.heap.size + 1, 3, none⟩ = some (.string ma') ∧ w'.cell? ⟨w.heap.size + 1 + 1, 0, none⟩ = some (.string pb') ∧ w'.cell? ⟨w.heap.size + 1 + 1, 1, none⟩ = some (.slice ab nb' cb) ∧ w'.cell? ⟨w.heap.size + 1 + 1, 2, none⟩ = some (.string vb') ∧ w'.cell? ⟨w.heap.size + 1 + 1, 3, none⟩ = some (.string mb'))) (by kernel_rfl) ⟨port_cell Tq.P hj2 HPV.out, blk_cell Tq.A 0, blk_cell Tq.A 1, blk_cell Tq.A 2, blk_cell Tq.A 3, blk_cell Tq.B 0, blk_cell Tq.B 1, blk_cell Tq.B 2, blk_cell Tq.B 3⟩ (fun hHeld => ?_)
                      refine tk 0 (oi := ⟨_, _, _, _, _, _⟩) (v := ?_) rfl (by rfl) ?_ (by assumption) ?_; rotate_left; (focus (intro w hSw; (try dsimp only at hSw); go_simp; with_reducible rfl)); simp only [Act.put, tA, tB, tC]
                      refine tk 1 (oi := ⟨_, _, _, _, _, _⟩) (v := ?_) rfl (by rfl) ?_ (by assumption) ?_; rotate_left; (focus (intro w hSw; (try dsimp only at hSw); go_simp; with_reducible rfl)); simp only [Act.put, tA, tB, tC]
                      refine tk 2 (oi := ⟨_, _, _, _, _, _⟩) (v := ?_) rfl (by rfl) ?_ (by assumption) ?_; rotate_left; (focus (intro w hSw; (try dsimp only at hSw); go_simp; with_reducible rfl)); simp only [Act.put, tA, tB, tC]
                      refine tk 3 (oi := ⟨_, _, _, _, _, _⟩) (v := ?_) rfl (by rfl) ?_ (by assumption) ?_; rotate_left; (focus (intro w hSw; (try dsimp only at hSw); go_simp; with_reducible rfl)); simp only [Act.put, tA, tB, tC]
                      refine tk 4 (oi := ⟨_, _, _, _, _, _⟩) (v := ?_) rfl (by rfl) ?_ (by assumption) ?_; rotate_left; (focus (intro w hSw; (try dsimp only at hSw); go_simp; with_reducible rfl)); simp only [Act.put, tA, tB, tC]
                      refine tk 5 (oi := ⟨_, _, _, _, _, _⟩) (v := ?_) rfl (by rfl) ?_ (by assumption) ?_; rotate_left; (focus (intro w hSw; (try dsimp only at hSw); go_simp; with_reducible rfl)); simp only [Act.put, tA, tB, tC]
                      refine tn 6 (oi := ⟨_, _, _, _, _, _⟩) rfl (by rfl) (by assumption) ?_; simp only [Act.put, tA, tB, tC]
                      refine tn 7 (oi := ⟨_, _, _, _, _, _⟩) rfl (by rfl) (by assumption) ?_; simp only [Act.put, tA, tB, tC]
                      refine tn 8 (oi := ⟨_, _, _, _, _, _⟩) rfl (by rfl) (by assumption) ?_; simp only [Act.put, tA, tB, tC]
                      refine tn 9 (oi := ⟨_, _, _, _, _, _⟩) rfl (by rfl) (by assumption) ?_; simp only [Act.put, tA, tB, tC]
                      refine tn 10 (oi := ⟨_, _, _, _, _, _⟩) rfl (by rfl) (by assumption) ?_; simp only [Act.put, tA, tB, tC]
                      refine tn 11 (oi := ⟨_, _, _, _, _, _⟩) rfl (by rfl) (by assumption) ?_; simp only [Act.put, tA, tB, tC]
                      refine tn 12 (oi := ⟨_, _, _, _, _, _⟩) rfl (by rfl) (by assumption) ?_; simp only [Act.put, tA, tB, tC]
                      refine tn 13 (oi := ⟨_, _, _, _, _, _⟩) rfl (by rfl) (by assumption) ?_; simp only [Act.put, tA, tB, tC]
                      refine tn 14 (oi := ⟨_, _, _, _, _, _⟩) rfl (by rfl) (by assumption) ?_; simp only [Act.put, tA, tB, tC]
                      refine tk 15 (oi := ⟨_, _, _, _, _, _⟩) (v := ?_) rfl (by rfl) ?_ (by assumption) ?_; rotate_left; (focus (intro w hSw; (try dsimp only at hSw); go_simp; with_reducible rfl)); simp only [Act.put, tA, tB, tC]
                      refine wpAnyH_done (by kernel_rfl) (NoPanic.normal ?_) _
                      go_wp2_with fail
                      go_roundw
                      case rel => exact ⟨j + 1, by omega, by simp, Td⟩
                      case measure => simp [intOf]; omega
                  · obtain rfl : j = 2 := by omega
                    go_wp2_with fail
                    go_roundw
                    case rel => exact ⟨k + 1, by omega, by simp, Tq⟩
                    case measure => simp [intOf]; omega
              · obtain rfl : k = fr pa' := by omega
                have hlt' : ¬ ((fr pa' : Int) < (pa'.size : Int) / 2) := by unfold fr; omega
                go_wp2_with fail
                refine (awake_any _).mono ?_
                rintro e wz ⟨rfl, bz⟩
                go_wp2
                go_ret
                exact ⟨rfl, Tr.bl.trans (bz.mono Tr.bl.size)⟩
end Go.Proofs.Ytkhjfcbloahjeaa
