import Derived.Test.YtkhjfcbloahjeaaPa3b
namespace Go.Proofs.Ytkhjfcbloahjeaa
open Go.RowKit Go.Sx
/-- A script in a block of its own. -/
def ScAt (w : World) (g : Nat) (p : ByteArray) (ao : Option Addr) (n c : Nat) (sv rm : ByteArray) : Prop := w.heap[g]? = some (.cells #[.string p, .slice ao n c, .string sv, .string rm] 28 (0, 0))
theorem ScAt.new (w : World) (p : ByteArray) (ao : Option Addr) (n c : Nat) (sv rm : ByteArray) : ScAt (w.alloc (.cells #[.string p, .slice ao n c, .string sv, .string rm] 28)) w.heap.size p ao n c sv rm := blk_new _ _
theorem ScAt.below {w w' : World} {g : Nat} {p : ByteArray} {ao : Option Addr} {n c : Nat} {sv rm : ByteArray} (h : ScAt w g p ao n c sv rm) (hb : Below w.heap.size w w') : ScAt w' g p ao n c sv rm := (hb.block _ (blk_lt h)).trans h
theorem ScAt.set {w : World} {g : Nat} {p p' : ByteArray} {ao ao' : Option Addr} {n c n' c' : Nat} {sv rm sv' rm' : ByteArray} (h : ScAt w g p ao n c sv rm) :
    ScAt ((((w.setCell ⟨g, 0, none⟩ (.string p')).setCell ⟨g, 1, none⟩ (.slice ao' n' c')).setCell ⟨g, 2, none⟩ (.string sv')).setCell ⟨g, 3, none⟩ (.string rm')) g p' ao' n' c' sv' rm' := by
  have := blk_set (blk_set (blk_set (blk_set h 0 (.string p')) 1 (.slice ao' n' c')) 2 (.string sv')) 3 (.string rm')
  simpa [ScAt] using this
theorem b4 {w0 w : World} {A B : Nat} (h : Below A w0 w) (hB : A ≤ B) (v0 v1 v2 v3 : Value) : Below A w0 ((((w.setCell ⟨B, 0, none⟩ v0).setCell ⟨B, 1, none⟩ v1).setCell ⟨B, 2, none⟩ v2).setCell ⟨B, 3, none⟩ v3) :=
  (((h.setCell (p := ⟨B, 0, none⟩) hB v0).setCell (p := ⟨B, 1, none⟩) hB v1).setCell (p := ⟨B, 2, none⟩) hB v2).setCell (p := ⟨B, 3, none⟩) hB v3
theorem pad_is (p : ByteArray) (ao : Option Addr) (n c : Nat) (sv rm : ByteArray) (f o : Nat) (w : World) (v : Int) (hp : p.size ≤ 1000000) (hf : f < fr p) (ho : o < 2) (hv : v = bt p (2 * f + o)) : Calls Try.prog 19 #[scV p ao n c sv rm, .int .i64 f, .int .i64 o] w fun e w' => e = .returned (.int .u8 v) ∧ Below w.heap.size w w' := by
  rw [hv]; exact pad_yes p ao n c sv rm f o w hp hf ho
set_option maxRecDepth 100000 in
set_option maxHeartbeats 16000000 in
theorem pads_law (p : ByteArray) (ao : Option Addr) (n c : Nat) (sv rm : ByteArray) (R : Nat → Int) (w : World) (hc : n ≤ c) (h : IntsAt w ao n R) :
    Calls Try.prog 5 #[scV p ao n c sv rm] w fun e w' => e = .returned (.bool true) ∧ Below w.heap.size w w' := by
  go_enter Try.func5, Try.ntmps5
  go_wp2_with fail
  refine (few_any p ao n c sv rm _ hc).mono ?_
  rintro e w1 ⟨⟨p', n', sv', rm', rfl, hp, hn, hn', hsv, hrm⟩, b1⟩
  have S1 := (ScAt.new w p ao n c sv rm).below b1
  have B1 := ((Below.refl w.heap.size w).alloc (Nat.le_refl _) (.cells #[.string p, .slice ao n c, .string sv, .string rm] 28)).trans (b1.mono (by simp))
  clear b1
  have c0 : w1.cell? ⟨w.heap.size, 0, none⟩ = some (.string p) := blk_cell S1 0
  have c1 : w1.cell? ⟨w.heap.size, 1, none⟩ = some (.slice ao n c) := blk_cell S1 1
  have c2 : w1.cell? ⟨w.heap.size, 2, none⟩ = some (.string sv) := blk_cell S1 2
  have c3 : w1.cell? ⟨w.heap.size, 3, none⟩ = some (.string rm) := blk_cell S1 3
  have f0 : w1.frozen? ⟨w.heap.size, 0, none⟩ = false := blk_free S1 0
  have f1 : w1.frozen? ⟨w.heap.size, 1, none⟩ = false := blk_free S1 1
  have f2 : w1.frozen? ⟨w.heap.size, 2, none⟩ = false := blk_free S1 2
  have f3 : w1.frozen? ⟨w.heap.size, 3, none⟩ = false := blk_free S1 3
  go_wp2_with fail
  -- REST
  clear c0 c1 c2 c3 f0 f1 f2 f3
  have S2 := S1.set (p' := p') (ao' := ao) (n' := n') (c' := c) (sv' := sv') (rm' := rm')
  have B2 := b4 B1 (Nat.le_refl w.heap.size) (.string p') (.slice ao n' c) (.string sv') (.string rm')
  obtain ⟨w2, hw2⟩ : ∃ w2, w2 = ((((w1.setCell ⟨w.heap.size, 0, none⟩ (.string p')).setCell ⟨w.heap.size, 1, none⟩ (.slice ao n' c)).setCell ⟨w.heap.size, 2, none⟩ (.string sv')).setCell ⟨w.heap.size, 3, none⟩ (.string rm')) := ⟨_, rfl⟩
  rw [← hw2] at S2 B2 ⊢
  clear hw2 S1 B1 w1
  have I2 : IntsAt w2 ao n' R := fun i hi => (h.below B2) i (by omega)
  have hp6 : p'.size ≤ 1000000 := by omega
  refine (check_any p' ao n' c sv' rm' R _ hp6 (by omega) I2).mono ?_
  rintro e w3 ⟨rfl, b3⟩
  have S3 := S2.below b3
  have B3 := B2.trans (b3.mono B2.size)
  have I3 : IntsAt w3 ao n' R := I2.below b3
  clear b3 S2 B2 I2
  have c0 : w3.cell? ⟨w.heap.size, 0, none⟩ = some (.string p') := blk_cell S3 0
  have c1 : w3.cell? ⟨w.heap.size, 1, none⟩ = some (.slice ao n' c) := blk_cell S3 1
  have c2 : w3.cell? ⟨w.heap.size, 2, none⟩ = some (.string sv') := blk_cell S3 2
  have c3 : w3.cell? ⟨w.heap.size, 3, none⟩ = some (.string rm') := blk_cell S3 3
  cases hm : maySB p' n' sv' rm' R
  · simp only [Bool.false_eq_true, if_false]
    go_wp2_with fail
    refine (awake_any _).mono ?_
    rintro e w4 ⟨rfl, b4⟩
    go_wp2
    go_ret
    exact ⟨rfl, B3.trans (b4.mono B3.size)⟩
  · simp only [if_true]
    unfold maySB at hm
    rw [Bool.and_eq_true, decide_eq_true_iff] at hm
    obtain ⟨⟨h1, h2, h3, h4⟩, hck⟩ := hm
    have HCK := hidI hck; clear hck
    have e2 : 2 * (fr p' : Int) = p'.size := by unfold fr; omega
    have hlen : p'.size = 2 * fr p' := by omega
    have H1 := hidI h1; clear h1
    go_wp2_with fail
    refine (frames_any p' ao n' c sv' rm' _ hp6).mono ?_
    rintro e w4 ⟨rfl, b4⟩
    have S4 := S3.below b4
    have B4 := B3.trans (b4.mono B3.size)
    have I4 : IntsAt w4 ao n' R := I3.below b4
    clear b4 S3 B3 I3 c0 c1 c2 c3
    have HL := hidI hlen; clear hlen
    have c0 : w4.cell? ⟨w.heap.size, 0, none⟩ = some (.string p') := blk_cell S4 0
    have c1 : w4.cell? ⟨w.heap.size, 1, none⟩ = some (.slice ao n' c) := blk_cell S4 1
    have c2 : w4.cell? ⟨w.heap.size, 2, none⟩ = some (.string sv') := blk_cell S4 2
    have c3 : w4.cell? ⟨w.heap.size, 3, none⟩ = some (.string rm') := blk_cell S4 3
    go_wp2_with fail
    clear c0 c1 c2 c3
    go_loopw [4] (fun i wr => ∃ k : Nat, k ≤ fr p' ∧ i = .int .i64 k ∧ Below w4.heap.size w4 wr) (fun i _ => fr p' - (intOf i).toNat)
    case atStart => exact ⟨0, Nat.zero_le _, rfl, Below.refl _ _⟩
    case round =>
      obtain ⟨k, hk, rfl, hbl⟩ := hrel
      have Sr := S4.below hbl
      by_cases hlt : k < fr p'
      · obtain ⟨v0, hv0⟩ : ∃ v0, v0 = bt p' (2 * k + 0) := ⟨_, rfl⟩
        obtain ⟨v1, hv1⟩ : ∃ v1, v1 = bt p' (2 * k + 1) := ⟨_, rfl⟩
        have hi0 : 2 * k < p'.size := by rw [HL.out]; omega
        have hi1 : 2 * k + 1 < p'.size := by rw [HL.out]; omega
        have x0 : ((p'[2 * k]'hi0).toNat : Int) = v0 := (bt_eq p' _ hi0).trans hv0.symm
        have x1 : ((p'[2 * k + 1]'hi1).toNat : Int) = v1 := (bt_eq p' _ hi1).trans hv1.symm
        have HV0 := hidI hv0; clear hv0
        have HV1 := hidI hv1; clear hv1
        have z1 : IntKind.i64.wrap (2 * (k : Int)) = 2 * k := by unfold IntKind.wrap; simp [IntKind.signed, IntKind.bits]; omega
        have z2 : IntKind.i64.wrap (2 * (k : Int) + 1) = 2 * k + 1 := by unfold IntKind.wrap; simp [IntKind.signed, IntKind.bits]; omega
        have z3 : IntKind.i64.wrap (-1 - (k : Int)) = -1 - k := by unfold IntKind.wrap; simp [IntKind.signed, IntKind.bits]; omega
        have z4 : IntKind.i64.wrap ((fr p' : Int) + k) = fr p' + k := by unfold IntKind.wrap; simp [IntKind.signed, IntKind.bits]; omega
        have y0 : (0 : Int) ≤ 2 * (k : Int) := by omega
        have y1 : 2 * (k : Int) < p'.size := by omega
        have y2 : (0 : Int) ≤ 2 * (k : Int) + 1 := by omega
        have y3 : 2 * (k : Int) + 1 < p'.size := by omega
        have y4 : (2 * (k : Int)).toNat = 2 * k := by omega
        have y5 : (2 * (k : Int) + 1).toNat = 2 * k + 1 := by omega
        go_upto_region 10 with fail
        have Sd := Sr.below (Below.refl wr.heap.size wr).drew
        have Bd := (Below.refl wr.heap.size wr).drew
        refine wp_region_noPanic ?_
        refine wp_region_held_drew (S := (fun w' => w'.cell? ⟨w.heap.size, 0, none⟩ = some (.string p') ∧ w'.cell? ⟨w.heap.size, 1, none⟩ = some (.slice ao n' c) ∧ w'.cell? ⟨w.heap.size, 2, none⟩ = some (.string sv') ∧ w'.cell? ⟨w.heap.size, 3, none⟩ = some (.string rm'))) (by kernel_rfl) ⟨blk_cell Sr 0, blk_cell Sr 1, blk_cell Sr 2, blk_cell Sr 3⟩ (fun hHeld => ?_)
        refine wpAnyH_take (i := 0) (oi := ⟨_, _, _, _, _, _⟩) (v := ?_) rfl (by kernel_rfl) (by kernel_rfl) (by kernel_rfl) (fun _ _ _ h => h) (Or.inl ⟨by rfl, ?_⟩) (by assumption) ?_
        rotate_left
        · (intro w hSw; (try dsimp only at hSw); go_simp); with_reducible rfl
        simp only [Act.put, List.setIfInBounds_toArray, List.set_cons_zero, List.set_cons_succ]
        refine wpAnyH_take (i := 1) (oi := ⟨_, _, _, _, _, _⟩) (v := ?_) rfl (by kernel_rfl) (by kernel_rfl) (by kernel_rfl) (fun _ _ _ h => h) (Or.inl ⟨by rfl, ?_⟩) (by assumption) ?_
        rotate_left
        · (intro w hSw; (try dsimp only at hSw); go_simp); with_reducible rfl
        simp only [Act.put, List.setIfInBounds_toArray, List.set_cons_zero, List.set_cons_succ]
        refine wpAnyH_take (i := 3) (oi := ⟨_, _, _, _, _, _⟩) (v := ?_) rfl (by kernel_rfl) (by kernel_rfl) (by kernel_rfl) (fun _ _ _ h => h) (Or.inl ⟨by rfl, ?_⟩) (by assumption) ?_
        rotate_left
        · (intro w hSw; (try dsimp only at hSw); go_simp); with_reducible rfl
        simp only [Act.put, List.setIfInBounds_toArray, List.set_cons_zero, List.set_cons_succ]
        refine wpAnyH_take (i := 4) (oi := ⟨_, _, _, _, _, _⟩) (v := ?_) rfl (by kernel_rfl) (by kernel_rfl) (by kernel_rfl) (fun _ _ _ h => h) (Or.inl ⟨by rfl, ?_⟩) (by assumption) ?_
        rotate_left
        · (intro w hSw; (try dsimp only at hSw); go_simp); with_reducible rfl
        simp only [Act.put, List.setIfInBounds_toArray, List.set_cons_zero, List.set_cons_succ]
        refine wpAnyH_take (i := 5) (oi := ⟨_, _, _, _, _, _⟩) (v := ?_) rfl (by kernel_rfl) (by kernel_rfl) (by kernel_rfl) (fun _ _ _ h => h) (Or.inl ⟨by rfl, ?_⟩) (by assumption) ?_
        rotate_left
        · (intro w hSw; (try dsimp only at hSw); go_simp); with_reducible rfl
        simp only [Act.put, List.setIfInBounds_toArray, List.set_cons_zero, List.set_cons_succ]
        refine wpAnyH_take (i := 6) (oi := ⟨_, _, _, _, _, _⟩) (v := ?_) rfl (by kernel_rfl) (by kernel_rfl) (by kernel_rfl) (fun _ _ _ h => h) (Or.inl ⟨by rfl, ?_⟩) (by assumption) ?_
        rotate_left
        · (intro w hSw; (try dsimp only at hSw); go_simp); with_reducible rfl
        simp only [Act.put, List.setIfInBounds_toArray, List.set_cons_zero, List.set_cons_succ]
        refine wpAnyH_take (i := 7) (oi := ⟨_, _, _, _, _, _⟩) (v := ?_) rfl (by kernel_rfl) (by kernel_rfl) (by kernel_rfl) (fun _ _ _ h => h) (Or.inl ⟨by rfl, ?_⟩) (by assumption) ?_
        rotate_left
        · (intro w hSw; (try dsimp only at hSw); go_simp); with_reducible rfl
        simp only [Act.put, List.setIfInBounds_toArray, List.set_cons_zero, List.set_cons_succ]
        refine wpAnyH_ready (rs := [2]) (by kernel_rfl) (by simp) ?_
        refine AllReadyH.cons (o := ⟨_, _, _, _, _, _⟩) rfl (fun K hK => ?_) AllReadyH.nil
        go_simp
        refine (pad_is p' ao n' c sv' rm' k 0 _ v0 hp6 hlt (by omega) HV0.out).mono ?_
        rintro e we ⟨rfl, bx⟩
        have Se := Sd.below bx
        have Be := Bd.trans (bx.mono Bd.size)
        clear bx
        refine hK.out _ _ ⟨blk_cell Se 0, blk_cell Se 1, blk_cell Se 2, blk_cell Se 3⟩ (fun hHeld => ?_)
        clear hK K
        refine wpAnyH_take (i := 8) (oi := ⟨_, _, _, _, _, _⟩) (v := ?_) rfl (by kernel_rfl) (by kernel_rfl) (by kernel_rfl) (fun _ _ _ h => h) (Or.inl ⟨by rfl, ?_⟩) (by assumption) ?_
        rotate_left
        · (intro w hSw; (try dsimp only at hSw); go_simp); with_reducible rfl
        simp only [Act.put, List.setIfInBounds_toArray, List.set_cons_zero, List.set_cons_succ]
        refine wpAnyH_take (i := 9) (oi := ⟨_, _, _, _, _, _⟩) (v := ?_) rfl (by kernel_rfl) (by kernel_rfl) (by kernel_rfl) (fun _ _ _ h => h) (Or.inl ⟨by rfl, ?_⟩) (by assumption) ?_
        rotate_left
        · (intro w hSw; (try dsimp only at hSw); go_simp); with_reducible rfl
        simp only [Act.put, List.setIfInBounds_toArray, List.set_cons_zero, List.set_cons_succ]
        refine wpAnyH_take (i := 10) (oi := ⟨_, _, _, _, _, _⟩) (v := ?_) rfl (by kernel_rfl) (by kernel_rfl) (by kernel_rfl) (fun _ _ _ h => h) (Or.inl ⟨by rfl, ?_⟩) (by assumption) ?_
        rotate_left
        · (intro w hSw; (try dsimp only at hSw); go_simp); with_reducible rfl
        simp only [Act.put, List.setIfInBounds_toArray, List.set_cons_zero, List.set_cons_succ]
        refine wpAnyH_take (i := 11) (oi := ⟨_, _, _, _, _, _⟩) (v := ?_) rfl (by kernel_rfl) (by kernel_rfl) (by kernel_rfl) (fun _ _ _ h => h) (Or.inl ⟨by rfl, ?_⟩) (by assumption) ?_
        rotate_left
        · (intro w hSw; (try dsimp only at hSw); go_simp); with_reducible rfl
        simp only [Act.put, List.setIfInBounds_toArray, List.set_cons_zero, List.set_cons_succ]
        refine wpAnyH_take (i := 13) (oi := ⟨_, _, _, _, _, _⟩) (v := ?_) rfl (by kernel_rfl) (by kernel_rfl) (by kernel_rfl) (fun _ _ _ h => h) (Or.inl ⟨by rfl, ?_⟩) (by assumption) ?_
        rotate_left
        · (intro w hSw; (try dsimp only at hSw); go_simp); with_reducible rfl
        simp only [Act.put, List.setIfInBounds_toArray, List.set_cons_zero, List.set_cons_succ]
        refine wpAnyH_take (i := 14) (oi := ⟨_, _, _, _, _, _⟩) (v := ?_) rfl (by kernel_rfl) (by kernel_rfl) (by kernel_rfl) (fun _ _ _ h => h) (Or.inl ⟨by rfl, ?_⟩) (by assumption) ?_
        rotate_left
        · (intro w hSw; (try dsimp only at hSw); go_simp); with_reducible rfl
        simp only [Act.put, List.setIfInBounds_toArray, List.set_cons_zero, List.set_cons_succ]
        refine wpAnyH_take (i := 15) (oi := ⟨_, _, _, _, _, _⟩) (v := ?_) rfl (by kernel_rfl) (by kernel_rfl) (by kernel_rfl) (fun _ _ _ h => h) (Or.inl ⟨by rfl, ?_⟩) (by assumption) ?_
        rotate_left
        · (intro w hSw; (try dsimp only at hSw); go_simp); with_reducible rfl
        simp only [Act.put, List.setIfInBounds_toArray, List.set_cons_zero, List.set_cons_succ]
        refine wpAnyH_take (i := 16) (oi := ⟨_, _, _, _, _, _⟩) (v := ?_) rfl (by kernel_rfl) (by kernel_rfl) (by kernel_rfl) (fun _ _ _ h => h) (Or.inl ⟨by rfl, ?_⟩) (by assumption) ?_
        rotate_left
        · (intro w hSw; (try dsimp only at hSw); go_simp); with_reducible rfl
        simp only [Act.put, List.setIfInBounds_toArray, List.set_cons_zero, List.set_cons_succ]
        refine wpAnyH_take (i := 17) (oi := ⟨_, _, _, _, _, _⟩) (v := ?_) rfl (by kernel_rfl) (by kernel_rfl) (by kernel_rfl) (fun _ _ _ h => h) (Or.inl ⟨by rfl, ?_⟩) (by assumption) ?_
        rotate_left
        · (intro w hSw; (try dsimp only at hSw); go_simp); with_reducible rfl
        simp only [Act.put, List.setIfInBounds_toArray, List.set_cons_zero, List.set_cons_succ]
        refine wpAnyH_take (i := 18) (oi := ⟨_, _, _, _, _, _⟩) (v := ?_) rfl (by kernel_rfl) (by kernel_rfl) (by kernel_rfl) (fun _ _ _ h => h) (Or.inl ⟨by rfl, ?_⟩) (by assumption) ?_
        rotate_left
        · (intro w hSw; (try dsimp only at hSw); go_simp); with_reducible rfl
        simp only [Act.put, List.setIfInBounds_toArray, List.set_cons_zero, List.set_cons_succ]
        refine wpAnyH_ready (rs := [12]) (by kernel_rfl) (by simp) ?_
        refine AllReadyH.cons (o := ⟨_, _, _, _, _, _⟩) rfl (fun K hK => ?_) AllReadyH.nil
        go_simp
        refine (pad_is p' ao n' c sv' rm' k 1 _ v1 hp6 hlt (by omega) HV1.out).mono ?_
        rintro e wf ⟨rfl, bx⟩
        have Sf := Se.below bx
        have Bf := Be.trans (bx.mono Be.size)
        clear bx
        refine hK.out _ _ ⟨blk_cell Sf 0, blk_cell Sf 1, blk_cell Sf 2, blk_cell Sf 3⟩ (fun hHeld => ?_)
        clear hK K
        refine wpAnyH_take (i := 19) (oi := ⟨_, _, _, _, _, _⟩) (v := ?_) rfl (by kernel_rfl) (by kernel_rfl) (by kernel_rfl) (fun _ _ _ h => h) (Or.inl ⟨by rfl, ?_⟩) (by assumption) ?_
        rotate_left
        · (intro w hSw; (try dsimp only at hSw); go_simp); with_reducible rfl
        simp only [Act.put, List.setIfInBounds_toArray, List.set_cons_zero, List.set_cons_succ]
        refine wpAnyH_take (i := 20) (oi := ⟨_, _, _, _, _, _⟩) (v := ?_) rfl (by kernel_rfl) (by kernel_rfl) (by kernel_rfl) (fun _ _ _ h => h) (Or.inl ⟨by rfl, ?_⟩) (by assumption) ?_
        rotate_left
        · (intro w hSw; (try dsimp only at hSw); go_simp); with_reducible rfl
        simp only [Act.put, List.setIfInBounds_toArray, List.set_cons_zero, List.set_cons_succ]
        refine wpAnyH_take (i := 21) (oi := ⟨_, _, _, _, _, _⟩) (v := ?_) rfl (by kernel_rfl) (by kernel_rfl) (by kernel_rfl) (fun _ _ _ h => h) (Or.inl ⟨by rfl, ?_⟩) (by assumption) ?_
        rotate_left
        · (intro w hSw; (try dsimp only at hSw); go_simp); with_reducible rfl
        simp only [Act.put, List.setIfInBounds_toArray, List.set_cons_zero, List.set_cons_succ]
        refine wpAnyH_take (i := 22) (oi := ⟨_, _, _, _, _, _⟩) (v := ?_) rfl (by kernel_rfl) (by kernel_rfl) (by kernel_rfl) (fun _ _ _ h => h) (Or.inl ⟨by rfl, ?_⟩) (by assumption) ?_
        rotate_left
        · (intro w hSw; (try dsimp only at hSw); go_simp); with_reducible rfl
        simp only [Act.put, List.setIfInBounds_toArray, List.set_cons_zero, List.set_cons_succ]
        refine wpAnyH_take (i := 23) (oi := ⟨_, _, _, _, _, _⟩) (v := ?_) rfl (by kernel_rfl) (by kernel_rfl) (by kernel_rfl) (fun _ _ _ h => h) (Or.inl ⟨by rfl, ?_⟩) (by assumption) ?_
        rotate_left
        · (intro w hSw; (try dsimp only at hSw); go_simp); with_reducible rfl
        simp only [Act.put, List.setIfInBounds_toArray, List.set_cons_zero, List.set_cons_succ]
        refine wpAnyH_ready (rs := [24]) (by kernel_rfl) (by simp) ?_
        refine AllReadyH.cons (o := ⟨_, _, _, _, _, _⟩) rfl (fun K hK => ?_) AllReadyH.nil
        go_simp
        refine (pad_no p' ao n' c sv' rm' k 2 _ hp6 (by omega)).mono ?_
        rintro e wg ⟨rfl, bx⟩
        have Sg := Sf.below bx
        have Bg := Bf.trans (bx.mono Bf.size)
        clear bx
        refine hK.out _ _ ⟨blk_cell Sg 0, blk_cell Sg 1, blk_cell Sg 2, blk_cell Sg 3⟩ (fun hHeld => ?_)
        clear hK K
        refine wpAnyH_take (i := 25) (oi := ⟨_, _, _, _, _, _⟩) (v := ?_) rfl (by kernel_rfl) (by kernel_rfl) (by kernel_rfl) (fun _ _ _ h => h) (Or.inl ⟨by rfl, ?_⟩) (by assumption) ?_
        rotate_left
        · (intro w hSw; (try dsimp only at hSw); go_simp); with_reducible rfl
        simp only [Act.put, List.setIfInBounds_toArray, List.set_cons_zero, List.set_cons_succ]
        refine wpAnyH_take (i := 26) (oi := ⟨_, _, _, _, _, _⟩) (v := ?_) rfl (by kernel_rfl) (by kernel_rfl) (by kernel_rfl) (fun _ _ _ h => h) (Or.inl ⟨by rfl, ?_⟩) (by assumption) ?_
        rotate_left
        · (intro w hSw; (try dsimp only at hSw); go_simp); with_reducible rfl
        simp only [Act.put, List.setIfInBounds_toArray, List.set_cons_zero, List.set_cons_succ]
        refine wpAnyH_take (i := 27) (oi := ⟨_, _, _, _, _, _⟩) (v := ?_) rfl (by kernel_rfl) (by kernel_rfl) (by kernel_rfl) (fun _ _ _ h => h) (Or.inl ⟨by rfl, ?_⟩) (by assumption) ?_
        rotate_left
        · (intro w hSw; (try dsimp only at hSw); go_simp); with_reducible rfl
        simp only [Act.put, List.setIfInBounds_toArray, List.set_cons_zero, List.set_cons_succ]
        refine wpAnyH_take (i := 28) (oi := ⟨_, _, _, _, _, _⟩) (v := ?_) rfl (by kernel_rfl) (by kernel_rfl) (by kernel_rfl) (fun _ _ _ h => h) (Or.inl ⟨by rfl, ?_⟩) (by assumption) ?_
        rotate_left
        · (intro w hSw; (try dsimp only at hSw); go_simp); with_reducible rfl
        simp only [Act.put, List.setIfInBounds_toArray, List.set_cons_zero, List.set_cons_succ]
        refine wpAnyH_take (i := 29) (oi := ⟨_, _, _, _, _, _⟩) (v := ?_) rfl (by kernel_rfl) (by kernel_rfl) (by kernel_rfl) (fun _ _ _ h => h) (Or.inl ⟨by rfl, ?_⟩) (by assumption) ?_
        rotate_left
        · (intro w hSw; (try dsimp only at hSw); go_simp); with_reducible rfl
        simp only [Act.put, List.setIfInBounds_toArray, List.set_cons_zero, List.set_cons_succ]
        refine wpAnyH_take (i := 30) (oi := ⟨_, _, _, _, _, _⟩) (v := ?_) rfl (by kernel_rfl) (by kernel_rfl) (by kernel_rfl) (fun _ _ _ h => h) (Or.inl ⟨by rfl, ?_⟩) (by assumption) ?_
        rotate_left
        · (intro w hSw; (try dsimp only at hSw); go_simp); with_reducible rfl
        simp only [Act.put, List.setIfInBounds_toArray, List.set_cons_zero, List.set_cons_succ]
        refine wpAnyH_ready (rs := [31]) (by kernel_rfl) (by simp) ?_
        refine AllReadyH.cons (o := ⟨_, _, _, _, _, _⟩) rfl (fun K hK => ?_) AllReadyH.nil
        go_simp
        refine (pad_no p' ao n' c sv' rm' (-1 - (k : Int)) 0 _ hp6 (by omega)).mono ?_
        rintro e wh ⟨rfl, bx⟩
        have Sh := Sg.below bx
        have Bh := Bg.trans (bx.mono Bg.size)
        clear bx
        refine hK.out _ _ ⟨blk_cell Sh 0, blk_cell Sh 1, blk_cell Sh 2, blk_cell Sh 3⟩ (fun hHeld => ?_)
        clear hK K
        refine wpAnyH_take (i := 32) (oi := ⟨_, _, _, _, _, _⟩) (v := ?_) rfl (by kernel_rfl) (by kernel_rfl) (by kernel_rfl) (fun _ _ _ h => h) (Or.inl ⟨by rfl, ?_⟩) (by assumption) ?_
        rotate_left
        · (intro w hSw; (try dsimp only at hSw); go_simp); with_reducible rfl
        simp only [Act.put, List.setIfInBounds_toArray, List.set_cons_zero, List.set_cons_succ]
        refine wpAnyH_take (i := 33) (oi := ⟨_, _, _, _, _, _⟩) (v := ?_) rfl (by kernel_rfl) (by kernel_rfl) (by kernel_rfl) (fun _ _ _ h => h) (Or.inl ⟨by rfl, ?_⟩) (by assumption) ?_
        rotate_left
        · (intro w hSw; (try dsimp only at hSw); go_simp); with_reducible rfl
        simp only [Act.put, List.setIfInBounds_toArray, List.set_cons_zero, List.set_cons_succ]
        refine wpAnyH_take (i := 34) (oi := ⟨_, _, _, _, _, _⟩) (v := ?_) rfl (by kernel_rfl) (by kernel_rfl) (by kernel_rfl) (fun _ _ _ h => h) (Or.inl ⟨by rfl, ?_⟩) (by assumption) ?_
        rotate_left
        · (intro w hSw; (try dsimp only at hSw); go_simp); with_reducible rfl
        simp only [Act.put, List.setIfInBounds_toArray, List.set_cons_zero, List.set_cons_succ]
        refine wpAnyH_take (i := 35) (oi := ⟨_, _, _, _, _, _⟩) (v := ?_) rfl (by kernel_rfl) (by kernel_rfl) (by kernel_rfl) (fun _ _ _ h => h) (Or.inl ⟨by rfl, ?_⟩) (by assumption) ?_
        rotate_left
        · (intro w hSw; (try dsimp only at hSw); go_simp); with_reducible rfl
        simp only [Act.put, List.setIfInBounds_toArray, List.set_cons_zero, List.set_cons_succ]
        refine wpAnyH_take (i := 36) (oi := ⟨_, _, _, _, _, _⟩) (v := ?_) rfl (by kernel_rfl) (by kernel_rfl) (by kernel_rfl) (fun _ _ _ h => h) (Or.inl ⟨by rfl, ?_⟩) (by assumption) ?_
        rotate_left
        · (intro w hSw; (try dsimp only at hSw); go_simp); with_reducible rfl
        simp only [Act.put, List.setIfInBounds_toArray, List.set_cons_zero, List.set_cons_succ]
        refine wpAnyH_take (i := 37) (oi := ⟨_, _, _, _, _, _⟩) (v := ?_) rfl (by kernel_rfl) (by kernel_rfl) (by kernel_rfl) (fun _ _ _ h => h) (Or.inl ⟨by rfl, ?_⟩) (by assumption) ?_
        rotate_left
        · (intro w hSw; (try dsimp only at hSw); go_simp); with_reducible rfl
        simp only [Act.put, List.setIfInBounds_toArray, List.set_cons_zero, List.set_cons_succ]
        refine wpAnyH_take (i := 38) (oi := ⟨_, _, _, _, _, _⟩) (v := ?_) rfl (by kernel_rfl) (by kernel_rfl) (by kernel_rfl) (fun _ _ _ h => h) (Or.inl ⟨by rfl, ?_⟩) (by assumption) ?_
        rotate_left
        · (intro w hSw; (try dsimp only at hSw); go_simp); with_reducible rfl
        simp only [Act.put, List.setIfInBounds_toArray, List.set_cons_zero, List.set_cons_succ]
        refine wpAnyH_ready (rs := [39]) (by kernel_rfl) (by simp) ?_
        refine AllReadyH.cons (o := ⟨_, _, _, _, _, _⟩) rfl (fun K hK => ?_) AllReadyH.nil
        go_simp
        refine (pad_no p' ao n' c sv' rm' ((fr p' : Int) + k) 1 _ hp6 (by omega)).mono ?_
        rintro e wi ⟨rfl, bx⟩
        have Si := Sh.below bx
        have Bi := Bh.trans (bx.mono Bh.size)
        clear bx
        refine hK.out _ _ ⟨blk_cell Si 0, blk_cell Si 1, blk_cell Si 2, blk_cell Si 3⟩ (fun hHeld => ?_)
        clear hK K
        refine wpAnyH_take (i := 40) (oi := ⟨_, _, _, _, _, _⟩) (v := ?_) rfl (by kernel_rfl) (by kernel_rfl) (by kernel_rfl) (fun _ _ _ h => h) (Or.inl ⟨by rfl, ?_⟩) (by assumption) ?_
        rotate_left
        · (intro w hSw; (try dsimp only at hSw); go_simp); with_reducible rfl
        simp only [Act.put, List.setIfInBounds_toArray, List.set_cons_zero, List.set_cons_succ]
        refine wpAnyH_take (i := 41) (oi := ⟨_, _, _, _, _, _⟩) (v := ?_) rfl (by kernel_rfl) (by kernel_rfl) (by kernel_rfl) (fun _ _ _ h => h) (Or.inl ⟨by rfl, ?_⟩) (by assumption) ?_
        rotate_left
        · (intro w hSw; (try dsimp only at hSw); go_simp); with_reducible rfl
        simp only [Act.put, List.setIfInBounds_toArray, List.set_cons_zero, List.set_cons_succ]
        refine wpAnyH_done (by kernel_rfl) (NoPanic.normal ?_) _
        go_wp2_with fail
        exact ⟨⟨k + 1, by omega, by simp, hbl.trans (Bi.mono hbl.size)⟩, by simp [intOf]; omega⟩
      · obtain rfl : k = fr p' := by omega
        have B5 := B4.trans (hbl.mono B4.size)
        have I5 : IntsAt wr ao n' R := I4.below hbl
        clear hbl B4 I4 S4
        obtain ⟨w5, rfl⟩ : ∃ w5, w5 = wr := ⟨_, rfl⟩
        go_wp2_with fail
        go_loopw [5, 6] (fun m i wx => ∃ k : Nat, k ≤ fr p' ∧ i = .int .i64 k ∧ m = .int .i64 (cnt R n' k) ∧ Below w5.heap.size w5 wx) (fun _ i _ => fr p' - (intOf i).toNat)
        case atStart => exact ⟨0, Nat.zero_le _, rfl, by rw [show ((0 : Nat) : Int) = 0 from rfl, cnt_zero (fun j hj => (ckB_mono HCK.out j hj).1)]; rfl, Below.refl _ _⟩
        case round =>
          obtain ⟨k, hk2, rfl, rfl, hbl⟩ := hrel
          have Sx := Sr.below hbl
          have Ix : IntsAt wr ao n' R := I5.below hbl
          have hcn := cnt_succ (fun j hj => (ckB_mono HCK.out j hj).2) (k : Int)
          have HCN := hidI hcn; clear hcn
          have hle : cnt R n' k ≤ 1000000 := Nat.le_trans (cnt_le R n' k) (by omega)
          have c0 : wr.cell? ⟨w.heap.size, 0, none⟩ = some (.string p') := blk_cell Sx 0
          have c1 : wr.cell? ⟨w.heap.size, 1, none⟩ = some (.slice ao n' c) := blk_cell Sx 1
          have c2 : wr.cell? ⟨w.heap.size, 2, none⟩ = some (.string sv') := blk_cell Sx 2
          have c3 : wr.cell? ⟨w.heap.size, 3, none⟩ = some (.string rm') := blk_cell Sx 3
          by_cases hlt : k < fr p'
          · cases hin : inR R n' (k : Int)
            · have HIN := hidI hin; clear hin
              go_wp2_with fail
              refine (reset_any p' ao n' c sv' rm' R _ _ (by omega) Ix).mono ?_
              rw [HIN.out]
              rintro e wa ⟨rfl, ba⟩
              go_wp2_with fail
              refine ⟨⟨k + 1, by omega, by simp, ?_, hbl.trans (ba.mono hbl.size)⟩, by simp [intOf]; omega⟩
              have := HCN.out
              rw [HIN.out] at this
              rw [show ((k + 1 : Nat) : Int) = (k : Int) + 1 by omega, this]
              simp
            · have HIN := hidI hin; clear hin
              go_wp2_with fail
              refine (reset_any p' ao n' c sv' rm' R _ _ (by omega) Ix).mono ?_
              rw [HIN.out]
              rintro e wa ⟨rfl, ba⟩
              go_wp2_with fail
              refine ⟨⟨k + 1, by omega, by simp, ?_, hbl.trans (ba.mono hbl.size)⟩, by simp [intOf]; omega⟩
              have := HCN.out
              rw [HIN.out] at this
              rw [show ((k + 1 : Nat) : Int) = (k : Int) + 1 by omega, this]
              simp
          · obtain rfl : k = fr p' := by omega
            have hca : (cnt R n' (fr p') : Int) = n' := by rw [cnt_all (fun j hj => (ckB_all HCK.out j hj).2)]
            rw [hca]
            clear hca hle HCN
            go_wp2_with fail
            refine (reset_any p' ao n' c sv' rm' R _ _ (by omega) Ix).mono ?_
            rw [inR_none (fun i hi => by have := (ckB_all HCK.out i hi).2; omega)]
            rintro e wa ⟨rfl, ba⟩
            have Sa := Sx.below ba
            have Ia : IntsAt wa ao n' R := Ix.below ba
            clear c0 c1 c2 c3
            have c0 : wa.cell? ⟨w.heap.size, 0, none⟩ = some (.string p') := blk_cell Sa 0
            have c1 : wa.cell? ⟨w.heap.size, 1, none⟩ = some (.slice ao n' c) := blk_cell Sa 1
            have c2 : wa.cell? ⟨w.heap.size, 2, none⟩ = some (.string sv') := blk_cell Sa 2
            have c3 : wa.cell? ⟨w.heap.size, 3, none⟩ = some (.string rm') := blk_cell Sa 3
            go_wp2_with fail
            refine (reset_any p' ao n' c sv' rm' R _ _ (by omega) Ia).mono ?_
            rw [inR_none (fun i hi => by have := (ckB_mono HCK.out i hi).1; omega)]
            rintro e wb ⟨rfl, bb⟩
            go_wp2_with fail
            refine (awake_any _).mono ?_
            rintro e wd ⟨rfl, bd⟩
            go_wp2
            go_ret
            have t1 := B5.trans (hbl.mono B5.size)
            have t2 := t1.trans (ba.mono t1.size)
            have t3 := t2.trans (bb.mono t2.size)
            exact ⟨rfl, t3.trans (bd.mono t3.size)⟩
end Go.Proofs.Ytkhjfcbloahjeaa
