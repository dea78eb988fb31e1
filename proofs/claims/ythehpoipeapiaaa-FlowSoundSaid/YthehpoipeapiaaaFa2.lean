import Derived.Test.YthehpoipeapiaaaFa1
import Derived.MapKept
namespace Go.Proofs.Ythehpoipeapiaaa
open Go.RowKit Go.Sx
/-! Entries -/
def EnC (C S D A R : Nat → Int) (i j : Nat) : Value := if j = 0 then .int .i64 (C i) else if j = 1 then .int .i64 (S i) else if j = 2 then .int .i64 (D i) else if j = 3 then .int .i64 (A i) else .int .i64 (R i)
abbrev EnAt (w : World) (ao : Option Addr) (n : Nat) (C S D A R : Nat → Int) : Prop := RowAt w ao n 5 (EnC C S D A R)
/-- One entry's cells. -/
structure En (w : World) (b o : Nat) (c s k a r : Int) : Prop where
  c0 : w.cell? ⟨b, o, none⟩ = some (.int .i64 c)
  c1 : w.cell? ⟨b, o + 1, none⟩ = some (.int .i64 s)
  c2 : w.cell? ⟨b, o + 2, none⟩ = some (.int .i64 k)
  c3 : w.cell? ⟨b, o + 3, none⟩ = some (.int .i64 a)
  c4 : w.cell? ⟨b, o + 4, none⟩ = some (.int .i64 r)
theorem En.below {B : Nat} {w w' : World} {b o : Nat} {c s k a r : Int} (h : En w b o c s k a r) (hb : Below B w w') (hlt : b < B) : En w' b o c s k a r :=
  ⟨(hb.cell (p := ⟨b, o, none⟩) hlt).trans h.c0, (hb.cell (p := ⟨b, o + 1, none⟩) hlt).trans h.c1, (hb.cell (p := ⟨b, o + 2, none⟩) hlt).trans h.c2, (hb.cell (p := ⟨b, o + 3, none⟩) hlt).trans h.c3, (hb.cell (p := ⟨b, o + 4, none⟩) hlt).trans h.c4⟩
theorem EnAt.get {w : World} {ao : Option Addr} {n : Nat} {C S D A R : Nat → Int} (h : EnAt w ao n C S D A R) (hn : 0 < n) : ∃ b off, ao = some ⟨b, off, none⟩ ∧ b < w.heap.size ∧ ∀ i, i < n → En w b (off + i * 5) (C i) (S i) (D i) (A i) (R i) := by
  obtain ⟨b, off, e, hb, hc⟩ := h.some hn
  refine ⟨b, off, e, hb, fun i hi => ⟨?_, hc i hi 1 (by omega), hc i hi 2 (by omega), hc i hi 3 (by omega), hc i hi 4 (by omega)⟩⟩
  have := hc i hi 0 (by omega)
  rw [Nat.add_zero] at this
  exact this
theorem few22_any (ao : Option Addr) (n c : Nat) (w : World) (hc : n ≤ c) : Calls Try.prog 14 #[.slice ao n c] w fun e w' => e = .returned (.slice ao (min n 40) c) ∧ w = w' := by
  go_enter Try.func14, Try.ntmps14
  go_wp2
  · go_ret
    exact ⟨ret_sl (by omega), rfl⟩
  · go_ret
    exact ⟨ret_sl (by omega), rfl⟩
def enB (C S R : Nat → Int) (i : Nat) : Bool := decide (0 ≤ S i ∧ S i ≤ 3 ∧ 0 ≤ R i ∧ R i ≤ C i)
def prB (C S D A R : Nat → Int) (i k : Nat) : Bool := decide (D k = D i ∧ A k = A i ∧ R k = R i ∧ ¬ (S k = S i ∧ C i ≤ C k))
def gdB (sec : Int → Int → Bool) (C S D A R : Nat → Int) (i : Nat) : Bool := enB C S R i && sec (D i) (A i) && (List.range i).all (prB C S D A R i)
def sdB (sec : Int → Int → Bool) (C S D A R : Nat → Int) (n : Nat) : Bool := (List.range n).all (gdB sec C S D A R)
abbrev PoAt (w : World) (g : Nat) (p0 p1 : Bool) (ra : Option Addr) (rn rc : Nat) (sa : Option Addr) (sn sc : Nat) : Prop := w.heap[g]? = some (.cells #[.bool p0, .bool p1, .slice ra rn rc, .slice sa sn sc] 44 (0, 0))
theorem rsound_zero (p0 p1 : Bool) (ra : Option Addr) (rn rc : Nat) (sa : Option Addr) (sn sc : Nat) (ao : Option Addr) (c : Nat) (w : World) :
    Calls Try.prog 16 #[poV p0 p1 ra rn rc sa sn sc, .slice ao 0 c] w fun e w' => e = .returned (.bool true) ∧ Below w.heap.size w w' := by
  have b0 : Below w.heap.size w (w.alloc (.cells #[.bool p0, .bool p1, .slice ra rn rc, .slice sa sn sc] 44)) := (Below.refl _ _).alloc (Nat.le_refl _) _
  go_enter Try.func16, Try.ntmps16
  go_wp2
  refine wp_loop_rounds 1 ?_
  rw [rounds_succ]
  go_wp2
  go_ret
  exact ⟨rfl, b0⟩
set_option maxRecDepth 100000 in
set_option maxHeartbeats 3200000 in
theorem rsound_some (p0 p1 : Bool) (ra : Option Addr) (rn rc : Nat) (sa : Option Addr) (sn sc : Nat) (F T F' T' : Nat → Int) (b off n c : Nat) (C S D A R : Nat → Int) (w : World) (hl : n ≤ 1000000) (hb : b < w.heap.size) (hP : PolAt w ra rn rc sa sn sc F T F' T') (h : ∀ i, i < n → En w b (off + i * 5) (C i) (S i) (D i) (A i) (R i)) :
    Calls Try.prog 16 #[poV p0 p1 ra rn rc sa sn sc, .slice (some ⟨b, off, none⟩) n c] w fun e w' => e = .returned (.bool (sdB (secB p0 p1 rn sn F T F' T') C S D A R n)) ∧ Below w.heap.size w w' := by
  have H := hidI h; clear h
  obtain ⟨sec, hsec⟩ : ∃ s, s = secB p0 p1 rn sn F T F' T' := ⟨_, rfl⟩
  obtain ⟨z, hz⟩ : ∃ z, z = sdB (secB p0 p1 rn sn F T F' T') C S D A R n := ⟨_, rfl⟩
  rw [← hz]
  rw [← hsec] at hz
  have HS := hidI hsec; clear hsec
  have HZ := hidI hz; clear hz
  have hn : ¬ (w.heap.size = b) := by omega
  have b0 : Below w.heap.size w (w.alloc (.cells #[.bool p0, .bool p1, .slice ra rn rc, .slice sa sn sc] 44)) := (Below.refl _ _).alloc (Nat.le_refl _) _
  have k0 : PoAt (w.alloc (.cells #[.bool p0, .bool p1, .slice ra rn rc, .slice sa sn sc] 44)) w.heap.size p0 p1 ra rn rc sa sn sc := blk_new _ _
  go_enter Try.func16, Try.ntmps16
  go_wp2_with fail
  go_loopw [5] (fun i wr => ∃ k : Nat, k ≤ n ∧ i = .int .i64 k ∧ sdB sec C S D A R k = true ∧ Below w.heap.size w wr ∧ PoAt wr w.heap.size p0 p1 ra rn rc sa sn sc) (fun i _ => n - (intOf i).toNat)
  case atStart => exact ⟨0, Nat.zero_le _, rfl, rfl, b0, k0⟩
  case round =>
    clear b0 k0
    obtain ⟨i, hi, rfl, ht0, hbl, hpo⟩ := hrel
    have ht := hidI ht0; clear ht0
    have HPO := hidI hpo
    by_cases hlt : i < n
    · have E := (H.out i hlt).below hbl hb
      obtain ⟨d0, d1, d2, d3, d4⟩ := E
      have hsz := hbl.size
      have hlo := blk_lt hpo
      have neo : wr.heap.size ≠ w.heap.size := by omega
      have y0 : wr.cell? ⟨w.heap.size, 0, none⟩ = some (.bool p0) := blk_cell hpo 0
      have y1 : wr.cell? ⟨w.heap.size, 1, none⟩ = some (.bool p1) := blk_cell hpo 1
      have y2 : wr.cell? ⟨w.heap.size, 2, none⟩ = some (.slice ra rn rc) := blk_cell hpo 2
      have y3 : wr.cell? ⟨w.heap.size, 3, none⟩ = some (.slice sa sn sc) := blk_cell hpo 3
      clear hpo
      obtain ⟨wo, rfl⟩ : ∃ wo, wo = wr := ⟨_, rfl⟩
      have RET : gdB sec C S D A R i = false → Hid (z = false) := fun h => HZ.out.trans ((all_succ (p := gdB sec C S D A R) hlt ht.out).2 h)
      by_cases he : enB C S R i = true
      · have he' := he
        unfold enB at he'
        rw [decide_eq_true_eq] at he'
        obtain ⟨h1, h2, h3, h4⟩ := he'
        have i1 : ¬ S i < 0 := by omega
        have i2 : ¬ 3 < S i := by omega
        have i3 : ¬ R i < 0 := by omega
        have i4 : ¬ C i < R i := by omega
        clear h1 h2 h3 h4
        have bE : Below wo.heap.size wo (wo.alloc (.cells #[.int .i64 (C i), .int .i64 (S i), .int .i64 (D i), .int .i64 (A i), .int .i64 (R i)] 31)) := (Below.refl _ _).alloc (Nat.le_refl _) _
        have bW := hbl.trans (bE.mono hsz)
        cases hs : sec (D i) (A i)
        · have HSI : Hid (secB p0 p1 rn sn F T F' T' (D i) (A i) = false) := by show _ = _; rw [← HS.out]; exact hs
          have HR : Hid (z = false) := RET (by unfold gdB; rw [hs]; simp)
          clear RET hs
          have HE := hidI he; clear he
          go_wp2_with fail
          refine (rsec_any p0 p1 ra rn rc sa sn sc F T F' T' (D i) (A i) _ (hP.below bW)).mono ?_
          rw [HSI.out]
          rintro e w2 ⟨rfl, b2⟩
          go_wp2_with fail
          go_ret
          exact ⟨ret_bool HR.out.symm, bW.trans (b2.mono bW.size)⟩
        · have HSI : Hid (secB p0 p1 rn sn F T F' T' (D i) (A i) = true) := by show _ = _; rw [← HS.out]; exact hs
          have HGD : Hid (gdB sec C S D A R i = (List.range i).all (prB C S D A R i)) := by show _ = _; unfold gdB; rw [hs, he]; simp
          clear hs
          have HE := hidI he; clear he
          have HRET := hidI RET; clear RET
          go_wp2_with fail
          refine (rsec_any p0 p1 ra rn rc sa sn sc F T F' T' (D i) (A i) _ (hP.below bW)).mono ?_
          rw [HSI.out]
          rintro e w2 ⟨rfl, b2⟩
          have kE : w2.heap[wo.heap.size]? = some (.cells #[.int .i64 (C i), .int .i64 (S i), .int .i64 (D i), .int .i64 (A i), .int .i64 (R i)] 31 (0, 0)) := (b2.block _ (by simp)).trans (blk_new _ _)
          have kP : PoAt w2 w.heap.size p0 p1 ra rn rc sa sn sc := (b2.block _ (by simp; omega)).trans (blk_alloc HPO.out _)
          have b02 := bW.trans (b2.mono bW.size)
          clear d0 d1 d2 d3 d4 y0 y1 y2 y3 b2 bE bW i1 i2 i3 i4
          go_wp2_with fail
          go_loopw [7] (fun j wr => ∃ k : Nat, k ≤ i ∧ j = .int .i64 k ∧ (List.range k).all (prB C S D A R i) = true ∧ Below w.heap.size w wr ∧ PoAt wr w.heap.size p0 p1 ra rn rc sa sn sc ∧ wr.heap[wo.heap.size]? = some (.cells #[.int .i64 (C i), .int .i64 (S i), .int .i64 (D i), .int .i64 (A i), .int .i64 (R i)] 31 (0, 0))) (fun j _ => i - (intOf j).toNat)
          case atStart => exact ⟨0, Nat.zero_le _, rfl, rfl, b02, kP, kE⟩
          case round =>
            clear b02 kP kE
            obtain ⟨k, hk, rfl, ht1, hb2, hp2, hE2⟩ := hrel
            have HT1 := hidI ht1; clear ht1
            have HP2 := hidI hp2; clear hp2
            have HE2 := hidI hE2
            have hlE := blk_lt hE2
            have sz2 := hb2.size
            by_cases hki : k < i
            · have E := (H.out k (by omega)).below hb2 hb
              obtain ⟨d0, d1, d2, d3, d4⟩ := E
              have c0 : wr.cell? ⟨wo.heap.size, 0, none⟩ = some (.int .i64 (C i)) := blk_cell hE2 0
              have c1 : wr.cell? ⟨wo.heap.size, 1, none⟩ = some (.int .i64 (S i)) := blk_cell hE2 1
              have c2 : wr.cell? ⟨wo.heap.size, 2, none⟩ = some (.int .i64 (D i)) := blk_cell hE2 2
              have c3 : wr.cell? ⟨wo.heap.size, 3, none⟩ = some (.int .i64 (A i)) := blk_cell hE2 3
              have c4 : wr.cell? ⟨wo.heap.size, 4, none⟩ = some (.int .i64 (R i)) := blk_cell hE2 4
              have ne1 : wr.heap.size ≠ wo.heap.size := by omega
              have hkn : (k : Int) < n := by omega
              clear hE2
              have bE : Below w.heap.size w (wr.alloc (.cells #[.int .i64 (C k), .int .i64 (S k), .int .i64 (D k), .int .i64 (A k), .int .i64 (R k)] 31)) := hb2.alloc sz2 _
              have NO : prB C S D A R i k = false → Hid (z = false) := fun h => HRET.out (HGD.out.trans ((all_succ (p := prB C S D A R i) hki HT1.out).2 h))
              have YES : prB C S D A R i k = true → (List.range (k + 1)).all (prB C S D A R i) = true := (all_succ (p := prB C S D A R i) hki HT1.out).1
              have HNO := hidI NO; have HYES := hidI YES; clear NO YES
              have HEQ : Hid (prB C S D A R i k = decide (D k = D i ∧ A k = A i ∧ R k = R i ∧ ¬ (S k = S i ∧ C i ≤ C k))) := rfl
              by_cases q1 : D k = D i
              · have q1' : (D k != D i) = false := by simpa using q1
                by_cases q2 : A k = A i
                · have q2' : (A k != A i) = false := by simpa using q2
                  by_cases q3 : R k = R i
                  · have q3' : (R k != R i) = false := by simpa using q3
                    by_cases q4 : S k = S i
                    · have q4' : (S k == S i) = true := by simpa using q4
                      by_cases q5 : C i ≤ C k
                      · have HF : Hid (z = false) := HNO.out (by rw [HEQ.out, decide_eq_false_iff_not]; exact fun h => h.2.2.2 ⟨q4, q5⟩)
                        clear q1 q2 q3 q4
                        go_wp2_with fail
                        go_ret
                        exact ⟨ret_bool HF.out.symm, bE⟩
                      · have HY : Hid (prB C S D A R i k = true) := by show _ = _; rw [HEQ.out, decide_eq_true_eq]; exact ⟨q1, q2, q3, fun h => q5 h.2⟩
                        clear q1 q2 q3 q4
                        go_wp2_with fail
                        go_roundw
                        case rel => exact ⟨k + 1, by omega, by simp, HYES.out HY.out, bE, blk_alloc HP2.out _, blk_alloc HE2.out _⟩
                        case measure => simp [intOf]; omega
                    · have q4' : (S k == S i) = false := by simpa using q4
                      have HY : Hid (prB C S D A R i k = true) := by show _ = _; rw [HEQ.out, decide_eq_true_eq]; exact ⟨q1, q2, q3, fun h => q4 h.1⟩
                      clear q1 q2 q3 q4
                      go_wp2_with fail
                      go_roundw
                      case rel => exact ⟨k + 1, by omega, by simp, HYES.out HY.out, bE, blk_alloc HP2.out _, blk_alloc HE2.out _⟩
                      case measure => simp [intOf]; omega
                  · have q3' : (R k != R i) = true := by simpa using q3
                    have HF : Hid (z = false) := HNO.out (by rw [HEQ.out, decide_eq_false_iff_not]; exact fun h => q3 h.2.2.1)
                    clear q1 q2 q3
                    go_wp2_with fail
                    go_ret
                    exact ⟨ret_bool HF.out.symm, bE⟩
                · have q2' : (A k != A i) = true := by simpa using q2
                  have HF : Hid (z = false) := HNO.out (by rw [HEQ.out, decide_eq_false_iff_not]; exact fun h => q2 h.2.1)
                  clear q1 q2
                  go_wp2_with fail
                  go_ret
                  exact ⟨ret_bool HF.out.symm, bE⟩
              · have q1' : (D k != D i) = true := by simpa using q1
                have HF : Hid (z = false) := HNO.out (by rw [HEQ.out, decide_eq_false_iff_not]; exact fun h => q1 h.1)
                clear q1
                go_wp2_with fail
                go_ret
                exact ⟨ret_bool HF.out.symm, bE⟩
            · obtain rfl : k = i := by omega
              have HY : Hid (gdB sec C S D A R k = true) := HGD.out.trans HT1.out
              clear hE2
              go_wp2_with fail
              go_roundw
              case rel => exact ⟨k + 1, by omega, by simp, (all_succ (p := gdB sec C S D A R) hlt ht.out).1 HY.out, hb2, HP2.out⟩
              case measure => simp [intOf]; omega
      · have HR : Hid (z = false) := RET (by unfold gdB; rw [Bool.eq_false_iff.2 he]; simp)
        have he' := he
        unfold enB at he'
        rw [decide_eq_true_eq] at he'
        clear RET he
        have bE : Below wo.heap.size wo (wo.alloc (.cells #[.int .i64 (C i), .int .i64 (S i), .int .i64 (D i), .int .i64 (A i), .int .i64 (R i)] 31)) := (Below.refl _ _).alloc (Nat.le_refl _) _
        have bW := hbl.trans (bE.mono hsz)
        by_cases i1 : S i < 0
        · clear he'
          go_wp2_with fail
          go_ret
          exact ⟨ret_bool HR.out.symm, bW⟩
        · by_cases i2 : 3 < S i
          · clear he'
            go_wp2_with fail
            go_ret
            exact ⟨ret_bool HR.out.symm, bW⟩
          · by_cases i3 : R i < 0
            · clear he'
              go_wp2_with fail
              go_ret
              exact ⟨ret_bool HR.out.symm, bW⟩
            · by_cases i4 : C i < R i
              · clear he'
                go_wp2_with fail
                go_ret
                exact ⟨ret_bool HR.out.symm, bW⟩
              · exact absurd ⟨by omega, by omega, by omega, by omega⟩ he'
    · obtain rfl : i = n := by omega
      go_wp2_with fail
      go_ret
      exact ⟨ret_bool (by rw [HZ.out, ht.out]), hbl⟩
end Go.Proofs.Ythehpoipeapiaaa
