import Derived.Test.YtdmcmlajpajaaaaSr4
import Derived.Deep.DeepCutAuto
import Derived.Deep.QuietTactic
import Derived.BigQuiet
namespace Go.Proofs.Ytdmcmlajpajaaaa
open Go.RowKit Go.Sx
theorem own_cap {w : World} {base g cap : Nat} {L : BL} (h : OwnL w base g cap L) : L.length ≤ cap := by
  unfold OwnL at h
  rcases h.2 with ⟨e, _⟩ | ⟨g', cap', cur, e, _, _, hc, _⟩
  · cases e
  · cases e; exact hc
theorem adrD {w : World} {base g cap : Nat} {V : Nat → Int} {S : Nat → Bool} (h : OwnC w base g cap V S) (hcap : 256 ≤ cap) (i : Nat) (hi64 : i < 64) (line : Int) (hl0 : 0 ≤ line) (hl1 : line ≤ 255) (hV : ∀ k, k < 256 → 0 ≤ V k ∧ V k ≤ 255) (tall table : Bool) (A : Int) (hA : adr (V (4 * i)) (V (4 * i + 1)) (V (4 * i + 2)) line tall table = A) :
    Calls Try.prog 13 #[.slice (some ⟨g, 0, none⟩) 256 cap, .int .i64 i, .int .i64 line, .bool tall, .bool table] w fun e w' => e = .returned (.tuple #[.int .u16 A, .bool (S (4 * i) || (S (4 * i + 1) || S (4 * i + 2))), .int .i64 0]) ∧ Below w.heap.size w w' := by
  rw [← hA]
  exact adrC h hcap i hi64 line hl0 hl1 hV tall table
theorem rnd_end {w1 w4 : World} {base g cap i j z nq : Nat} {V : Nat → Int} {L : BL} {lk2 : Int} (hlt : j < z) (hO : OwnC w4 base g cap (fun k => if k = 4 * i + 2 then lk2 else V k) (sL L)) (hV : ∀ k, k < 256 → 0 ≤ (if k = 4 * i + 2 then lk2 else V k) ∧ (if k = 4 * i + 2 then lk2 else V k) ≤ 255)
    (hE : ∀ k, k ≠ 4 * i + 2 → V k = vL L k) (hb : Below base w1 w4) : (∃ (j' : Nat) (V : Nat → Int), j' ≤ z ∧ Value.int .i64 ((j : Int) + 1) = .int .i64 j' ∧ OwnC (w4.drewN nq) base g cap V (sL L) ∧ (∀ k, k < 256 → 0 ≤ V k ∧ V k ≤ 255) ∧ (∀ k, k ≠ 4 * i + 2 → V k = vL L k) ∧ Below base w1 (w4.drewN nq)) ∧ z - (intOf (.int .i64 ((j : Int) + 1))).toNat < z - (intOf (.int .i64 (j : Int))).toNat := by
  refine ⟨⟨j + 1, _, by omega, by simp, hO.same (by simp), hV, fun k hk => ?_, below_drewN hb nq⟩, by simp [intOf]; omega⟩
  show (if _ then _ else _) = _
  rw [if_neg hk]
  exact hE k hk
set_option maxRecDepth 100000 in
set_option maxHeartbeats 6400000 in
theorem rows_true (ao : Option Addr) (n cap : Nat) (L : BL) (i : Nat) (line lv hv x : Int) (tb ls hs : Bool) (w : World) (hc : n ≤ cap) (hn : min n 257 = L.length) (hnil : ao = none → L.length = 0 ∧ cap = 0) (hL : RowL w ao L) (h256 : L.length = 256) (hi64 : i < 64) (hl0 : 0 ≤ line) (hl1 : line ≤ 255)
    (hV : ∀ k, k < 256 → 0 ≤ vL L k ∧ vL L k ≤ 255) :
    Calls Try.prog 4 #[.slice ao n cap, .agg #[.int .i64 i, .int .i64 line, .bool true, .bool tb, .int .u8 lv, .bool ls, .int .u8 hv, .bool hs, .int .i64 x]] w fun e w' => e = .returned (.bool true) ∧ Below w.heap.size w w' := by
  have HN := hidI hn; clear hn
  have HM : Hid (mayB L.length i line = true) := by show mayB _ _ _ = true; unfold mayB; rw [decide_eq_true_iff]; omega
  have hl : L.length ≤ 257 := by omega
  have H256 := hidI h256; clear h256
  go_enter Try.func4, Try.ntmps4
  go_wp2_with fail
  refine (few2 ao cap n L _ hc HN.out).mono ?_
  rintro e w1 ⟨rfl, rfl⟩
  have b0 : Below w.heap.size w ((w.alloc (.cells #[.int .i64 i, .int .i64 line, .bool true, .bool tb, .int .u8 lv, .bool ls, .int .u8 hv, .bool hs, .int .i64 x] 26)).alloc (.cells #[] 24)) := ((Below.refl _ _).alloc (Nat.le_refl _) _).alloc (by simp) _
  have on := own_new (w.alloc (.cells #[.int .i64 i, .int .i64 line, .bool true, .bool tb, .int .u8 lv, .bool ls, .int .u8 hv, .bool hs, .int .i64 x] 26)) (w.heap.size + 1) (by simp)
  go_wp2_with (first
    | (at_builtin; refine app_law rfl (.tmp 14) (.tmp 16) rfl (L := []) (M := L) (by simp; rfl) on ao cap rfl rfl rfl hnil (RowAt.below hL b0) (by simp; omega) (by simp) ?_; intro g c1 w1 h1 _ hg1 _; rw [List.nil_append] at h1; have b1 : Below (w.heap.size + 1) ((w.alloc (.cells #[.int .i64 i, .int .i64 line, .bool true, .bool tb, .int .u8 lv, .bool ls, .int .u8 hv, .bool hs, .int .i64 x] 26)).alloc (.cells #[] 24)) w1 := (Below.refl _ _).grown hg1 (by simp) (fun k hk => by cases hk; simp); obtain ⟨q0, q1, q2, q3, _, _, _, _, qs⟩ := ask_cells b1)
    | fail)
  refine (May_any _ _ _ _ _ _).mono ?_
  rw [HM.out]
  rintro e w2 ⟨rfl, rfl⟩
  have hcap := own_cap h1
  have hO := OwnC.of h1 H256.out
  have bw := b0.trans (b1.mono (by omega))
  rw [H256.out] at hcap ⊢
  clear h1 on hg1 HM
  obtain ⟨y, hy⟩ : ∃ y, y = vL L (4 * i) := ⟨_, rfl⟩
  have hy01 := hV (4 * i) (by omega)
  rw [← hy] at hy01
  obtain ⟨hy0, hy1⟩ := hy01
  have c0 : w1.cell? ⟨g, 4 * i * 2, none⟩ = some (.int .u8 y) := by rw [hy]; exact hO.cell (i := 4 * i) (by omega) (j := 0) (by omega)
  have HY := hidI hy; clear hy
  have HV := hidI hV; clear hV
  by_cases hyz : y + 16 ≤ 256
  · go_wp2_with fail
    go_loopw [7] (fun r wr => ∃ (j : Nat) (V : Nat → Int), j ≤ 16 ∧ r = .int .i64 j ∧ OwnC wr (w.heap.size + 1) g c1 V (sL L) ∧ (∀ k, k < 256 → 0 ≤ V k ∧ V k ≤ 255) ∧ (∀ k, k ≠ 4 * i + 2 → V k = vL L k) ∧ Below (w.heap.size + 1) w1 wr) (fun r _ => 16 - (intOf r).toNat)
    case atStart => exact ⟨0, _, Nat.zero_le _, rfl, hO, HV.out, fun k _ => rfl, Below.refl _ _⟩
    case round =>
      obtain ⟨j, V, hj, rfl, hOr, hVr, hVe, hbl⟩ := hrel
      clear c0 hO
      have HVR := hidI hVr; clear hVr
      have HVE := hidI hVe; clear hVe
      have p0 : wr.cell? ⟨w.heap.size, 0, none⟩ = some (.int .i64 i) := (hbl.cell (by show w.heap.size < _; omega)).trans q0
      have p1 : wr.cell? ⟨w.heap.size, 1, none⟩ = some (.int .i64 line) := (hbl.cell (by show w.heap.size < _; omega)).trans q1
      have p2 : wr.cell? ⟨w.heap.size, 2, none⟩ = some (.bool true) := (hbl.cell (by show w.heap.size < _; omega)).trans q2
      have p3 : wr.cell? ⟨w.heap.size, 3, none⟩ = some (.bool tb) := (hbl.cell (by show w.heap.size < _; omega)).trans q3
      by_cases hlt : j < 16
      · have cl : wr.cell? ⟨g, (4 * i + 2) * 2, none⟩ = some (.int .u8 (V (4 * i + 2))) := hOr.cell (i := 4 * i + 2) (by omega) (j := 0) (by omega)
        have fl := hOr.frozen ((4 * i + 2) * 2)
        have hgl := hOr.lt.1
        obtain ⟨a0, a1⟩ := and127 (V (4 * i + 2)) (HVR.out _ (by omega)).1 (HVR.out _ (by omega)).2
        obtain ⟨lk1, hlk1⟩ : ∃ l, l = bits BinOp.and IntKind.u8 (V (4 * i + 2)) 127 := ⟨_, rfl⟩
        rw [← hlk1] at a0 a1
        have hO1 := hOr.store (k := 4 * i + 2) lk1 (by omega)
        have hV1 : ∀ k, k < 256 → 0 ≤ (if k = 4 * i + 2 then lk1 else V k) ∧ (if k = 4 * i + 2 then lk1 else V k) ≤ 255 := fun k hk => by
          by_cases e : k = 4 * i + 2
          · rw [if_pos e]; omega
          · rw [if_neg e]; exact HVR.out k hk
        have hne : ⟨g, (4 * i + 2) * 2, none⟩ ≠ (⟨w.heap.size, 0, none⟩ : Addr) := by intro e; cases e
        have HLK := hidI hlk1
        clear hlk1
        go_wp2_with fail
        rw [← HLK.out]
        obtain ⟨A, hA⟩ : ∃ A, A = adr (V (4 * i)) (V (4 * i + 1)) lk1 (y + j) true tb := ⟨_, rfl⟩
        have hVy : V (4 * i) = y := (HVE.out _ (by omega)).trans HY.out.symm
        obtain ⟨r0, r1, r2, r3, r4⟩ := adr_row (V (4 * i)) (V (4 * i + 1)) lk1 (y + j) true tb j (by rw [hVy]; exact row_up y lk1 true j (by omega) (by show _ < (if _ then (16 : Int) else 8); simp; omega) (by omega)) (by omega) (by show _ < (if _ then (16 : Int) else 8); simp; omega) (HVR.out _ (by omega)).1 (HVR.out _ (by omega)).2
        have HVY := hidI hVy; clear hVy
        refine (adrD hO1 hcap i hi64 (y + j) (by omega) (by omega) hV1 true tb A (by rw [hA]; show adr (if _ then _ else _) (if _ then _ else _) (if _ then _ else _) _ _ _ = _; rw [if_neg (by omega), if_neg (by omega), if_pos rfl])).mono ?_
        rw [← hA] at r0 r1 r2 r3 r4
        have HA := hidI hA; clear hA
        rintro e w3 ⟨rfl, b3⟩
        rw [World.size_setCell] at b3
        have hO3 := hO1.below (w' := w3) (by rw [World.size_setCell]; exact b3)
        have hb3 : Below (w.heap.size + 1) w1 w3 := (hbl.setCell (p := ⟨g, (4 * i + 2) * 2, none⟩) hgl (.int .u8 lk1)).trans (b3.mono (by have := hbl.size; have := hOr.lt.2; omega))
        have p0' : w3.cell? ⟨w.heap.size, 0, none⟩ = some (.int .i64 i) := (hb3.cell (by show w.heap.size < _; omega)).trans q0
        have p1' : w3.cell? ⟨w.heap.size, 1, none⟩ = some (.int .i64 line) := (hb3.cell (by show w.heap.size < _; omega)).trans q1
        have p2' : w3.cell? ⟨w.heap.size, 2, none⟩ = some (.bool true) := (hb3.cell (by show w.heap.size < _; omega)).trans q2
        have p3' : w3.cell? ⟨w.heap.size, 3, none⟩ = some (.bool tb) := (hb3.cell (by show w.heap.size < _; omega)).trans q3
        have cl3 : w3.cell? ⟨g, (4 * i + 2) * 2, none⟩ = some (.int .u8 lk1) := (hO3.cell (i := 4 * i + 2) (by omega) (j := 0) (by omega)).trans (by show some (Value.int .u8 (if _ then _ else _)) = _; rw [if_pos rfl])
        have fl3 := hO3.frozen ((4 * i + 2) * 2)
        obtain ⟨d0, d1⟩ := or128 lk1 (by omega) (by omega)
        obtain ⟨lk2, hlk2⟩ : ∃ l, l = bits BinOp.or IntKind.u8 lk1 128 := ⟨_, rfl⟩
        rw [← hlk2] at d0 d1
        have hO4 := (hO3.store (k := 4 * i + 2) lk2 (by omega)).vals (V' := fun k => if k = 4 * i + 2 then lk2 else V k) (S' := sL L) (fun k _ => ⟨by show (if _ then _ else (if _ then _ else _)) = (if _ then _ else _); split <;> rfl, rfl⟩)
        have hV4 : ∀ k, k < 256 → 0 ≤ (if k = 4 * i + 2 then lk2 else V k) ∧ (if k = 4 * i + 2 then lk2 else V k) ≤ 255 := fun k hk => by
          by_cases e : k = 4 * i + 2
          · rw [if_pos e]; omega
          · rw [if_neg e]; exact HVR.out k hk
        have HLK2 := hidI hlk2; clear hlk2
        clear cl fl p0 p1 p2 p3
        go_wp2_with fail
        rw [← HLK2.out]
        have hA2 : adr (if 4 * i = 4 * i + 2 then lk2 else V (4 * i)) (if 4 * i + 1 = 4 * i + 2 then lk2 else V (4 * i + 1)) (if 4 * i + 2 = 4 * i + 2 then lk2 else V (4 * i + 2)) (y + 16 - 1 - j) true tb = A := by
          rw [if_neg (by omega), if_neg (by omega), if_pos rfl, HA.out]
          unfold adr
          rw [HVY.out, row_up y lk1 true j (by omega) (by show _ < (if _ then (16 : Int) else 8); simp; omega) (by omega), (show rowS y lk2 (y + 16 - 1 - j) true = j from row_down y lk2 true j (by omega) (by show _ < (if _ then (16 : Int) else 8); simp; omega) (by omega))]
        refine (adrD hO4 hcap i hi64 (y + 16 - 1 - j) (by omega) (by omega) hV4 true tb A hA2).mono ?_
        clear hA2
        rintro e w4 ⟨rfl, b4⟩
        rw [World.size_setCell] at b4
        have hO5 := hO4.below (w' := w4) (by rw [World.size_setCell]; exact b4)
        have hb4 : Below (w.heap.size + 1) w1 w4 := (hb3.setCell (p := ⟨g, (4 * i + 2) * 2, none⟩) hgl (.int .u8 lk2)).trans (b4.mono (by have := hb3.size; omega))
        clear p0' p1' p2' p3'
        have p0 : w4.cell? ⟨w.heap.size, 0, none⟩ = some (.int .i64 i) := (hb4.cell (by show w.heap.size < _; omega)).trans q0
        have p2 : w4.cell? ⟨w.heap.size, 2, none⟩ = some (.bool true) := (hb4.cell (by show w.heap.size < _; omega)).trans q2
        have p3 : w4.cell? ⟨w.heap.size, 3, none⟩ = some (.bool tb) := (hb4.cell (by show w.heap.size < _; omega)).trans q3
        have e7 := and7 A r0 r1
        have e8 : A % 8 = (j : Int) % 8 := r2
        go_wp2_with fail
        have e1 := and1w (A / 16) (by omega) (by omega)
        have e9 := r3 (by simp)
        by_cases hj8 : (7 : Int) < j
        · rw [if_pos (by omega)] at e9
          rw [e9] at e1
          go_quiet (fail)
          go_wp2_with fail
          exact rnd_end hlt hO5 hV4 HVE.out hb4
        · rw [if_neg (by omega)] at e9
          rw [e9] at e1
          have hd : decide ((7 : Int) < (j : Int)) = false := decide_eq_false hj8
          go_quiet (fail)
          go_wp2_with fail
          exact rnd_end hlt hO5 hV4 HVE.out hb4
      · obtain rfl : j = 16 := by omega
        go_wp2_with fail
        refine (awake_any _).mono ?_
        rintro e w3 ⟨rfl, b3⟩
        go_wp2
        go_ret
        have bx := bw.trans (hbl.mono (by omega))
        exact ⟨rfl, bx.trans (b3.mono bx.size)⟩
  · go_wp2_with fail
    refine (awake_any _).mono ?_
    rintro e w3 ⟨rfl, b3⟩
    go_wp2
    go_ret
    exact ⟨rfl, bw.trans (b3.mono bw.size)⟩
end Go.Proofs.Ytdmcmlajpajaaaa
